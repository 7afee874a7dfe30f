/- Lists of things in memory by their kinds; what is read is found by looking; without conditions. -/
import Derived.Test.YtcphpcjcbmennaaKk
import Derived.Laws.CopyRow
import Derived.Laws.IdiomCopy
import Derived.Lib.AppendZeros
set_option linter.unusedVariables false
set_option linter.unusedSimpArgs false
set_option linter.unnecessarySimpa false
set_option linter.deprecated false
namespace Go.K
open Go
set_option linter.unusedVariables false
/-- How a thing lies in cells. -/
structure Enc (α : Type) where
  f : α → List Value
  k : Nat
  pos : 0 < k
  len : ∀ x, (f x).length = k
  one : ∀ x, oneCells (f x) = true
def Enc.fl {α : Type} (e : Enc α) (l : List α) : List Value := l.flatMap e.f
section
variable {α : Type} {e : Enc α}
theorem Enc.fl_length (e : Enc α) (l : List α) : (e.fl l).length = l.length * e.k := flat_length e.f e.k e.len l
theorem Enc.fl_append (e : Enc α) (l m : List α) : e.fl (l ++ m) = e.fl l ++ e.fl m := by simp [Enc.fl]
theorem Enc.fl_nil (e : Enc α) : e.fl [] = [] := rfl
theorem oneCells_append : ∀ {xs ys : List Value}, oneCells xs = true → oneCells ys = true → oneCells (xs ++ ys) = true
  | [], _, _, h => h
  | x :: xs, ys, h1, h2 => by
    simp only [oneCells, Bool.and_eq_true, List.cons_append] at h1 ⊢
    exact ⟨h1.1, oneCells_append h1.2 h2⟩
theorem Enc.fl_one (e : Enc α) : ∀ l : List α, oneCells (e.fl l) = true
  | [] => rfl
  | x :: l => oneCells_append (e.one x) (e.fl_one l)
theorem Enc.fl_get (e : Enc α) {l : List α} {i j : Nat} {x : α} (h : l[i]? = some x) (hj : j < e.k) : (e.fl l)[i * e.k + j]? = (e.f x)[j]? := flat_get e.f e.k e.len l i j x h hj
theorem Enc.fl_drop (e : Enc α) (l : List α) (i : Nat) : (e.fl l).drop (i * e.k) = e.fl (l.drop i) := by
  induction i generalizing l with
  | zero => simp
  | succ i ih =>
    cases l with
    | nil => simp [Enc.fl]
    | cons x l =>
      have : e.fl (x :: l) = e.f x ++ e.fl l := rfl
      rw [List.drop_succ_cons, ← ih, this, Nat.succ_mul, Nat.add_comm, ← List.drop_drop, List.drop_left' (e.len x)]
theorem Enc.fl_take (e : Enc α) (l : List α) (i : Nat) : (e.fl l).take (i * e.k) = e.fl (l.take i) := by
  induction i generalizing l with
  | zero => simp [Enc.fl]
  | succ i ih =>
    cases l with
    | nil => simp [Enc.fl]
    | cons x l =>
      have h1 : e.fl (x :: l) = e.f x ++ e.fl l := rfl
      have h2 : e.fl (x :: l.take i) = e.f x ++ e.fl (l.take i) := rfl
      have h3 := e.len x
      rw [List.take_succ_cons, h2, ← ih, h1, Nat.succ_mul, List.take_append, h3]
      congr 1
      · rw [List.take_of_length_le (by omega)]
      · congr 1; omega
theorem Enc.fl_set (e : Enc α) {l : List α} {i : Nat} (y : α) (hi : i < l.length) : spliceO (e.fl l) (i * e.k) (e.f y) = some (e.fl (l.set i y)) := spliceO_flat e.f e.k e.len y hi
end
/-- A row of things of a kind. -/
def trow (a : Option Addr) (c : Nat) (T : TypeId) {α : Type} (e : Enc α) (l : List α) : Res := row a c e.k T (e.fl l)
/-- What was there when the call began, and is none of what the call was handed, reads so. -/
class Old (w0 : World) (L0 : List Res) (a : Option Addr) {α : outParam Type} (e : outParam (Enc α)) (l : outParam (List α)) : Prop where
  sl : Sl w0 e.k a l.length (e.fl l)
  ap : l ≠ [] → ∀ r ∈ L0, ¬ r.fp (bk a)
/-- What reads so wherever the call is now. -/
class Rd (w0 : World) (L0 L : List Res) (a : Option Addr) {α : outParam Type} (e : outParam (Enc α)) (l : outParam (List α)) : Prop where
  sl : ∀ w, Tr w0 L0 w L → Sl w e.k a l.length (e.fl l)
/-- A part of a slice. -/
class Part (a' : Option Addr) (a : outParam (Option Addr)) {α : outParam Type} (e : outParam (Enc α)) (l m : outParam (List α)) : Prop where
  sl : ∀ w, Sl w e.k a l.length (e.fl l) → Sl w e.k a' m.length (e.fl m)
  blk : m ≠ [] → bk a' = bk a ∧ l ≠ []
/-- What a call that is handed 'lc' beside 'F' may take as old. -/
class RdC (w0 : World) (L0 lc F : List Res) (a : Option Addr) {α : outParam Type} (e : outParam (Enc α)) (l : outParam (List α)) : Prop where
  out : ∀ w, Tr w0 L0 w (lc ++ F) → Old w lc a e l
section
variable {w0 w : World} {L0 L lc F : List Res} {a a' : Option Addr} {α : Type} {e : Enc α} {l m : List α}
theorem Sl.empty {k : Nat} {n : Nat} (a : Option Addr) (h : n = 0) (w : World) : Sl w k a n ([] : List Value) := ⟨by simp [h], fun hp => absurd hp (by omega), fun j v hj => by simp at hj⟩
theorem Old.now (h : Old w0 L0 a e l) (hT : Tr w0 L0 w L) : Sl w e.k a l.length (e.fl l) := by
  cases l with
  | nil => exact Sl.empty a rfl w
  | cons x l => exact h.sl.stay hT (h.ap (by simp))
theorem Old.lt (h : Old w0 L0 a e l) (hl : l ≠ []) : bk a < w0.heap.size := by
  cases l with
  | nil => exact absurd rfl hl
  | cons x l =>
    have hk := e.pos
    obtain ⟨v, hv⟩ : ∃ v, (e.fl (x :: l))[0]? = some v := by
      have : 0 < (e.fl (x :: l)).length := by rw [e.fl_length]; simp only [List.length_cons]; exact Nat.mul_pos (by omega) hk
      exact ⟨_, List.getElem?_eq_getElem this⟩
    have h1 := h.sl.cell 0 v hv
    simp only [World.cell?] at h1
    cases hb : w0.heap[bk a]? with
    | none => simp [hb] at h1
    | some o => exact (Array.getElem?_eq_some_iff.1 hb).1
theorem Old.call (h : Old w0 L0 a e l) (hT : Tr w0 L0 w (lc ++ F)) : Old w lc a e l := ⟨h.now hT, fun hl r hr hf => by
  rcases hT.new r (List.mem_append_left _ hr) _ hf with h1 | ⟨s, h1, h2⟩
  · have := h.lt hl; omega
  · exact h.ap hl s h1 h2⟩
theorem Old.of0 {k : Nat} {n : Nat} (hk : k = e.k) (hn : n = l.length) {xs : List Value} (hx : xs = e.fl l) (h : Sl w0 k a n xs) : Old w0 [] a e l := ⟨by subst hk hn hx; exact h, fun _ r hr => by cases hr⟩
theorem trow_sl (hT : Tr w0 L0 w L) {c : Nat} {T : TypeId} (hm : trow a c T e l ∈ L) : Sl w e.k a l.length (e.fl l) := hT.sl_row hm e.pos (e.fl_length l)
theorem trow_fp {c : Nat} {T : TypeId} (h : (trow a c T e l).ok w.heap) (hl : l ≠ []) : (trow a c T e l).fp (bk a) := by
  cases a with
  | none =>
    have h1 := (h.1 rfl).1
    have h2 := congrArg List.length h1
    rw [e.fl_length, List.length_nil] at h2
    have := e.pos
    cases l with
    | nil => exact absurd rfl hl
    | cons x l => have h3 := Nat.mul_pos (Nat.succ_pos l.length) e.pos; simp only [List.length_cons] at h2; rw [h2] at h3; exact absurd h3 (Nat.lt_irrefl 0)
  | some p => exact ⟨p, rfl, rfl⟩
theorem trow_old {c : Nat} {T : TypeId} (hT : Tr w0 L0 w (lc ++ F)) (hm : trow a c T e l ∈ F) : Old w lc a e l := ⟨trow_sl hT (List.mem_append_right _ hm), fun hl r hr hf => by
  obtain ⟨i, hi⟩ := List.getElem?_of_mem hr
  obtain ⟨j, hj⟩ := List.getElem?_of_mem hm
  have hil : i < lc.length := (List.getElem?_eq_some_iff.1 hi).1
  exact hT.disj i (lc.length + j) r _ (by omega) (by rw [List.getElem?_append_left hil]; exact hi) (by rw [List.getElem?_append_right (by omega)]; simpa using hj) _ hf (trow_fp (hT.ok _ (List.mem_append_right _ hm)) hl)⟩
instance (priority := low) Rd.old [h : Old w0 L0 a e l] : Rd w0 L0 L a e l := ⟨fun w hT => h.now hT⟩
instance (priority := low) Rd.part [hp : Part a' a e l m] [h : Rd w0 L0 L a e l] : Rd w0 L0 L a' e m := ⟨fun w hT => hp.sl w (h.sl w hT)⟩
instance Rd.tail {r : Res} [h : Rd w0 L0 L a e l] : Rd w0 L0 (r :: L) a e l := ⟨fun w hT => h.sl w hT.drop_one⟩
instance Rd.head {c : Nat} {T : TypeId} : Rd w0 L0 (trow a c T e l :: L) a e l := ⟨fun w hT => trow_sl hT List.mem_cons_self⟩
instance (priority := low) RdC.old [h : Old w0 L0 a e l] : RdC w0 L0 lc F a e l := ⟨fun w hT => h.call hT⟩
instance (priority := low) RdC.part [hp : Part a' a e l m] [h : RdC w0 L0 lc F a e l] : RdC w0 L0 lc F a' e m := ⟨fun w hT => by
  have ho := h.out w hT
  exact ⟨hp.sl w ho.sl, fun hm r hr hf => by obtain ⟨h1, h2⟩ := hp.blk hm; rw [h1] at hf; exact ho.ap h2 r hr hf⟩⟩
/-- What is among others. -/
class In (r : Res) (F : List Res) : Prop where
  mem : r ∈ F
class InT (F : List Res) (a : Option Addr) (c : outParam Nat) (T : outParam TypeId) {α : outParam Type} (e : outParam (Enc α)) (l : outParam (List α)) : Prop where
  mem : trow a c T e l ∈ F
instance InT.tail {r : Res} {c : Nat} {T : TypeId} [h : InT F a c T e l] : InT (r :: F) a c T e l := ⟨List.mem_cons_of_mem _ h.mem⟩
instance InT.head {c : Nat} {T : TypeId} : InT (trow a c T e l :: F) a c T e l := ⟨List.mem_cons_self⟩
instance RdC.row {c : Nat} {T : TypeId} [h : InT F a c T e l] : RdC w0 L0 lc F a e l := ⟨fun w hT => trow_old hT h.mem⟩
end
/-! ### Resources found by looking -/
class Pk (L : List Res) (r : Res) (F : outParam (List Res)) : Prop where
  out : Sub (r :: F) L
theorem Sub.swap (r s : Res) (F : List Res) : Sub (r :: s :: F) (s :: r :: F) := Sub.take (i := 1) rfl (Sub.take (i := 0) rfl (Sub.refl F))
instance Pk.tail {L F : List Res} {r s : Res} [h : Pk L r F] : Pk (s :: L) r (s :: F) := ⟨(Sub.swap r s F).trans (h.out.cons s)⟩
instance Pk.head {L : List Res} {r : Res} : Pk (r :: L) r L := ⟨Sub.refl _⟩
/-- One of a family. -/
class PkG {γ : Type} (L : List Res) (R : γ → Res) (g : outParam γ) (F : outParam (List Res)) : Prop where
  out : Sub (R g :: F) L
instance PkG.tail {γ : Type} {L F : List Res} {R : γ → Res} {g : γ} {s : Res} [h : PkG L R g F] : PkG (s :: L) R g (s :: F) := ⟨(Sub.swap (R g) s F).trans (h.out.cons s)⟩
instance PkG.head {γ : Type} {L : List Res} {R : γ → Res} {g : γ} : PkG (R g :: L) R g L := ⟨Sub.refl _⟩
class Sb (L' L : List Res) : Prop where
  out : Sub L' L
instance Sb.nil {L : List Res} : Sb [] L := ⟨Sub.nil L⟩
instance Sb.cons {L' L F : List Res} {r : Res} [h : Pk L r F] [h2 : Sb L' F] : Sb (r :: L') L := ⟨(h2.out.cons r).trans h.out⟩
theorem sb {L' L : List Res} [h : Sb L' L] : Sub L' L := h.out
/-- A row of an address. -/
class PkT (L : List Res) (a : Option Addr) (c : outParam Nat) (T : outParam TypeId) {α : outParam Type} (e : outParam (Enc α)) (l : outParam (List α)) (F : outParam (List Res)) : Prop where
  out : Sub (trow a c T e l :: F) L
instance PkT.tail {L F : List Res} {s : Res} {a : Option Addr} {c : Nat} {T : TypeId} {α : Type} {e : Enc α} {l : List α} [h : PkT L a c T e l F] : PkT (s :: L) a c T e l (s :: F) := ⟨(Sub.swap _ s F).trans (h.out.cons s)⟩
instance PkT.head {L : List Res} {a : Option Addr} {c : Nat} {T : TypeId} {α : Type} {e : Enc α} {l : List α} : PkT (trow a c T e l :: L) a c T e l L := ⟨Sub.refl _⟩
/-! ### Kinds -/
def encI (k : IntKind) : Enc Int := ⟨fun x => [.int k x], 1, by decide, fun _ => rfl, fun _ => rfl⟩
def encB : Enc UInt8 := ⟨fun x => [.int .u8 (x.toNat : Int)], 1, by decide, fun _ => rfl, fun _ => rfl⟩
def encT : Enc Bool := ⟨fun x => [.bool x], 1, by decide, fun _ => rfl, fun _ => rfl⟩
def encS : Enc Bytes := ⟨fun x => [str x], 1, by decide, fun _ => rfl, fun _ => rfl⟩
theorem encB_fl (l : Bytes) : encB.fl l = bv l := by
  induction l with
  | nil => rfl
  | cons b l ih => show _ :: encB.fl l = _; rw [ih]; rfl
/-! ### An element's address -/
def elp (a : Option Addr) (o : Nat) : Value := .pointer (some ⟨bk a, of_ a + o, none⟩)
section
variable {P : Program} {ops : Array Oper} {Q : Exit → Act → World → Prop} {N : Nat} {U : Env} {w0 : World} {L0 L F : List Res} {ty : TypeId} {rest : List Oper} {pos : String} {after : Array Edge} {α : Type} {e : Enc α} {l m : List α} {a : Option Addr} {T E : TypeId} {x y : Operand}
theorem e_ixN {n k c j : Nat} {kd : IntKind} (hf : slOf P T = some (E, k)) (hx : opv U x = some (.slice a n c)) (hy : opv U y = some (.int kd (j : Int))) [h : Rd w0 L0 L a e l] (hk : e.k = k) (hn : n = l.length) (h1 : j < l.length) :
    Ev P U w0 L0 L (.indexAddr T x y) ty (Is (elp a (j * k))) No := fun ρ w dst pos after guard hρ hT => by
  subst hn
  exact e_indexAddrB hf hx hy (fun hp => (h.sl w hT).base hp) (by omega) (by omega) ρ w dst pos after guard hρ hT
theorem e_ix {n k c : Nat} {kd : IntKind} {i : Int} (hf : slOf P T = some (E, k)) (hx : opv U x = some (.slice a n c)) (hy : opv U y = some (.int kd i)) [h : Rd w0 L0 L a e l] (hk : e.k = k) (hn : n = l.length) (h0 : 0 ≤ i) (h1 : i < l.length) :
    Ev P U w0 L0 L (.indexAddr T x y) ty (Is (elp a (i.toNat * k))) No := fun ρ w dst pos after guard hρ hT => by
  subst hn
  exact e_indexAddrB hf hx hy (fun hp => (h.sl w hT).base hp) h0 h1 ρ w dst pos after guard hρ hT
theorem e_fa {o i k n : Nat} (hf : fieldOff P T i = some (E, k, n)) (hx : opv U x = some (elp a o)) : Ev P U w0 L0 L (.fieldAddr T x i) ty (Is (elp a (o + k))) No := by
  have := e_fieldAddr (P := P) (U := U) (w0 := w0) (L0 := L0) (L := L) (ty := ty) hf hx
  rw [Nat.add_assoc] at this
  exact this
theorem Sl.elem {w : World} {l : List α} (h : Sl w e.k a l.length (e.fl l)) {j o : Nat} {q : α} {v : Value} (hq : l[j]? = some q) (hv : (e.f q)[o]? = some v) : w.cell? ⟨bk a, of_ a + (j * e.k + o), none⟩ = some v := by
  refine h.cell _ _ ?_
  have ho := (List.getElem?_eq_some_iff.1 hv).1
  rw [e.len] at ho
  rw [e.fl_get hq ho]
  exact hv
/-- One cell of an element: its first, or one further on. -/
theorem e_ldE {j k : Nat} {q : α} {v : Value} (hA : ∀ w, (isAgg T).run P w = .ok false w) (hx : opv U x = some (elp a (j * k))) [h : Rd w0 L0 L a e l] (hk : e.k = k) (hq : l[j]? = some q) (hv : (e.f q)[0]? = some v) : Ev P U w0 L0 L (.load T x) ty (Is v) No := by
  subst hk
  exact e_loadw hA hx fun w hT => by have := (h.sl w hT).elem hq hv; rwa [Nat.add_zero] at this
theorem e_ldF {j k o : Nat} {q : α} {v : Value} (hA : ∀ w, (isAgg T).run P w = .ok false w) (hx : opv U x = some (elp a (j * k + o))) [h : Rd w0 L0 L a e l] (hk : e.k = k) (hq : l[j]? = some q) (hv : (e.f q)[o]? = some v) : Ev P U w0 L0 L (.load T x) ty (Is v) No := by
  subst hk
  exact e_loadw hA hx fun w hT => (h.sl w hT).elem hq hv
/-- A whole element; some of its cells. -/
theorem e_ldA {j k : Nat} {q : α} (hA : ∀ w, (isAgg T).run P w = .ok true w) (hS : ∀ w, (sizeOf T).run P w = .ok k w) (hx : opv U x = some (elp a (j * k))) [h : Rd w0 L0 L a e l] (hk : e.k = k) (hq : l[j]? = some q) : Ev P U w0 L0 L (.load T x) ty (Is (.agg (e.f q).toArray)) No := by
  subst hk
  exact e_loadsw hA hS hx (fun w hT i v hv => by have := (h.sl w hT).elem hq hv; rwa [← Nat.add_assoc] at this) (e.len q)
theorem e_ldAF {j k o n : Nat} {q : α} {vs : List Value} (hA : ∀ w, (isAgg T).run P w = .ok true w) (hS : ∀ w, (sizeOf T).run P w = .ok n w) (hx : opv U x = some (elp a (j * k + o))) [h : Rd w0 L0 L a e l] (hk : e.k = k) (hq : l[j]? = some q) (hv : takeO (e.f q) o n = some vs) : Ev P U w0 L0 L (.load T x) ty (Is (.agg vs.toArray)) No := by
  subst hk
  obtain ⟨h1, h2⟩ := takeO_spec hv
  have hl : vs.length = n := by rw [h2, List.length_take, List.length_drop]; omega
  refine e_loadsw hA hS hx (fun w hT i v hv => ?_) hl
  have hi := (List.getElem?_eq_some_iff.1 hv).1
  rw [h2, List.getElem?_take_of_lt (by omega), List.getElem?_drop] at hv
  have := (h.sl w hT).elem hq hv
  simpa only [Nat.add_assoc] using this
/-! ### Rows: nothing yet; what is built; what is put behind -/
theorem Tr.trow_nil (T : TypeId) (e : Enc α) {w : World} (hT : Tr w0 L0 w L) : Tr w0 L0 w (trow none 0 T e [] :: L) := hT.row_nil e.k T
theorem GC.trow0 {c : Code} (T : TypeId) (e : Enc α) (h : GC P c Q N U w0 L0 (trow none 0 T e [] :: L)) : GC P c Q N U w0 L0 L := fun a w hE hT => h a w hE (hT.trow_nil T e)
theorem GL.trow0 {ol : List Oper} (T : TypeId) (e : Enc α) (h : GL P ops Q ol N U w0 L0 (trow none 0 T e [] :: L)) : GL P ops Q ol N U w0 L0 L := fun a w hE hT => h a w hE (hT.trow_nil T e)
theorem GL.buildT {d : Tmp} {z : List Value} {bytes len : Nat} {parts : List (Nat × Operand)} {cs : List Value} (e : Enc α) (l : List α) (hm : mkOf P T = some (E, z, bytes)) (hl : Nat.ble (len * z.length) 16777216 = true)
    (hb : buildO U ((List.range len).map fun i => (i * z.length, z.length)) (zeros z len) parts = some cs) (he : cs = e.fl l) (hn : len = l.length) (hd : Nat.ble (d + 1) N = true)
    (hr : ∀ b, GL P ops Q rest N ((d, .slice (some ⟨b, 0, none⟩) l.length l.length) :: U) w0 L0 (trow (some ⟨b, 0, none⟩) l.length E e l :: L)) :
    GL P ops Q (⟨some d, .buildSlice T len parts.toArray, ty, pos, after, Option.none⟩ :: rest) N U w0 L0 L := by
  subst hn
  refine GL.buildSlice hm hl hb hd fun b => ?_
  subst he
  exact GL.cl_row (e.fl_length l) (hr b)
/-- An operation that takes over some of what there is. -/
theorem GL.evM {d : Tmp} {o : Op} {Pv : Value → Prop} {R : Value → Res} {lab : List Res} (h : M.EvM P U w0 L0 (lab ++ F) lab o ty Pv R) (hs : Sub (lab ++ F) L) (hd : Nat.ble (d + 1) N = true) (hr : ∀ v, Pv v → GL P ops Q rest N ((d, v) :: U) w0 L0 (R v :: F)) :
    GL P ops Q (⟨some d, o, ty, pos, after, Option.none⟩ :: rest) N U w0 L0 L := by
  intro a w hE hT
  refine wpList_plain rfl fun K hK => ?_
  have hT' := hT.sub hs
  refine M.wp_of_mov (h a.eval w (some d) pos after Option.none hE.op hT') fun v w' hv ht => hK _ _ ?_
  exact hr v hv _ _ (hE.put (Nat.le_of_ble_eq_true hd) v) (hT'.call (Sub.refl _) ht)
/-- The row behind a value. -/
def trowOf (T : TypeId) {α : Type} (e : Enc α) (l : List α) : Value → Res
  | .slice a _ c => trow a c T e l
  | _ => emp
theorem trow_cap {c : Nat} {T : TypeId} {w : World} (h : (trow a c T e l).ok w.heap) : l.length ≤ c := by
  cases a with
  | none =>
    have h1 := congrArg List.length (h.1 rfl).1
    rw [e.fl_length, List.length_nil] at h1
    have := e.pos
    rcases Nat.eq_zero_or_pos l.length with h0 | h0
    · omega
    · have := Nat.mul_pos h0 e.pos; omega
  | some p =>
    obtain ⟨_, junk, _, h1⟩ := h.2 p rfl
    rw [List.length_append, e.fl_length] at h1
    have : l.length * e.k ≤ c * e.k := by omega
    exact Nat.le_of_mul_le_mul_right this e.pos
theorem em_append {z : List Value} {bytes c c2 n2 n : Nat} {a2 : Option Addr} (hm : mkOf P T = some (E, z, bytes)) (hx : opv U x = some (.slice a n c)) (hn : n = l.length) (hk : e.k = z.length) (hy : opv U y = some (.slice a2 n2 c2))
    (h2 : ∀ w, Tr w0 L0 w L → Sl w e.k a2 m.length (e.fl m)) (hrow : ∀ w, Tr w0 L0 w L → (trow a c E e l).ok w.heap) (hn2 : n2 = m.length) (hb : (l.length + m.length) * bytes ≤ 140737488355328) (h63 : l.length + m.length ≤ 9223372036854775807) :
    M.EvM P U w0 L0 L [trow a c E e l] (.call ⟨.builtin .append, #[x, y], #[T, T]⟩) ty (fun v => ∃ a' c', v = .slice a' (l ++ m).length c') (trowOf E e (l ++ m)) := by
  subst hn hn2
  intro ρ w dst pos after guard hρ hT
  have := e_appendM (P := P) (U := U) (w0 := w0) (L0 := L0) (L := L) (ty := ty) hm hk hx (e.fl_length l) (trow_cap (hrow w hT)) hy h2 hrow (oneCells_spec (e.fl_one m)) hb h63 ρ w dst pos after guard hρ hT
  revert this
  unfold M.movUpon
  have key : ∀ v, rowOf e.k E (e.fl l ++ e.fl m) v = trowOf E e (l ++ m) v := fun v => by
    unfold rowOf trowOf trow
    rw [e.fl_append]
    cases v <;> rfl
  split
  · rintro ⟨⟨a', c', h1, h2⟩, h3⟩
    exact ⟨⟨a', c', by rw [List.length_append]; exact h1⟩, by rw [← key]; exact h3⟩
  · rintro ⟨⟨a', c', h1, h2⟩, h3⟩
    exact ⟨⟨a', c', by rw [List.length_append]; exact h1⟩, by rw [← key]; exact h3⟩
  · rintro ⟨h0, hc⟩
    exact ⟨h0, hc.mono fun e' w'' ⟨v, h1, ⟨a', c', h4, h5⟩, h3⟩ => ⟨v, h1, ⟨a', c', by rw [List.length_append]; exact h4⟩, by rw [← key]; exact h3⟩⟩
  · exact id
theorem GL.appendT {d : Tmp} {z : List Value} {bytes c c2 n2 n : Nat} {a2 : Option Addr} (hm : mkOf P T = some (E, z, bytes)) (hx : opv U x = some (.slice a n c)) [hp : PkT L a c E e l F] (hn : n = l.length) (hk : e.k = z.length)
    (hy : opv U y = some (.slice a2 n2 c2)) [h2 : Rd w0 L0 (trow a c E e l :: F) a2 e m] (hn2 : n2 = m.length) (hb : (l.length + m.length) * bytes ≤ 140737488355328) (h63 : l.length + m.length ≤ 9223372036854775807) (hd : Nat.ble (d + 1) N = true)
    (hr : ∀ a' c', GL P ops Q rest N ((d, .slice a' (l ++ m).length c') :: U) w0 L0 (trow a' c' E e (l ++ m) :: F)) :
    GL P ops Q (⟨some d, .call ⟨.builtin .append, #[x, y], #[T, T]⟩, ty, pos, after, Option.none⟩ :: rest) N U w0 L0 L :=
  GL.evM (lab := [trow a c E e l]) (em_append hm hx hn hk hy h2.sl (fun w hT => hT.ok _ List.mem_cons_self) hn2 hb h63) hp.out hd fun v ⟨a', c', hv⟩ => by
    subst hv; exact hr a' c'
/-! ### Parts -/
theorem Part.of {lo hi c : Nat} (h1 : lo ≤ hi) (h2 : hi ≤ l.length) (h3 : hi ≤ c) : Part (if c = lo then a else a.map (·.add (lo * e.k))) a e l ((l.take hi).drop lo) := ⟨fun w h => by
  have h4 := h.takeH h2
  rw [e.fl_take] at h4
  have h5 := h4.dropL h1 h3
  rw [e.fl_drop] at h5
  rw [List.length_drop, List.length_take, Nat.min_eq_left h2]
  exact h5, fun hm => by
  have hlt : lo < hi := by
    apply Classical.byContradiction
    intro h
    exact hm (List.drop_of_length_le (by rw [List.length_take]; omega))
  refine ⟨?_, fun h => by subst h; simp at h2; omega⟩
  rw [if_neg (by omega)]
  cases a with
  | none => rfl
  | some p => simp only [Option.map_some, bk, Addr.add]; split <;> rfl⟩
theorem Part.trans {a1 a2 : Option Addr} {m1 m2 : List α} (h1 : Part a1 a e l m1) (h2 : Part a2 a1 e m1 m2) : Part a2 a e l m2 := ⟨fun w h => h2.sl w (h1.sl w h), fun hm => by
  obtain ⟨h3, h4⟩ := h2.blk hm
  obtain ⟨h5, h6⟩ := h1.blk h4
  exact ⟨h3.trans h5, h6⟩⟩
section
variable {z : Operand} {k n c : Nat} {ki kj km : IntKind} {i j u : Int}
theorem e_slice_l (hf : slOf P T = some (E, k)) (hx : opv U x = some (.slice a n c)) (hy : opv U y = some (.int ki i)) (h0 : 0 ≤ i) (h1 : i ≤ n) : Ev P U w0 L0 L (.slice T x (some y) Option.none Option.none) ty (Is (sliced a i.toNat n c k)) No :=
  .val fun ρ w dst pos after guard hρ hT => by
    obtain ⟨h2, _, h3⟩ := slOf_spec hf
    have h4 : P.underlying T = some (.slice (P.elem T)) := by simp [Program.elem, h2]
    have h5 : P.elem T = E := by simp [Program.elem, h2]
    have h6 := run_sliceAt_slice (P := P) w T (.slice a n c) (some (.int ki i)) Option.none Option.none h4
    have h7 := run_slice_l (P := P) w T a n c h4 ki i h0 h1
    rw [h5, h3] at h7
    simp only [Result.andThen_ok] at h7
    simp [execOp, hρ _ _ hx, hρ _ _ hy, h6, h7]
theorem e_slice_h (hf : slOf P T = some (E, k)) (hx : opv U x = some (.slice a n c)) (hy : opv U y = some (.int ki i)) (h0 : 0 ≤ i) (h1 : i ≤ c) : Ev P U w0 L0 L (.slice T x Option.none (some y) Option.none) ty (Is (sliced a 0 i.toNat c k)) No :=
  .val fun ρ w dst pos after guard hρ hT => by
    obtain ⟨h2, _, h3⟩ := slOf_spec hf
    have h4 : P.underlying T = some (.slice (P.elem T)) := by simp [Program.elem, h2]
    have h5 : P.elem T = E := by simp [Program.elem, h2]
    have h6 := run_sliceAt_slice (P := P) w T (.slice a n c) Option.none (some (.int ki i)) Option.none h4
    have h7 := run_slice_h (P := P) w T a n c h4 ki i h0 h1
    rw [h5, h3] at h7
    simp only [Result.andThen_ok] at h7
    simp [execOp, hρ _ _ hx, hρ _ _ hy, h6, h7]
theorem e_slice_lh (hf : slOf P T = some (E, k)) (hx : opv U x = some (.slice a n c)) (hy : opv U y = some (.int ki i)) (hz : opv U z = some (.int kj j)) (h0 : 0 ≤ i) (h1 : i ≤ j) (h2 : j ≤ c) : Ev P U w0 L0 L (.slice T x (some y) (some z) Option.none) ty (Is (sliced a i.toNat j.toNat c k)) No :=
  .val fun ρ w dst pos after guard hρ hT => by
    obtain ⟨h2', _, h3⟩ := slOf_spec hf
    have h4 : P.underlying T = some (.slice (P.elem T)) := by simp [Program.elem, h2']
    have h5 : P.elem T = E := by simp [Program.elem, h2']
    have h6 := run_sliceAt_slice (P := P) w T (.slice a n c) (some (.int ki i)) (some (.int kj j)) Option.none h4
    have h7 := run_slice_lh (P := P) w T a n c h4 ki kj i j h0 h1 h2
    rw [h5, h3] at h7
    simp only [Result.andThen_ok] at h7
    simp [execOp, hρ _ _ hx, hρ _ _ hy, hρ _ _ hz, h6, h7]
theorem e_slice_lhm {t : Operand} (hf : slOf P T = some (E, k)) (hx : opv U x = some (.slice a n c)) (hy : opv U y = some (.int ki i)) (hz : opv U z = some (.int kj j)) (ht : opv U t = some (.int km u)) (h0 : 0 ≤ i) (h1 : i ≤ j) (h2 : j ≤ u) (h3 : u ≤ c) : Ev P U w0 L0 L (.slice T x (some y) (some z) (some t)) ty (Is (sliced a i.toNat j.toNat u.toNat k)) No :=
  .val fun ρ w dst pos after guard hρ hT => by
    obtain ⟨h2', _, h3'⟩ := slOf_spec hf
    have h4 : P.underlying T = some (.slice (P.elem T)) := by simp [Program.elem, h2']
    have h5 : P.elem T = E := by simp [Program.elem, h2']
    have h6 := run_sliceAt_slice (P := P) w T (.slice a n c) (some (.int ki i)) (some (.int kj j)) (some (.int km u)) h4
    have h7 := run_slice_lhm (P := P) w T a n c h4 ki kj km i j u h0 h1 h2 h3
    rw [h5, h3'] at h7
    simp only [Result.andThen_ok] at h7
    simp [execOp, hρ _ _ hx, hρ _ _ hy, hρ _ _ hz, hρ _ _ ht, h6, h7]
/-- A part of what reads so, of which this is told. -/
theorem GL.part {d : Tmp} {op : Op} {lo hi : Nat} (h : Ev P U w0 L0 L op ty (Is (sliced a lo hi c k)) No) [hR : Rd w0 L0 L a e l] (hk : e.k = k) (h1 : lo ≤ hi) (h2 : hi ≤ l.length) (h3 : hi ≤ c) (hm : (l.take hi).drop lo = m) (hd : Nat.ble (d + 1) N = true)
    (hr : ∀ a', Part a' a e l m → m.length ≤ c - lo → GL P ops Q rest N ((d, .slice a' m.length (c - lo)) :: U) w0 L0 L) :
    GL P ops Q (⟨some d, op, ty, pos, after, Option.none⟩ :: rest) N U w0 L0 L := by
  subst hk hm
  refine GL.det h hd ?_
  have hl : ((l.take hi).drop lo).length = hi - lo := by rw [List.length_drop, List.length_take, Nat.min_eq_left h2]
  have := hr _ (Part.of h1 h2 h3) (by omega)
  rw [hl] at this
  exact this
theorem GL.partL {d : Tmp} {j : Nat} (hf : slOf P T = some (E, k)) (hx : opv U x = some (.slice a n c)) (hy : opv U y = some (.int ki (j : Int))) [hR : Rd w0 L0 L a e l] (hk : e.k = k) (hn : n = l.length) (hj : j ≤ l.length) (hc : l.length ≤ c) (hd : Nat.ble (d + 1) N = true)
    (hr : ∀ a', Part a' a e l (l.drop j) → (l.drop j).length ≤ c - j → GL P ops Q rest N ((d, .slice a' (l.drop j).length (c - j)) :: U) w0 L0 L) :
    GL P ops Q (⟨some d, .slice T x (some y) Option.none Option.none, ty, pos, after, Option.none⟩ :: rest) N U w0 L0 L := by
  subst hn
  exact GL.part (e_slice_l hf hx hy (by omega) (by omega)) hk hj (Nat.le_refl _) hc (by rw [List.take_length]; rfl) hd hr
theorem GL.partH {d : Tmp} {j : Nat} (hf : slOf P T = some (E, k)) (hx : opv U x = some (.slice a n c)) (hy : opv U y = some (.int ki (j : Int))) [hR : Rd w0 L0 L a e l] (hk : e.k = k) (hn : n = l.length) (hj : j ≤ l.length) (hc : l.length ≤ c) (hd : Nat.ble (d + 1) N = true)
    (hr : ∀ a', Part a' a e l (l.take j) → (l.take j).length ≤ c → GL P ops Q rest N ((d, .slice a' (l.take j).length c) :: U) w0 L0 L) :
    GL P ops Q (⟨some d, .slice T x Option.none (some y) Option.none, ty, pos, after, Option.none⟩ :: rest) N U w0 L0 L := by
  subst hn
  exact GL.part (e_slice_h hf hx hy (by omega) (by omega)) hk (Nat.zero_le _) hj (by omega) rfl hd hr
theorem GL.partLH {d : Tmp} {i j : Nat} (hf : slOf P T = some (E, k)) (hx : opv U x = some (.slice a n c)) (hy : opv U y = some (.int ki (i : Int))) (hz : opv U z = some (.int kj (j : Int))) [hR : Rd w0 L0 L a e l] (hk : e.k = k) (hn : n = l.length) (hi : i ≤ j) (hj : j ≤ l.length) (hc : l.length ≤ c) (hd : Nat.ble (d + 1) N = true)
    (hr : ∀ a', Part a' a e l ((l.take j).drop i) → ((l.take j).drop i).length ≤ c - i → GL P ops Q rest N ((d, .slice a' ((l.take j).drop i).length (c - i)) :: U) w0 L0 L) :
    GL P ops Q (⟨some d, .slice T x (some y) (some z) Option.none, ty, pos, after, Option.none⟩ :: rest) N U w0 L0 L := by
  subst hn
  exact GL.part (e_slice_lh hf hx hy hz (by omega) (by omega) (by omega)) hk hi hj (by omega) rfl hd hr
end
end
end Go.K

namespace Go.K
open Go
set_option linter.unusedVariables false
section
variable {P : Program} {ops : Array Oper} {Q : Exit → Act → World → Prop} {N : Nat} {U : Env} {w0 : World} {L0 L F : List Res} {ty : TypeId} {rest : List Oper} {pos : String} {after : Array Edge} {α : Type} {e : Enc α} {l m : List α} {a : Option Addr} {T E Y : TypeId} {x y : Operand}
theorem GL.ixK {d : Tmp} {n k c j : Nat} {kd : IntKind} {q : α} (hf : slOf P T = some (E, k)) (hx : opv U x = some (.slice a n c)) (hy : opv U y = some (.int kd (j : Int))) [h : Rd w0 L0 L a e l] (hk : e.k = k) (hn : n = l.length) (hq : l[j]? = some q) (hd : Nat.ble (d + 1) N = true)
    (hr : GL P ops Q rest N ((d, elp a (j * k)) :: U) w0 L0 L) : GL P ops Q (⟨some d, .indexAddr T x y, ty, pos, after, Option.none⟩ :: rest) N U w0 L0 L :=
  GL.det (e_ixN hf hx hy hk hn (List.getElem?_eq_some_iff.1 hq).1) hd hr
theorem GL.ix {d : Tmp} {n k c j : Nat} {kd : IntKind} (hf : slOf P T = some (E, k)) (hx : opv U x = some (.slice a n c)) (hy : opv U y = some (.int kd (j : Int))) [h : Rd w0 L0 L a e l] (hk : e.k = k) (hn : n = l.length) (h1 : j < l.length) (hd : Nat.ble (d + 1) N = true)
    (hr : ∀ q, l[j]? = some q → GL P ops Q rest N ((d, elp a (j * k)) :: U) w0 L0 L) : GL P ops Q (⟨some d, .indexAddr T x y, ty, pos, after, Option.none⟩ :: rest) N U w0 L0 L := by
  obtain ⟨q, hq⟩ := get_ex h1
  exact GL.ixK hf hx hy hk hn hq hd (hr q hq)
theorem GL.ixKI {d : Tmp} {n k c : Nat} {kd : IntKind} {i : Int} {q : α} (hf : slOf P T = some (E, k)) (hx : opv U x = some (.slice a n c)) (hy : opv U y = some (.int kd i)) [h : Rd w0 L0 L a e l] (hk : e.k = k) (hn : n = l.length) (h0 : 0 ≤ i) (hq : l[i.toNat]? = some q) (hd : Nat.ble (d + 1) N = true)
    (hr : GL P ops Q rest N ((d, elp a (i.toNat * k)) :: U) w0 L0 L) : GL P ops Q (⟨some d, .indexAddr T x y, ty, pos, after, Option.none⟩ :: rest) N U w0 L0 L :=
  GL.det (e_ix hf hx hy hk hn h0 (by have := (List.getElem?_eq_some_iff.1 hq).1; omega)) hd hr
theorem GL.ixI {d : Tmp} {n k c : Nat} {kd : IntKind} {i : Int} (hf : slOf P T = some (E, k)) (hx : opv U x = some (.slice a n c)) (hy : opv U y = some (.int kd i)) [h : Rd w0 L0 L a e l] (hk : e.k = k) (hn : n = l.length) (h0 : 0 ≤ i) (h1 : i < l.length) (hd : Nat.ble (d + 1) N = true)
    (hr : ∀ q, l[i.toNat]? = some q → GL P ops Q rest N ((d, elp a (i.toNat * k)) :: U) w0 L0 L) : GL P ops Q (⟨some d, .indexAddr T x y, ty, pos, after, Option.none⟩ :: rest) N U w0 L0 L := by
  obtain ⟨q, hq⟩ := get_ex (l := l) (i := i.toNat) (by omega)
  exact GL.ixKI hf hx hy hk hn h0 hq hd (hr q hq)
theorem e_str {S D B : TypeId} {n c : Nat} {l : Bytes} (hs : P.underlying S = some (.slice B)) (he : P.underlying B = some (.int .u8)) (hd : P.underlying D = some .string) (hx : opv U x = some (.slice a n c)) [h : Rd w0 L0 L a encB l] (hn : n = l.length) : Ev P U w0 L0 L (.convert S D x) ty (Is (str l)) No := by
  subst hn
  exact e_b2sw hs he hd hx fun w hT => by have := h.sl w hT; rw [encB_fl] at this; exact this
theorem e_cap {n c : Nat} (hu : P.underlying T = some (.slice E)) (hx : opv U x = some (.slice a n c)) : Ev P U w0 L0 L (.call ⟨.builtin .cap, #[x], #[T]⟩) ty (Is (.int .i64 c)) No :=
  .val fun ρ w dst pos after guard hρ hT => by
    simp [execOp, hρ _ _ hx, go_sem, Builtin.cap_, run_underlying hu, goInt]
/-! ### Numbers of 8 and of 32 bits -/
def b8 (x : Int) : UInt8 := UInt8.ofNat (x % 256).toNat
theorem b8_toNat (x : Int) : ((b8 x).toNat : Int) = x % 256 := by
  unfold b8
  simp only [UInt8.toNat_ofNat']
  omega
theorem wrap8 (x : Int) : IntKind.u8.wrap x = ((b8 x).toNat : Int) := by
  rw [b8_toNat]
  simp [IntKind.wrap, IntKind.bits, IntKind.signed]
theorem wrap32 (x : Int) : IntKind.u32.wrap x = ((BitVec.ofInt 32 x).toNat : Int) := by
  simp [IntKind.wrap, IntKind.bits, IntKind.signed, BitVec.toNat_ofInt]
  omega
theorem ofInt_toNat32 (r : BitVec 32) : BitVec.ofInt 32 (r.toNat : Int) = r := by simp
theorem e_c8 {S D : TypeId} {k : IntKind} {i : Int} {d : TypeDesc} (hs : P.underlying S = some d) (hu : P.underlying D = some (.int .u8)) (hx : opv U x = some (.int k i)) : Ev P U w0 L0 L (.convert S D x) ty (Is (.int .u8 ((b8 i).toNat : Int))) No := (e_convw hs hu hx).cast (by rw [wrap8])
theorem e_c8_32 {S D : TypeId} {k : IntKind} {r : BitVec 32} {d : TypeDesc} (hs : P.underlying S = some d) (hu : P.underlying D = some (.int .u8)) (hx : opv U x = some (.int k (r.toNat : Int))) : Ev P U w0 L0 L (.convert S D x) ty (Is (.int .u8 ((UInt8.ofNat r.toNat).toNat : Int))) No := (e_convw hs hu hx).cast (by
  rw [wrap8]
  congr 2
  have h := b8_toNat (r.toNat : Int)
  simp only [UInt8.toNat_ofNat']
  omega)
theorem e_c64_8 {S D : TypeId} {b : UInt8} {d : TypeDesc} (hs : P.underlying S = some d) (hu : P.underlying D = some (.int .i64)) (hx : opv U x = some (.int .u8 (b.toNat : Int))) : Ev P U w0 L0 L (.convert S D x) ty (Is (.int .i64 (b.toNat : Int))) No :=
  e_conv hs hu hx (wrap_i64 (by omega) (by have := b.toNat_lt; omega))
theorem e_c32_8 {S D : TypeId} {b : UInt8} {d : TypeDesc} (hs : P.underlying S = some d) (hu : P.underlying D = some (.int .u32)) (hx : opv U x = some (.int .u8 (b.toNat : Int))) : Ev P U w0 L0 L (.convert S D x) ty (Is (.int .u32 ((BitVec.ofNat 32 b.toNat).toNat : Int))) No :=
  (e_convw hs hu hx).cast (by rw [wrap32]; congr 3)
theorem e_c32 {S D : TypeId} {k : IntKind} {i : Int} {d : TypeDesc} (hs : P.underlying S = some d) (hu : P.underlying D = some (.int .u32)) (hx : opv U x = some (.int k i)) : Ev P U w0 L0 L (.convert S D x) ty (Is (.int .u32 ((BitVec.ofInt 32 i).toNat : Int))) No := (e_convw hs hu hx).cast (by rw [wrap32])
section
variable {r s : BitVec 32} {i : Int} {k : IntKind}
theorem bits32 (v : BitVec 32) : IntKind.u32.wrap (v.toNat : Int) = (v.toNat : Int) := wrap_u32 (by omega) (by have := v.isLt; omega)
theorem e_xor32 (hx : opv U x = some (.int .u32 (r.toNat : Int))) (hy : opv U y = some (.int .u32 (s.toNat : Int))) : Ev P U w0 L0 L (.binOp .xor T x y Y) ty (Is (.int .u32 ((r ^^^ s).toNat : Int))) No :=
  (e_xor hx hy).cast (by show Value.int .u32 (IntKind.u32.wrap ((BitVec.ofInt 32 (r.toNat : Int) ^^^ BitVec.ofInt 32 (s.toNat : Int)).toNat : Int)) = _; rw [ofInt_toNat32, ofInt_toNat32, bits32])
theorem e_xor32c (hx : opv U x = some (.int .u32 (r.toNat : Int))) (hy : opv U y = some (.int .u32 i)) : Ev P U w0 L0 L (.binOp .xor T x y Y) ty (Is (.int .u32 ((r ^^^ BitVec.ofInt 32 i).toNat : Int))) No :=
  (e_xor hx hy).cast (by show Value.int .u32 (IntKind.u32.wrap ((BitVec.ofInt 32 (r.toNat : Int) ^^^ BitVec.ofInt 32 i).toNat : Int)) = _; rw [ofInt_toNat32, bits32])
theorem e_and32 (hx : opv U x = some (.int .u32 (r.toNat : Int))) (hy : opv U y = some (.int .u32 (s.toNat : Int))) : Ev P U w0 L0 L (.binOp .and T x y Y) ty (Is (.int .u32 ((r &&& s).toNat : Int))) No :=
  (e_and hx hy).cast (by show Value.int .u32 (IntKind.u32.wrap ((BitVec.ofInt 32 (r.toNat : Int) &&& BitVec.ofInt 32 (s.toNat : Int)).toNat : Int)) = _; rw [ofInt_toNat32, ofInt_toNat32, bits32])
theorem e_and32c (hx : opv U x = some (.int .u32 (r.toNat : Int))) (hy : opv U y = some (.int .u32 i)) : Ev P U w0 L0 L (.binOp .and T x y Y) ty (Is (.int .u32 ((r &&& BitVec.ofInt 32 i).toNat : Int))) No :=
  (e_and hx hy).cast (by show Value.int .u32 (IntKind.u32.wrap ((BitVec.ofInt 32 (r.toNat : Int) &&& BitVec.ofInt 32 i).toNat : Int)) = _; rw [ofInt_toNat32, bits32])
theorem e_shr32 (hx : opv U x = some (.int .u32 (r.toNat : Int))) (hy : opv U y = some (.int k i)) (h0 : 0 ≤ i := by omega) : Ev P U w0 L0 L (.binOp .shr T x y Y) ty (Is (.int .u32 ((r >>> i.toNat).toNat : Int))) No :=
  (e_shr hx hy h0).cast (by
    show Value.int _ _ = _
    congr 1
    simp only [IntKind.bits, BitVec.toNat_ushiftRight, Nat.shiftRight_eq_div_pow]
    have hm : (2 : Int) ^ (min i.toNat 32) = ((2 ^ (min i.toNat 32) : Nat) : Int) := by simp
    rw [hm, Int.fdiv_eq_ediv_of_nonneg _ (Int.natCast_nonneg _), ← Int.natCast_ediv]
    congr 1
    rcases Nat.le_total i.toNat 32 with h | h
    · rw [Nat.min_eq_left h]
    · rw [Nat.min_eq_right h]
      have h1 := r.isLt
      have h2 : 2 ^ 32 ≤ 2 ^ i.toNat := Nat.pow_le_pow_right (by omega) h
      rw [Nat.div_eq_of_lt h1, Nat.div_eq_of_lt (by omega)])
theorem e_eql32 (hx : opv U x = some (.int .u32 (r.toNat : Int))) (hy : opv U y = some (.int .u32 i)) (h0 : 0 ≤ i := by decide) (h1 : i ≤ 4294967295 := by decide) : Ev P U w0 L0 L (.binOp .eql T x y Y) ty (Is (.bool (decide (r = BitVec.ofInt 32 i)))) No :=
  (e_eq hx hy).cast_bool (by
    have : ((r.toNat : Int) = i) ↔ (r = BitVec.ofInt 32 i) := by
      constructor
      · intro h; rw [← h]; simp
      · intro h; rw [h, BitVec.toNat_ofInt]; omega
    simp only [this])
theorem e_not32 (hx : opv U x = some (.int .u32 (r.toNat : Int))) : Ev P U w0 L0 L (.unOp .xor T x) ty (Is (.int .u32 ((~~~r).toNat : Int))) No :=
  .val fun ρ w dst pos after guard hρ hT => by
    have h1 : BitVec.ofInt 32 (4294967295 : Int) ^^^ r = ~~~r := by
      have : BitVec.ofInt 32 (4294967295 : Int) = BitVec.allOnes 32 := by decide
      rw [this, BitVec.allOnes_xor]
    have h2 := bits32 (~~~r)
    have h4 : IntKind.u32.wrap ((BitVec.ofInt 32 (4294967295 : Int) ^^^ BitVec.ofInt 32 (r.toNat : Int)).toNat : Int) = ((~~~r).toNat : Int) := by rw [ofInt_toNat32, h1, h2]
    have h5 : (Op.unary .xor (.int .u32 (r.toNat : Int))).run P w = .ok (.int .u32 (IntKind.u32.wrap ((BitVec.ofInt 32 (4294967295 : Int) ^^^ BitVec.ofInt 32 (r.toNat : Int)).toNat : Int))) w := rfl
    rw [h4] at h5
    simp [execOp, hρ _ _ hx, h5]
end
/-! ### Parts of arrays -/
section
variable {n k b off : Nat} {kd kh : IntKind} {i j : Int}
theorem e_arrL (hf : arrOf P T = some (n, E, k)) (hx : opv U x = some (.pointer (some ⟨b, off, none⟩))) (hy : opv U y = some (.int kd i)) (h0 : 0 ≤ i) (h1 : i < n) : Ev P U w0 L0 L (.slice T x (some y) Option.none Option.none) ty (Is (.slice (some ⟨b, off + i.toNat * k, none⟩) (n - i.toNat) (n - i.toNat))) No :=
  .val fun ρ w dst pos after guard hρ hT => by
    obtain ⟨h2, h3⟩ := arrOf_spec hf
    have ha : P.underlying T = some (.array (P.arrayLen T) (P.elem T)) := by simp [Program.elem, Program.arrayLen, h2]
    have hl : P.arrayLen T = n := by simp [Program.arrayLen, h2]
    have he : P.elem T = E := by simp [Program.elem, h2]
    have h7 := run_sliceAt_array_l (P := P) w T ⟨b, off, none⟩ ha kd i h0 (by rw [hl]; omega)
    rw [he, h3, hl] at h7
    simp only [Result.andThen_ok, slicedAt] at h7
    rw [if_neg (by omega), add_addr] at h7
    simp [execOp, hρ _ _ hx, hρ _ _ hy, h7]
theorem e_arrH (hf : arrOf P T = some (n, E, k)) (hx : opv U x = some (.pointer (some ⟨b, off, none⟩))) (hy : opv U y = some (.int kd i)) (h0 : 0 ≤ i) (h1 : i ≤ n) : Ev P U w0 L0 L (.slice T x Option.none (some y) Option.none) ty (Is (.slice (some ⟨b, off, none⟩) i.toNat n)) No :=
  .val fun ρ w dst pos after guard hρ hT => by
    obtain ⟨h2, h3⟩ := arrOf_spec hf
    have ha : P.underlying T = some (.array (P.arrayLen T) (P.elem T)) := by simp [Program.elem, Program.arrayLen, h2]
    have hl : P.arrayLen T = n := by simp [Program.arrayLen, h2]
    have he : P.elem T = E := by simp [Program.elem, h2]
    have h7 := run_sliceAt_array_h (P := P) w T ⟨b, off, none⟩ ha kd i h0 (by rw [hl]; omega)
    rw [he, h3, hl] at h7
    have h8 : slicedAt ⟨b, off, none⟩ 0 i.toNat n k = .slice (some ⟨b, off, none⟩) i.toNat n := by
      unfold slicedAt
      split
      · simp
      · rw [add_addr]; simp
    simp only [Result.andThen_ok, h8] at h7
    simp [execOp, hρ _ _ hx, hρ _ _ hy, h7]
end
/-- A copy into a block of cells. -/
theorem GL.copyB {d : Tmp} {b o n c n2 c2 : Nat} {a2 : Option Addr} {cs cs' : List Value} {D S B R : TypeId} {L' : List Res} (hu : P.underlying D = some (.slice B)) (hs : (P.info? B).map (·.size) = some 1) (hx : opv U x = some (.slice (some ⟨b, o, none⟩) n c)) (hy : opv U y = some (.slice a2 n2 c2)) [hh : HasC L b R cs]
    [h2 : Rd w0 L0 L a2 e m] (hk : e.k = 1) (hn2 : n2 = m.length) (hn : m.length ≤ n) (hfit : o + m.length ≤ cs.length) (hcs : cs' = cs.take o ++ e.fl m ++ cs.drop (o + m.length)) [hset : SetC L b R cs cs' L'] (hd : Nat.ble (d + 1) N = true)
    (hr : GL P ops Q rest N ((d, .int .i64 (m.length : Int)) :: U) w0 L0 L') : GL P ops Q (⟨some d, .call ⟨.builtin .copy, #[x, y], #[D, S]⟩, ty, pos, after, Option.none⟩ :: rest) N U w0 L0 L := by
  subst hn2
  intro aa w hE hT
  refine wpList_plain rfl fun K hK => ?_
  have hb := hT.at (b := b)
  have hfl : (e.fl m).length = m.length := by rw [e.fl_length, hk, Nat.mul_one]
  have hm : Nat.min m.length n = m.length := Nat.min_eq_left hn
  have hrun : ∃ w', (Builtin.copy_ #[D, S] ty #[.slice (some ⟨b, o, none⟩) n c, .slice a2 m.length c2]).run P w = .ok (goInt m.length) w' ∧ Tr w0 L0 w' L' := by
    by_cases h0 : m = []
    · subst h0
      have h3 : (e.fl ([] : List α)) = [] := rfl
      refine ⟨w, by simpa using run_copy_none (P := P) w D S ty B (some ⟨b, o, none⟩) a2 n c 0 c2 hu hs (by simp), ?_⟩
      rw [h3] at hcs
      simp only [List.append_nil, List.length_nil, Nat.add_zero, List.take_append_drop] at hcs
      obtain ⟨i, h4, h5⟩ := hset.at_
      have : L.set i (cl b R cs') = L := by
        apply List.ext_getElem?
        intro j
        by_cases hj : i = j
        · subst hj
          rw [List.getElem?_set_self (List.getElem?_eq_some_iff.1 h4).1, h4, hcs]
        · rw [List.getElem?_set_ne hj]
      rw [h5, this]
      exact hT
    · have hm0 : 0 < m.length := List.length_pos_iff.2 h0
      have hS := h2.sl w hT
      have hbase := hS.base hm0
      refine ⟨w.setRow b cs'.toArray, ?_, hT.setRow⟩
      rw [hbase]
      have h6 := run_copy_row (P := P) w D S ty B b o n c ⟨bk a2, of_ a2, none⟩ m.length c2 cs.toArray R (e.fl m) hu hs hb (by rw [hfl, hm]) (fun j v hj => by rw [add_addr]; exact hS.cell j v hj) (by rw [hfl]; simpa using hfit) (oneCells_spec (e.fl_one m))
      rw [hfl] at h6
      rw [h6, hcs]
  obtain ⟨w', h3, h4⟩ := hrun
  have h5 : (execOp aa.eval ⟨some d, .call ⟨.builtin .copy, #[x, y], #[D, S]⟩, ty, pos, after, Option.none⟩).run P w = .ok (.value (.int .i64 (m.length : Int))) w' := by
    have : (execOp aa.eval ⟨some d, .call ⟨.builtin .copy, #[x, y], #[D, S]⟩, ty, pos, after, Option.none⟩).run P w = ((Builtin.copy_ #[D, S] ty #[aa.eval x, aa.eval y]).run P w).andThen fun v w' => .ok (.value v) w' := by
      simp [execOp, go_sem]
    rw [this, hE.op _ _ hx, hE.op _ _ hy, h3]
    rfl
  unfold Oper.wp
  rw [h5]
  exact hK _ _ (hr _ _ (hE.put (Nat.le_of_ble_eq_true hd) _) h4)
/-- append(nil, make(..)): a row of nothings. -/
theorem GL.appendZ {d : Tmp} {T2 : TypeId} {n : Nat} {kn : IntKind} {z : Value} {bytes : Nat} (hm : mkOf P T = some (E, [z], bytes)) (hT2 : P.underlying T2 = some (.int kn)) (hx : opv U x = some (.slice none 0 0)) (hy : opv U y = some (.int .i64 (n : Int))) (h0 : 0 < n) (h63 : n ≤ 9223372036854775807) (h48 : n * bytes ≤ 281474976710656) (hd : Nat.ble (d + 1) N = true)
    (hr : ∀ b c, n ≤ c → GL P ops Q rest N ((d, .slice (some ⟨b, 0, none⟩) n c) :: U) w0 L0 (row (some ⟨b, 0, none⟩) c 1 E [] :: L)) :
    GL P ops Q (⟨some d, .call ⟨.builtin .append, #[x, y], #[T, T2]⟩, ty, pos, after, Option.none⟩ :: rest) N U w0 L0 L := by
  intro aa w hE hT
  refine wpList_plain rfl fun K hK => ?_
  obtain ⟨it, zv, hu, hi, hz, hzc, hsz, hpos, hby⟩ := mkOf_spec hm
  have h3 := Lib.run_append_nil_zeros (P := P) w T T2 ty E it zv .i64 kn hu hT2 hi hz n h0 (by rw [hsz]; exact hpos) (by omega) (by rw [hby]; exact h48)
  have h5 := exec_append (P := P) (ρ := aa.eval) (w := w) (dst := some d) (guard := Option.none) (x := x) (y := y) (T1 := T) (T2 := T2) (ty := ty) (pos := pos) (after := after)
  have hge := grownCap_ge w n 0 E
  unfold Oper.wp
  rw [h5, hE.op _ _ hx, hE.op _ _ hy, h3]
  refine hK _ _ (hr w.heap.size (grownCap w n 0 E) hge _ _ (hE.put (Nat.le_of_ble_eq_true hd) _) (hT.calm (l' := [row (some ⟨w.heap.size, 0, none⟩) (grownCap w n 0 E) 1 E []]) ?_))
  refine Tr.row_fresh w w.drew (junk := (Builtin.zeroCells zv.cells n ++ Builtin.zeroCells zv.cells (grownCap w n 0 E - n)).toList) rfl rfl rfl rfl (Nat.le_succ _) ?_ (by simp)
  simp only [List.nil_append, Array.length_toList, Array.size_append, size_zeroCells, hzc, List.size_toArray, List.length_singleton, Nat.mul_one]
  omega
end
end Go.K
namespace Go.K
theorem e_or {P : Program} {U : Env} {w0 : World} {L0 L : List Res} {ty T Y : TypeId} {x y : Operand} {k : IntKind} {a b : Int} (hx : opv U x = some (.int k a)) (hy : opv U y = some (.int k b)) : Ev P U w0 L0 L (.binOp .or T x y Y) ty (Is (.int k (k.wrap (BitVec.ofInt k.bits a ||| BitVec.ofInt k.bits b).toNat))) No :=
  .val fun ρ w dst pos after guard hρ hT => by simp [execOp, hρ _ _ hx, hρ _ _ hy, go_sem, Op.intBits]
end Go.K

namespace Go.K
open Go
set_option linter.unusedVariables false
/-- A function value that tells something of a thing, and turns nothing. -/
structure FnB (P : Program) (g : FuncId) (cap : List Value) {α : Type} (e : α → Value) (p : α → Bool) : Prop where
  enter : ∀ args w, (callFunc g args).run P w = .ok (.enter g args) w
  call : ∀ (w : World) (x : α), Calls P g ([e x] ++ cap).toArray w fun e w' => e = .returned (.bool (p x)) ∧ Tr w [] w' []
section
variable {P : Program} {U : Env} {w0 : World} {L0 L : List Res} {ty : TypeId} {x : Operand} {xs : List Operand} {tys : Array TypeId} {α : Type} {e : α → Value} {p : α → Bool} {g : FuncId} {cap : List Value}
theorem e_callB {q : α} (h : FnB P g cap e p) (hv : opv U x = some (.func (.func g) #[] cap.toArray)) (hx : opvs U xs = some [e q]) : Ev P U w0 L0 L (.call ⟨.value x, xs.toArray, tys⟩) ty (Is (.bool (p q))) No :=
  e_callV1 h.enter hv hx fun w _ => h.call w q
end
/-! ### Lists, place by place -/
theorem take_one {α : Type} {l : List α} {i : Nat} {x : α} (h : l[i]? = some x) : l.take (i + 1) = l.take i ++ [x] := by
  rw [List.take_add_one, h]; rfl
theorem len_of {α : Type} {l : List α} {i : Nat} {x : α} (h : l[i]? = some x) : i < l.length := (List.getElem?_eq_some_iff.1 h).1
theorem any_take {α : Type} {p : α → Bool} {l : List α} {i : Nat} (h : (l.take i).any p = false) (hi : l.length ≤ i) : l.any p = false := by rwa [List.take_of_length_le hi] at h
theorem any_next {α : Type} {p : α → Bool} {l : List α} {i : Nat} {x : α} (h : (l.take i).any p = false) (hx : l[i]? = some x) (hp : p x = false) : (l.take (i + 1)).any p = false := by
  rw [take_one hx, List.any_append, h]; simp [hp]
theorem any_hit {α : Type} {p : α → Bool} {l : List α} {i : Nat} {x : α} (hx : l[i]? = some x) (hp : p x = true) : l.any p = true := List.any_eq_true.2 ⟨x, List.mem_of_getElem? hx, hp⟩
/-- Where something is so, of a list; -1: nowhere. -/
def idxf {α : Type} (p : α → Bool) : List α → Int
  | [] => -1
  | x :: l => if p x then 0 else if idxf p l < 0 then -1 else idxf p l + 1
theorem idxf_none {α : Type} {p : α → Bool} : ∀ {l : List α}, l.any p = false → idxf p l = -1
  | [], _ => rfl
  | x :: l, h => by
    simp only [List.any_cons, Bool.or_eq_false_iff] at h
    simp [idxf, h.1, idxf_none h.2]
theorem idxf_hit {α : Type} {p : α → Bool} : ∀ {l : List α} {i : Nat} {x : α}, (l.take i).any p = false → l[i]? = some x → p x = true → idxf p l = i
  | [], i, x, _, h, _ => by simp at h
  | y :: l, 0, x, _, h, hp => by simp at h; subst h; simp [idxf, hp]
  | y :: l, i + 1, x, h0, h, hp => by
    simp only [List.take_succ_cons, List.any_cons, Bool.or_eq_false_iff] at h0
    have := idxf_hit h0.2 (by simpa using h) hp
    simp only [idxf, h0.1, this]
    simp
    omega
theorem idxf_bd {α : Type} (p : α → Bool) : ∀ l : List α, -1 ≤ idxf p l ∧ idxf p l < l.length
  | [] => by simp [idxf]
  | x :: l => by
    have := idxf_bd p l
    simp only [idxf, List.length_cons]
    split
    · omega
    · split <;> omega
theorem idxf_nonneg {α : Type} (p : α → Bool) : ∀ l : List α, decide (0 ≤ idxf p l) = l.any p
  | [] => rfl
  | x :: l => by
    have ih := idxf_nonneg p l
    have hb := idxf_bd p l
    rw [List.any_cons, ← ih]
    cases hp : p x with
    | true =>
      have h1 : idxf p (x :: l) = 0 := by simp [idxf, hp]
      rw [h1]; rfl
    | false =>
      rw [Bool.false_or, decide_eq_decide]
      simp only [idxf, hp]
      rw [if_neg (by simp)]
      split <;> omega
/-- The places at which something is so. -/
def plc {α : Type} (p : α → Bool) (l : List α) : List Int := ((List.range l.length).filter fun i => (l[i]?.map p).getD false).map fun (i : Nat) => (i : Int)
theorem plc_nil {α : Type} (p : α → Bool) : plc p ([] : List α) = [] := rfl
theorem plc_snoc {α : Type} (p : α → Bool) (l : List α) (x : α) : plc p (l ++ [x]) = plc p l ++ (if p x then [(l.length : Int)] else []) := by
  unfold plc
  rw [List.length_append, List.length_singleton, List.range_succ, List.filter_append, List.map_append]
  congr 1
  · congr 1
    apply List.filter_congr
    intro i hi
    rw [List.getElem?_append_left (List.mem_range.1 hi)]
  · simp [List.filter_cons]
    split <;> simp
theorem plc_len {α : Type} (p : α → Bool) (l : List α) : (plc p l).length ≤ l.length := by
  unfold plc
  rw [List.length_map]
  have := List.length_filter_le (fun i => (l[i]?.map p).getD false) (List.range l.length)
  rwa [List.length_range] at this
theorem plc_mem {α : Type} {p : α → Bool} {l : List α} {i : Int} : i ∈ plc p l ↔ ∃ j : Nat, i = j ∧ ∃ x, l[j]? = some x ∧ p x = true := by
  unfold plc
  simp only [List.mem_map, List.mem_filter, List.mem_range]
  constructor
  · rintro ⟨j, ⟨hj, hp⟩, rfl⟩
    refine ⟨j, rfl, l[j], List.getElem?_eq_getElem hj, ?_⟩
    simpa [List.getElem?_eq_getElem hj] using hp
  · rintro ⟨j, rfl, x, hx, hp⟩
    exact ⟨j, ⟨len_of hx, by simp [hx, hp]⟩, rfl⟩
theorem plc_sorted {α : Type} (p : α → Bool) (l : List α) : (plc p l).Pairwise (· < ·) := by
  unfold plc
  refine List.Pairwise.map _ (fun a b h => ?_) ((List.pairwise_lt_range).filter _)
  omega
end Go.K
