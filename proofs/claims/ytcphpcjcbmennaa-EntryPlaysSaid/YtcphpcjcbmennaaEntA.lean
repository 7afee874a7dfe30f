/- What is known of all traces: where it lies, and what is said of it in plain terms. -/
import Derived.Test.YtcphpcjcbmennaaRows
import Derived.Test.YtcphpcjcbmennaaKg
namespace Go.Proofs.Ytcphpcjcbmennaa
open Go Go.K
set_option linter.unusedVariables false
set_option linter.unusedSimpArgs false
attribute [local irreducible] Calls Ev GL GC GQ GR Code.wp
def I64 (a : Int) : Prop := -9223372036854775808 ≤ a ∧ a ≤ 9223372036854775807
theorem ret_no {p : Prop} [Decidable p] (h : p → False) : Ending.returned (.bool false) = .returned (.bool (decide p)) := by rw [decide_eq_false h]
theorem ret_yes {p : Prop} [Decidable p] (h : p) : Ending.returned (.bool true) = .returned (.bool (decide p)) := by rw [decide_eq_true h]
theorem ret_iff {p q : Prop} [Decidable p] [Decidable q] (h : p ↔ q) : Ending.returned (.bool (decide p)) = .returned (.bool (decide q)) := by
  have : decide p = decide q := by rw [Bool.eq_iff_iff]; simpa using h
  rw [this]

/-! ### What is known of a trace, and where it lies -/
structure MOk (l : List ME) (c : Nat) : Prop where
  lt : ∀ x ∈ l, x.n < c
  born : (l.map ME.n).Nodup
  keys : (l.map ME.k).Nodup
  wf : ∀ x ∈ l, -9223372036854775808 ≤ x.k ∧ x.k ≤ 9223372036854775807
def isort (l : List Int) : List Int := l.mergeSort fun x y => decide (x ≤ y)
structure EX where
  id : Int
  cls : Int
  tick : Int
  cost : Int
  pin : Bool
  bid : Int
  from_ : Int
  to : Int
  many : Int
  sv : List Bytes
  seq : Int
  at_ : Int
  size : Int
def strs (l : List Bytes) : List Value := l.map K.str
theorem strs_length (l : List Bytes) : (strs l).length = l.length := by simp [strs]
theorem oneCells_strs : ∀ l : List Bytes, oneCells (strs l) = true
  | [] => rfl
  | b :: l => by
    have ih := oneCells_strs l
    unfold strs at ih ⊢
    simp only [List.map_cons, oneCells, Bool.and_eq_true]
    exact ⟨rfl, ih⟩
def encE (x : EX) (a : Option Addr) (c : Nat) : List Value := [.int .i64 x.id, .int .i64 x.cls, .int .i64 x.tick, .int .i64 x.cost, .bool x.pin, .int .i64 x.bid, .int .i64 x.from_, .int .i64 x.to, .int .i64 x.many, .slice a x.sv.length c, .int .i64 x.seq, .int .i64 x.at_, .int .i64 x.size]
theorem encE_len (x : EX) (a : Option Addr) (c : Nat) : (encE x a c).length = 13 := rfl
def EX.zero : EX := ⟨0, 0, 0, 0, false, 0, 0, 0, 0, [], 0, 0, 0⟩
structure NE where
  b : Nat
  x : EX
  a : Option Addr
  c : Nat
  n : Nat
  junk : List Value
def NE.me (e : NE) : ME := ⟨e.x.id, .pointer (some ⟨e.b, 0, none⟩), e.n⟩
abbrev entL (e : NE) : List Res := [cl e.b 33 (encE e.x e.a e.c), rowj e.a e.c 1 9 (strs e.x.sv) e.junk]
def entR (e : NE) : Res := all (entL e)
structure IG where
  mb : Nat
  es : List NE
  c : Nat
abbrev IG.L (g : IG) (d : Nat) : List Res := [cl d 62 [.map (some g.mb)], mp g.mb (g.es.map NE.me) g.c, all (g.es.map entR)]
def IdxR (d : Nat) (g : IG) : Res := all (g.L d)
structure IG.Ok (g : IG) : Prop where
  mok : MOk (g.es.map NE.me) g.c
  sv : ∀ e ∈ g.es, e.x.sv.length ≤ 9000
def IG.ents (g : IG) : List EX := g.es.map NE.x
theorem entR.precise (e : NE) : Precise (entR e) := Precise.all fun r hr => by
  simp only [List.mem_cons, List.not_mem_nil, or_false] at hr
  rcases hr with rfl | rfl
  · exact Precise.pt _ _
  · exact Precise.rowj _ _ _ _ _ _
theorem IdxR.precise (d : Nat) (g : IG) : Precise (IdxR d g) := Precise.all fun r hr => by
  simp only [List.mem_cons, List.not_mem_nil, or_false] at hr
  rcases hr with rfl | rfl | rfl
  · exact Precise.pt _ _
  · exact Precise.pt _ _
  · exact Precise.all (Precise.map _ _ entR.precise)
theorem entR.wild (e : NE) : (entR e).wild = false := rfl
theorem IdxR.wild (d : Nat) (g : IG) : (IdxR d g).wild = false := by
  show (g.L d).any (·.wild) = false
  simp only [IG.L, List.any_cons, List.any_nil, Bool.or_false]
  show (false || (false || (g.es.map entR).any (·.wild))) = false
  rw [Bool.false_or, Bool.false_or, List.any_eq_false]
  intro r hr
  obtain ⟨e, _, rfl⟩ := List.mem_map.1 hr
  exact Bool.false_ne_true
class PickI (L : List Res) (d : Nat) (g : outParam IG) (F : outParam (List Res)) : Prop where
  sub : Sub ([IdxR d g] ++ F) L
  mem : IdxR d g ∈ L
instance PickI.head {L : List Res} {d : Nat} {g : IG} : PickI (IdxR d g :: L) d g L := ⟨Sub.refl _, List.mem_cons_self⟩
instance PickI.tail {L F : List Res} {x : Res} {d : Nat} {g : IG} [h : PickI L d g F] : PickI (x :: L) d g (x :: F) := ⟨by
  obtain ⟨σ, h1, h2⟩ := h.sub
  refine ⟨fun i => match i with | 0 => σ 0 + 1 | 1 => 0 | i + 2 => σ (i + 1) + 1, fun i j => ?_, fun i s => ?_⟩
  · match i, j with
    | 0, 0 => exact fun _ => rfl
    | 0, 1 => exact fun e => absurd e (by simp)
    | 0, j + 2 => intro e; have := h1 0 (j + 1) (by simpa using e); omega
    | 1, 0 => exact fun e => absurd e (by simp)
    | 1, 1 => exact fun _ => rfl
    | 1, j + 2 => exact fun e => absurd e (by simp)
    | i + 2, 0 => intro e; have := h1 (i + 1) 0 (by simpa using e); omega
    | i + 2, 1 => exact fun e => absurd e (by simp)
    | i + 2, j + 2 => intro e; have := h1 (i + 1) (j + 1) (by simpa using e); omega
  · match i with
    | 0 => intro e; simpa using h2 0 s (by simpa using e)
    | 1 => intro e; simpa using e
    | i + 2 => intro e; simpa using h2 (i + 1) s (by simpa using e), List.mem_cons_of_mem _ h.mem⟩
/-! ### In plain terms -/
def xget (k : Int) : List EX → Option EX
  | [] => none
  | y :: l => if y.id = k then some y else xget k l
def xput (x : EX) : List EX → List EX
  | [] => [x]
  | y :: l => if y.id = x.id then x :: l else y :: xput x l
def xdel (k : Int) : List EX → List EX
  | [] => []
  | y :: l => if y.id = k then l else y :: xdel k l
def xmod (k : Int) (f : EX → EX) : List EX → List EX
  | [] => []
  | y :: l => if y.id = k then f y :: l else y :: xmod k f l
theorem xmod_none {k : Int} {f : EX → EX} : ∀ {l : List EX}, xget k l = none → xmod k f l = l
  | [], _ => rfl
  | y :: l, h => by
    simp only [xget] at h
    by_cases hy : y.id = k
    · rw [if_pos hy] at h; cases h
    · rw [if_neg hy] at h; simp only [xmod, if_neg hy, xmod_none h]
/-- Where a trace is. -/
theorem find_ent (k : Int) : ∀ es : List NE, (mfind k (es.map NE.me) = none ∧ xget k (es.map NE.x) = none ∧ ∀ e ∈ es, e.x.id ≠ k) ∨
    ∃ A e B, es = A ++ e :: B ∧ e.x.id = k ∧ (∀ y ∈ A, y.x.id ≠ k) ∧ mfind k (es.map NE.me) = some (.pointer (some ⟨e.b, 0, none⟩)) ∧ xget k (es.map NE.x) = some e.x
  | [] => .inl ⟨rfl, rfl, by simp⟩
  | e :: es => by
    by_cases h : e.x.id = k
    · refine .inr ⟨[], e, es, rfl, h, by simp, ?_, ?_⟩
      · simp only [List.map_cons, mfind, NE.me, if_pos h]
      · simp only [List.map_cons, xget, if_pos h]
    · rcases find_ent k es with ⟨h1, h2, h3⟩ | ⟨A, y, B, rfl, h1, h2, h3, h4⟩
      · refine .inl ⟨?_, ?_, fun y hy => ?_⟩
        · simp only [List.map_cons, mfind, NE.me, if_neg h]; exact h1
        · simp only [List.map_cons, xget, if_neg h]; exact h2
        · rcases List.mem_cons.1 hy with rfl | hy
          · exact h
          · exact h3 y hy
      · refine .inr ⟨e :: A, y, B, rfl, h1, fun z hz => ?_, ?_, ?_⟩
        · rcases List.mem_cons.1 hz with rfl | hz
          · exact h
          · exact h2 z hz
        · rw [List.map_cons]; simp only [mfind]; rw [if_neg (by exact h)]; exact h3
        · rw [List.map_cons]; simp only [xget]; rw [if_neg h]; exact h4
theorem x_mid {k : Int} {A B : List NE} {e : NE} (he : e.x.id = k) (hA : ∀ y ∈ A, y.x.id ≠ k) : (∀ f, xmod k f ((A ++ e :: B).map NE.x) = A.map NE.x ++ f e.x :: B.map NE.x) ∧ xdel k ((A ++ e :: B).map NE.x) = A.map NE.x ++ B.map NE.x ∧ (∀ x : EX, x.id = k → xput x ((A ++ e :: B).map NE.x) = A.map NE.x ++ x :: B.map NE.x) ∧
    (∀ v, mset k v ((A ++ e :: B).map NE.me) = A.map NE.me ++ ⟨k, v, e.n⟩ :: B.map NE.me) ∧ mdel k ((A ++ e :: B).map NE.me) = A.map NE.me ++ B.map NE.me := by
  induction A with
  | nil =>
    refine ⟨fun f => ?_, ?_, fun x hx => ?_, fun v => ?_, ?_⟩
    · simp only [List.nil_append, List.map_cons, xmod, if_pos he, List.map_nil]
    · simp only [List.nil_append, List.map_cons, xdel, if_pos he, List.map_nil]
    · simp only [List.nil_append, List.map_cons, xput, List.map_nil]; rw [if_pos (by rw [he, hx])]
    · simp only [List.nil_append, List.map_cons, mset, List.map_nil]; rw [if_pos (by exact he)]; rfl
    · simp only [List.nil_append, List.map_cons, mdel, List.map_nil]; rw [if_pos (by exact he)]
  | cons y A ih =>
    have hy := hA y List.mem_cons_self
    obtain ⟨h1, h2, h3, h4, h5⟩ := ih (fun z hz => hA z (List.mem_cons_of_mem _ hz))
    refine ⟨fun f => ?_, ?_, fun x hx => ?_, fun v => ?_, ?_⟩
    · simp only [List.cons_append, List.map_cons, xmod, if_neg hy, h1]
    · simp only [List.cons_append, List.map_cons, xdel, if_neg hy, h2]
    · simp only [List.cons_append, List.map_cons, xput]; rw [if_neg (by rw [hx]; exact hy), h3 x hx]
    · simp only [List.cons_append, List.map_cons, mset]; rw [if_neg (by exact hy), h4]
    · simp only [List.cons_append, List.map_cons, mdel]; rw [if_neg (by exact hy), h5]
theorem x_new {x : EX} : ∀ {es : List NE}, (∀ e ∈ es, e.x.id ≠ x.id) → xput x (es.map NE.x) = es.map NE.x ++ [x]
  | [], _ => rfl
  | e :: es, h => by
    simp only [List.map_cons, xput, List.cons_append]
    rw [if_neg (h e List.mem_cons_self), x_new fun y hy => h y (List.mem_cons_of_mem _ hy)]
theorem xdel_none {k : Int} : ∀ {l : List EX}, xget k l = none → xdel k l = l
  | [], _ => rfl
  | y :: l, h => by
    simp only [xget] at h
    by_cases hy : y.id = k
    · rw [if_pos hy] at h; cases h
    · rw [if_neg hy] at h; simp only [xdel, if_neg hy, xdel_none h]
theorem ent_cells {es : List NE} {w : World} (h : (all (es.map entR)).ok w.heap) {e : NE} (he : e ∈ es) : (∀ j v, (encE e.x e.a e.c)[j]? = some v → w.cell? ⟨e.b, 0 + j, none⟩ = some v) ∧ Sl w 1 e.a e.x.sv.length (strs e.x.sv) := by
  have h1 : (entR e).ok w.heap := h.2 _ (List.mem_map.2 ⟨e, he, rfl⟩)
  have h2 : w.heap[e.b]? = some (.cells (encE e.x e.a e.c).toArray 33 (0, 0)) := h1.2 _ List.mem_cons_self
  have h3 : (rowj e.a e.c 1 9 (strs e.x.sv) e.junk).ok w.heap := h1.2 _ (List.mem_cons_of_mem _ List.mem_cons_self)
  exact ⟨fun j v hj => by rw [Nat.zero_add, cell_of_block h2]; exact hj, rowj_sl h3 (by omega) (by rw [strs_length, Nat.mul_one])⟩
theorem MOk.mid {A B : List ME} {k : Int} {v v' : Value} {n c : Nat} (h : MOk (A ++ ⟨k, v, n⟩ :: B) c) : MOk (A ++ ⟨k, v', n⟩ :: B) c := by
  refine ⟨fun x hx => ?_, ?_, ?_, fun x hx => ?_⟩
  · rcases List.mem_append.1 hx with h1 | h1
    · exact h.lt x (List.mem_append_left _ h1)
    · rcases List.mem_cons.1 h1 with rfl | h2
      · exact h.lt ⟨k, v, n⟩ (List.mem_append_right _ List.mem_cons_self)
      · exact h.lt x (List.mem_append_right _ (List.mem_cons_of_mem _ h2))
  · have := h.born
    simpa using this
  · have := h.keys
    simpa using this
  · rcases List.mem_append.1 hx with h1 | h1
    · exact h.wf x (List.mem_append_left _ h1)
    · rcases List.mem_cons.1 h1 with rfl | h2
      · exact h.wf ⟨k, v, n⟩ (List.mem_append_right _ List.mem_cons_self)
      · exact h.wf x (List.mem_append_right _ (List.mem_cons_of_mem _ h2))
theorem MOk.out {A B : List ME} {y : ME} {c : Nat} (h : MOk (A ++ y :: B) c) : MOk (A ++ B) c := by
  have hs : (A ++ B).Sublist (A ++ y :: B) := List.Sublist.append (List.Sublist.refl _) (List.sublist_cons_self _ _)
  exact ⟨fun x hx => h.lt x (hs.subset hx), h.born.sublist (hs.map _), h.keys.sublist (hs.map _), fun x hx => h.wf x (hs.subset hx)⟩
theorem MOk.add {A : List ME} {k : Int} {v : Value} {c : Nat} (h : MOk A c) (hk : ∀ x ∈ A, x.k ≠ k) (hw : I64 k) : MOk (A ++ [⟨k, v, c⟩]) (c + 1) := by
  unfold I64 at hw
  refine ⟨fun x hx => ?_, ?_, ?_, fun x hx => ?_⟩
  · rcases List.mem_append.1 hx with h1 | h1
    · exact Nat.lt_succ_of_lt (h.lt x h1)
    · simp only [List.mem_singleton] at h1; subst h1; exact Nat.lt_succ_self _
  · rw [List.map_append, List.nodup_append]
    refine ⟨h.born, by simp, fun a ha b hb => ?_⟩
    simp only [List.map_cons, List.map_nil, List.mem_singleton] at hb
    subst hb
    obtain ⟨x, hx, rfl⟩ := List.mem_map.1 ha
    have := h.lt x hx
    omega
  · rw [List.map_append, List.nodup_append]
    refine ⟨h.keys, by simp, fun a ha b hb => ?_⟩
    simp only [List.map_cons, List.map_nil, List.mem_singleton] at hb
    subst hb
    obtain ⟨x, hx, rfl⟩ := List.mem_map.1 ha
    exact hk x hx
  · rcases List.mem_append.1 hx with h1 | h1
    · exact h.wf x h1
    · simp only [List.mem_singleton] at h1; subst h1; exact hw
theorem idx_calm {g : IG} {d : Nat} {r : Res} {w0 w : World} (ho : (IdxR d g).ok w0.heap) (hT : Tr w0 [IdxR d g] w (r :: g.L d)) : Tr w0 [] w [r] :=
  (Tr.closed (F := [r]) (hT.sub (Sub.rot r (g.L d)))).calmed ho (IdxR.precise d g) (IdxR.wild d g)

end Go.Proofs.Ytcphpcjcbmennaa
