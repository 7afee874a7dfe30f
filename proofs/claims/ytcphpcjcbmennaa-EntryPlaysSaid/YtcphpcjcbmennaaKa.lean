/- A logic of blocks of memory over the walk of a function: resources, slots, and a region whose operations come in any order; without conditions. -/
import Derived.WalkKit
import Derived.Still
set_option linter.unusedVariables false
set_option linter.unusedSimpArgs false
set_option linter.unnecessarySimpa false
set_option linter.deprecated false
namespace Go.K
open Go
set_option linter.unusedVariables false

/-! ### Slots -/
abbrev Env := List (Nat × Value)
def lk : Env → Nat → Option Value
  | [], _ => none
  | (d, v) :: U, t => bif Nat.beq d t then some v else lk U t
def opv (U : Env) : Operand → Option Value
  | .tmp t => lk U t
  | .const v => some v
  | .global g => some (.pointer (some ⟨g, 0, none⟩))
  | .func f => some (.func (.func f) #[] #[])
def opvs (U : Env) : List Operand → Option (List Value)
  | [] => some []
  | x :: xs => match opv U x with
    | some v => match opvs U xs with
      | some vs => some (v :: vs)
      | none => none
    | none => none
structure Eqs (N : Nat) (a : Act) (U : Env) : Prop where
  size : a.tmps.size = N
  defers : a.defers = []
  eq : ∀ t v, lk U t = some v → a.eval (.tmp t) = v
theorem Eqs.op {N : Nat} {a : Act} {U : Env} (h : Eqs N a U) : ∀ (x : Operand) (v : Value), opv U x = some v → a.eval x = v
  | .tmp t, v, hx => h.eq t v hx
  | .const _, _, hx => Option.some.inj hx
  | .global _, _, hx => Option.some.inj hx
  | .func _, _, hx => Option.some.inj hx
theorem eval_put (a : Act) (d t : Nat) (v : Value) : (a.put (some d) v).eval (.tmp t) = if d = t then (if d < a.tmps.size then v else undef) else a.eval (.tmp t) := by
  simp only [Act.put, Act.eval, Array.getD_eq_getD_getElem?, Array.getElem?_setIfInBounds]
  by_cases h : d = t
  · subst h
    by_cases h2 : d < a.tmps.size <;> simp [h2]
  · simp [h]
theorem Eqs.put {N : Nat} {a : Act} {U : Env} (h : Eqs N a U) {d : Nat} (hd : d < N) (v : Value) : Eqs N (a.put (some d) v) ((d, v) :: U) := by
  refine ⟨by simp [Act.put, h.size], h.defers, fun t u ht => ?_⟩
  rw [eval_put]
  simp only [lk] at ht
  by_cases hdt : d = t
  · subst hdt
    rw [if_pos rfl, if_pos (by rw [h.size]; exact hd)]
    simpa using ht
  · rw [if_neg hdt]
    have : Nat.beq d t = false := by
      cases hb : Nat.beq d t with
      | false => rfl
      | true => exact absurd (Nat.eq_of_beq_eq_true hb) hdt
    rw [this] at ht
    exact h.eq t u ht
def agree (U : Env) : Env → Prop
  | [] => True
  | e :: V => lk U e.1 = some e.2 ∧ agree U V
theorem agree.lk {U : Env} : ∀ {V : Env}, agree U V → ∀ t v, lk V t = some v → lk U t = some v
  | [], _, t, v, h => by simp [K.lk] at h
  | e :: V, hA, t, v, h => by
    simp only [K.lk] at h
    cases hb : Nat.beq e.1 t with
    | true =>
      rw [hb] at h
      have h1 := Nat.eq_of_beq_eq_true hb
      rw [← h1, hA.1]
      simpa using h
    | false =>
      rw [hb] at h
      exact agree.lk hA.2 t v h
theorem Eqs.sub {N : Nat} {a : Act} {U V : Env} (h : Eqs N a U) (hs : agree U V) : Eqs N a V := ⟨h.size, h.defers, fun t v hv => h.eq t v (hs.lk t v hv)⟩
/-- The slots named, and no others. -/
def keep (U : Env) : List Nat → Option Env
  | [] => some []
  | t :: ts => match lk U t with
    | some v => match keep U ts with
      | some r => some ((t, v) :: r)
      | none => none
    | none => keep U ts
theorem keep_agree {U : Env} : ∀ {ts : List Nat} {V : Env}, keep U ts = some V → agree U V
  | [], V, h => by simp [keep] at h; subst h; trivial
  | t :: ts, V, h => by
    simp only [keep] at h
    split at h
    · rename_i v hv
      split at h
      · rename_i r hr
        simp only [Option.some.injEq] at h
        subst h
        exact ⟨hv, keep_agree hr⟩
      · simp at h
    · exact keep_agree h

/-! ### Resources -/
structure Res where
  fp : Nat → Prop
  ok : Array Obj → Prop
  loc : ∀ h h' : Array Obj, (∀ b, fp b → h'[b]? = h[b]?) → ok h → ok h'
  ins : ∀ h, ok h → ∀ b, fp b → b < h.size
  wild : Bool := false
def emp : Res where
  fp _ := False
  ok _ := True
  loc _ _ _ _ := trivial
  ins _ _ _ h := h.elim
/-- Where draws may be told anew. -/
def wildR : Res where
  fp _ := False
  ok _ := True
  loc _ _ _ _ := trivial
  ins _ _ _ h := h.elim
  wild := true
def NW (L : List Res) : Prop := ∀ r ∈ L, r.wild = false
def pt (b : Nat) (o : Obj) : Res where
  fp k := k = b
  ok h := h[b]? = some o
  loc h h' e k := by rw [e b rfl]; exact k
  ins h k c e := by subst e; exact (Array.getElem?_eq_some_iff.1 k).1
def Apart (r s : Res) : Prop := ∀ b, r.fp b → s.fp b → False
def Disj (L : List Res) : Prop := ∀ (i j : Nat) (r s : Res), i ≠ j → L[i]? = some r → L[j]? = some s → Apart r s
theorem Apart.symm {r s : Res} (h : Apart r s) : Apart s r := fun b x y => h b y x
def star (r s : Res) : Res where
  fp b := r.fp b ∨ s.fp b
  ok h := r.ok h ∧ s.ok h ∧ Apart r s
  loc h h' e k := ⟨r.loc h h' (fun b hb => e b (.inl hb)) k.1, s.loc h h' (fun b hb => e b (.inr hb)) k.2.1, k.2.2⟩
  ins h k b hb := hb.elim (r.ins h k.1 b) (s.ins h k.2.1 b)
structure Tr (w0 : World) (L0 : List Res) (w : World) (L : List Res) : Prop where
  os : w.os = w0.os
  tape : w.tape = w0.tape
  output : w.output = w0.output
  ahead : NW L0 → w0.drawn ≤ w.drawn ∧ NW L
  size : w0.heap.size ≤ w.heap.size
  frame : ∀ b, b < w0.heap.size → (∀ r ∈ L0, ¬ r.fp b) → w.heap[b]? = w0.heap[b]?
  disj : Disj L
  ok : ∀ r ∈ L, r.ok w.heap
  new : ∀ r ∈ L, ∀ b, r.fp b → w0.heap.size ≤ b ∨ ∃ s ∈ L0, s.fp b
theorem Disj.nil : Disj [] := fun i j r s _ h => by simp at h
theorem Disj.one (r : Res) : Disj [r] := fun i j a b hij ha hb => by
  match i, j with
  | 0, 0 => exact absurd rfl hij
  | 0, j + 1 => simp at hb
  | i + 1, _ => simp at ha
theorem Disj.cons {r : Res} {L : List Res} (h : Disj L) (hr : ∀ s ∈ L, Apart r s) : Disj (r :: L) := fun i j a b hij ha hb => by
  match i, j with
  | 0, 0 => exact absurd rfl hij
  | 0, j + 1 => simp at ha hb; subst ha; exact hr b (List.mem_of_getElem? hb)
  | i + 1, 0 => simp at ha hb; subst hb; exact (hr a (List.mem_of_getElem? ha)).symm
  | i + 1, j + 1 => simp at ha hb; exact h i j a b (by omega) ha hb
theorem Disj.tail {r : Res} {L : List Res} (h : Disj (r :: L)) : Disj L := fun i j a b hij ha hb => h (i + 1) (j + 1) a b (by omega) (by simpa using ha) (by simpa using hb)
theorem Disj.head {r : Res} {L : List Res} (h : Disj (r :: L)) {s : Res} (hs : s ∈ L) : Apart r s := by
  obtain ⟨j, hj⟩ := List.getElem?_of_mem hs
  exact h 0 (j + 1) r s (by omega) (by simp) (by simpa using hj)
theorem Disj.append {A B : List Res} (hA : Disj A) (hB : Disj B) (hAB : ∀ r ∈ A, ∀ s ∈ B, Apart r s) : Disj (A ++ B) := by
  induction A with
  | nil => exact hB
  | cons r A ih =>
    refine Disj.cons (ih hA.tail fun a ha => hAB a (List.mem_cons_of_mem _ ha)) fun s hs => ?_
    rcases List.mem_append.1 hs with h | h
    · exact hA.head h
    · exact hAB r (List.mem_cons_self) s h
/-- L' is some of L, in any order, each place of L taken once at most. -/
def Sub (L' L : List Res) : Prop := ∃ σ : Nat → Nat, (∀ i j, σ i = σ j → i = j) ∧ ∀ i r, L'[i]? = some r → L[σ i]? = some r
theorem Sub.refl (L : List Res) : Sub L L := ⟨fun i => i, fun _ _ h => h, fun _ _ h => h⟩
theorem Sub.mem {L' L : List Res} (h : Sub L' L) {r : Res} (hr : r ∈ L') : r ∈ L := by
  obtain ⟨σ, _, h2⟩ := h
  obtain ⟨i, hi⟩ := List.getElem?_of_mem hr
  exact List.mem_of_getElem? (h2 i r hi)
theorem Sub.disj {L' L : List Res} (h : Sub L' L) (hd : Disj L) : Disj L' := by
  obtain ⟨σ, h1, h2⟩ := h
  exact fun i j r s hij hr hs => hd (σ i) (σ j) r s (fun e => hij (h1 i j e)) (h2 i r hr) (h2 j s hs)
theorem Tr.sub {w0 w : World} {L0 L L' : List Res} (h : Tr w0 L0 w L) (hs : Sub L' L) : Tr w0 L0 w L' :=
  ⟨h.os, h.tape, h.output, fun hn => ⟨(h.ahead hn).1, fun r hr => (h.ahead hn).2 r (hs.mem hr)⟩, h.size, h.frame, hs.disj h.disj, fun r hr => h.ok r (hs.mem hr), fun r hr => h.new r (hs.mem hr)⟩
theorem Tr.drew {w0 w : World} {L0 L : List Res} (h : Tr w0 L0 w L) : Tr w0 L0 { w with drawn := w.drawn + 1 } L :=
  ⟨h.os, h.tape, h.output, fun hn => ⟨Nat.le_succ_of_le (h.ahead hn).1, (h.ahead hn).2⟩, h.size, h.frame, h.disj, h.ok, h.new⟩
/-- Nothing that was there has turned. -/
theorem Tr.old {w w' : World} {L : List Res} (h : Tr w [] w' L) (b : Nat) (hb : b < w.heap.size) : w'.heap[b]? = w.heap[b]? := h.frame b hb (fun _ hr => by simp at hr)
theorem Tr.refl_nil (w : World) : Tr w [] w [] := ⟨rfl, rfl, rfl, fun _ => ⟨Nat.le_refl _, fun _ h => by simp at h⟩, Nat.le_refl _, fun _ _ _ => rfl, Disj.nil, fun _ h => by simp at h, fun _ h => by simp at h⟩
theorem Tr.start {w : World} {L : List Res} (hd : Disj L) (ho : ∀ r ∈ L, r.ok w.heap) : Tr w L w L :=
  ⟨rfl, rfl, rfl, fun hn => ⟨Nat.le_refl _, hn⟩, Nat.le_refl _, fun _ _ _ => rfl, hd, ho, fun r hr b hb => .inr ⟨r, hr, hb⟩⟩
/-- A call that asks for some of what there is: what it leaves, beside the others. -/
theorem Tr.call {w0 w w' : World} {L0 L l F l' : List Res} (h : Tr w0 L0 w L) (hs : Sub (l ++ F) L) (hc : Tr w l w' l') : Tr w0 L0 w' (l' ++ F) := by
  have h1 := h.sub hs
  have hFin : ∀ s ∈ F, ∀ b, s.fp b → b < w.heap.size := fun s hsF b hb => s.ins _ (h1.ok s (List.mem_append_right _ hsF)) b hb
  have hlF : ∀ r ∈ l, ∀ s ∈ F, Apart r s := by
    intro r hr s hsF
    obtain ⟨i, hi⟩ := List.getElem?_of_mem hr
    obtain ⟨j, hj⟩ := List.getElem?_of_mem hsF
    have hil : i < l.length := (List.getElem?_eq_some_iff.1 hi).1
    exact h1.disj i (l.length + j) r s (by omega) (by rw [List.getElem?_append_left hil]; exact hi) (by rw [List.getElem?_append_right (by omega)]; simpa using hj)
  have hFd : Disj F := fun i j r s hij hr hs' => h1.disj (l.length + i) (l.length + j) r s (by omega) (by rw [List.getElem?_append_right (by omega)]; simpa using hr) (by rw [List.getElem?_append_right (by omega)]; simpa using hs')
  refine ⟨hc.os.trans h.os, hc.tape.trans h.tape, hc.output.trans h.output, (fun hn => ?_), Nat.le_trans h.size hc.size, ?_, ?_, ?_, ?_⟩
  · have h2 := h.ahead hn
    have h3 := hc.ahead (fun r hr => h2.2 r (hs.mem (List.mem_append_left _ hr)))
    exact ⟨Nat.le_trans h2.1 h3.1, fun r hr => (List.mem_append.1 hr).elim (h3.2 r) (fun hf => h2.2 r (hs.mem (List.mem_append_right _ hf)))⟩
  · intro b hb hn
    rw [hc.frame b (Nat.lt_of_lt_of_le hb h.size) ?_, h.frame b hb hn]
    intro r hr hfp
    rcases h1.new r (List.mem_append_left _ hr) b hfp with h2 | ⟨s, hs1, hs2⟩
    · omega
    · exact hn s hs1 hs2
  · refine Disj.append hc.disj hFd fun r hr s hsF b hb1 hb2 => ?_
    rcases hc.new r hr b hb1 with h2 | ⟨t, ht1, ht2⟩
    · have := hFin s hsF b hb2; omega
    · exact hlF t ht1 s hsF b ht2 hb2
  · intro r hr
    rcases List.mem_append.1 hr with h2 | h2
    · exact hc.ok r h2
    · refine r.loc _ _ (fun b hb => ?_) (h1.ok r (List.mem_append_right _ h2))
      exact hc.frame b (hFin r h2 b hb) (fun t ht hfp => hlF t ht r h2 b hfp hb)
  · intro r hr b hb
    rcases List.mem_append.1 hr with h2 | h2
    · rcases hc.new r h2 b hb with h3 | ⟨t, ht1, ht2⟩
      · exact .inl (Nat.le_trans h.size h3)
      · exact h1.new t (List.mem_append_left _ ht1) b ht2
    · exact h1.new r (List.mem_append_right _ h2) b hb
/-- A step in which nothing that was there turns. -/
theorem Tr.calm {w0 w w' : World} {L0 L l' : List Res} (h : Tr w0 L0 w L) (hc : Tr w [] w' l') : Tr w0 L0 w' (l' ++ L) := h.call (l := []) (Sub.refl L) hc
theorem Sub.tail (r : Res) (L : List Res) : Sub L (r :: L) := ⟨fun i => i + 1, fun i j h => by simpa using h, fun i s h => by simpa using h⟩
theorem Sub.drop (A L : List Res) : Sub L (A ++ L) := ⟨fun i => A.length + i, fun i j h => by simpa using h, fun i s h => by show (A ++ L)[A.length + i]? = some s; rw [List.getElem?_append_right (by omega)]; simpa using h⟩
theorem Sub.trans {A B C : List Res} (h : Sub A B) (k : Sub B C) : Sub A C := by
  obtain ⟨σ, h1, h2⟩ := h
  obtain ⟨τ, k1, k2⟩ := k
  exact ⟨fun i => τ (σ i), fun i j e => h1 _ _ (k1 _ _ e), fun i r hr => k2 _ _ (h2 _ _ hr)⟩
theorem Tr.calm0 {w0 w w' : World} {L0 L l' : List Res} (h : Tr w0 L0 w L) (hc : Tr w [] w' l') : Tr w0 L0 w' L := (h.calm hc).sub (Sub.drop l' L)
/-- A new block. -/
theorem Tr.fresh (w : World) (o : Obj) : Tr w [] { w with heap := w.heap.push o } [pt w.heap.size o] := by
  refine ⟨rfl, rfl, rfl, fun _ => ⟨Nat.le_refl _, fun r hr => by simp only [List.mem_singleton] at hr; subst hr; rfl⟩, by simp, fun b hb _ => by simp only [Array.getElem?_push]; rw [if_neg (by omega)], Disj.one _, ?_, ?_⟩
  · intro r hr
    simp only [List.mem_singleton] at hr
    subst hr
    simp [pt]
  · intro r hr b hb
    simp only [List.mem_singleton] at hr
    subst hr
    exact .inl (Nat.le_of_eq hb.symm)
/-- One block is another thing now. -/
theorem Tr.set {w w' : World} {b : Nat} {o o' : Obj} (hos : w'.os = w.os) (ht : w'.tape = w.tape) (ho : w'.output = w.output) (hdr : w.drawn ≤ w'.drawn) (hb : w'.heap[b]? = some o')
    (hsz : w'.heap.size = w.heap.size) (hk : ∀ k, k ≠ b → w'.heap[k]? = w.heap[k]?) : Tr w [pt b o] w' [pt b o'] := by
  refine ⟨hos, ht, ho, fun _ => ⟨hdr, fun r hr => by simp only [List.mem_singleton] at hr; subst hr; rfl⟩, by omega, fun k _ hn => hk k fun e => hn (pt b o) (by simp) e, Disj.one _, ?_, ?_⟩
  · intro r hr
    simp only [List.mem_singleton] at hr
    subst hr
    exact hb
  · intro r hr k hkb
    simp only [List.mem_singleton] at hr
    subst hr
    exact .inr ⟨pt b o, by simp, hkb⟩
end Go.K

namespace Go.K
open Go
set_option linter.unusedVariables false
section
variable {P : Program} {ops : Array Oper} {Q : Exit → Act → World → Prop} {N : Nat} {U : Env} {w0 : World} {L0 L : List Res}

/-- Nothing that was there turns; a value, and what it owns. -/
def calmUpon (P : Program) (w : World) (Pv : Value → Prop) (R : Value → Res) : Result Next → Prop
  | .ok (.value v) w' => Pv v ∧ Tr w [] w' [R v]
  | .ok .skip w' => Pv undef ∧ Tr w [] w' [R undef]
  | .ok (.enter f args) w' => w' = w ∧ Calls P f args w fun e w'' => ∃ v, e = .returned v ∧ Pv v ∧ Tr w [] w'' [R v]
  | _ => False
def Ev (P : Program) (U : Env) (w0 : World) (L0 L : List Res) (o : Op) (ty : TypeId) (Pv : Value → Prop) (R : Value → Res) : Prop :=
  ∀ (ρ : Operand → Value) (w : World) (dst : Option Tmp) (pos : String) (after : Array Edge) (guard : Option (Nat × Bool)),
    (∀ x v, opv U x = some v → ρ x = v) → Tr w0 L0 w L → calmUpon P w Pv R ((execOp ρ ⟨dst, o, ty, pos, after, guard⟩).run P w)
def Is (x : Value) : Value → Prop := fun v => v = x
def No : Value → Res := fun _ => emp
theorem Tr.refl_emp (w : World) : Tr w [] w [emp] := ⟨rfl, rfl, rfl, fun _ => ⟨Nat.le_refl _, fun r hr => by simp only [List.mem_singleton] at hr; subst hr; rfl⟩, Nat.le_refl _, fun _ _ _ => rfl, Disj.one _, fun r h => by simp at h; subst h; trivial, fun r h b hb => by simp at h; subst h; exact hb.elim⟩
theorem Tr.drop_one {w0 w : World} {L0 L : List Res} {r : Res} (h : Tr w0 L0 w (r :: L)) : Tr w0 L0 w L := h.sub (Sub.tail r L)

/-- What is left of a region's operations, from any frame that holds these values, in any world that holds these resources. -/
def GL (P : Program) (ops : Array Oper) (Q : Exit → Act → World → Prop) (l : List Oper) (N : Nat) (U : Env) (w0 : World) (L0 L : List Res) : Prop :=
  ∀ a w, Eqs N a U → Tr w0 L0 w L → wpList P ops Q l a w
def GC (P : Program) (c : Code) (Q : Exit → Act → World → Prop) (N : Nat) (U : Env) (w0 : World) (L0 L : List Res) : Prop :=
  ∀ a w, Eqs N a U → Tr w0 L0 w L → c.wp P Q a w
def GQ (Q : Exit → Act → World → Prop) (e : Exit) (N : Nat) (U : Env) (w0 : World) (L0 L : List Res) : Prop :=
  ∀ a w, Eqs N a U → Tr w0 L0 w L → Q e a w

theorem wp_of_calm {o : Oper} {a : Act} {w : World} {Pv : Value → Prop} {R : Value → Res} {K : Act → World → Prop}
    (h : calmUpon P w Pv R ((execOp a.eval o).run P w)) (hK : ∀ v w', Pv v → Tr w [] w' [R v] → K (a.put o.dst v) w') : o.wp P a w K Q := by
  unfold Oper.wp
  generalize (execOp a.eval o).run P w = r at *
  cases r with
  | ok n w' =>
    cases n <;> simp only [calmUpon] at h <;> simp only [Oper.upon]
    case value v => exact hK _ _ h.1 h.2
    case skip => exact hK _ _ h.1 h.2
    case enter f args =>
      obtain ⟨rfl, hc⟩ := h
      exact hc.mono fun e w'' ⟨v, he, hv, ht⟩ => by subst he; exact hK _ _ hv ht
  | halt x w' => simp only [calmUpon] at h

theorem GL.nil (h : GQ Q .normal N U w0 L0 L) : GL P ops Q [] N U w0 L0 L := h
theorem GL.ev {d : Tmp} {o : Op} {ty : TypeId} {pos : String} {after : Array Edge} {rest : List Oper} {Pv : Value → Prop} {R : Value → Res}
    (h : Ev P U w0 L0 L o ty Pv R) (hd : Nat.ble (d + 1) N = true) (hr : ∀ v, Pv v → GL P ops Q rest N ((d, v) :: U) w0 L0 (R v :: L)) :
    GL P ops Q (⟨some d, o, ty, pos, after, none⟩ :: rest) N U w0 L0 L := by
  intro a w hE hT
  refine wpList_plain rfl fun K hK => ?_
  refine wp_of_calm (h a.eval w (some d) pos after none hE.op hT) fun v w' hv ht => hK _ _ ?_
  exact hr v hv _ _ (hE.put (Nat.le_of_ble_eq_true hd) v) (hT.calm ht)
theorem GL.det {d : Tmp} {o : Op} {ty : TypeId} {pos : String} {after : Array Edge} {rest : List Oper} {x : Value}
    (h : Ev P U w0 L0 L o ty (Is x) No) (hd : Nat.ble (d + 1) N = true) (hr : GL P ops Q rest N ((d, x) :: U) w0 L0 L) :
    GL P ops Q (⟨some d, o, ty, pos, after, none⟩ :: rest) N U w0 L0 L := by
  refine GL.ev h hd fun v hv => ?_
  obtain rfl : v = x := hv
  exact fun a w hE hT => hr a w hE hT.drop_one
theorem GL.det0 {o : Op} {ty : TypeId} {pos : String} {after : Array Edge} {rest : List Oper} {x : Value}
    (h : Ev P U w0 L0 L o ty (Is x) No) (hr : GL P ops Q rest N U w0 L0 L) :
    GL P ops Q (⟨Option.none, o, ty, pos, after, Option.none⟩ :: rest) N U w0 L0 L := by
  intro a w hE hT
  refine wpList_plain rfl fun K hK => ?_
  refine wp_of_calm (h a.eval w Option.none pos after Option.none hE.op hT) fun v w' hv ht => hK _ _ ?_
  exact hr _ _ hE (hT.calm ht).drop_one
/-- A guarded operation: its guard says yes, or no. -/
theorem GL.want {d : Option Tmp} {o : Op} {ty : TypeId} {pos : String} {after : Array Edge} {rest : List Oper} {j : Nat} {b : Bool} (t : Tmp)
    (hj : (ops[j]?).bind (·.dst) = some t) (hv : lk U t = some (.bool b)) (ht : Nat.ble (t + 1) N = true)
    (hr : GL P ops Q (⟨d, o, ty, pos, after, Option.none⟩ :: rest) N U w0 L0 L) :
    GL P ops Q (⟨d, o, ty, pos, after, some (j, b)⟩ :: rest) N U w0 L0 L := by
  intro a w hE hT
  have h := hr a w hE hT
  have hy : yielded ops a.tmps j = some b := by
    have h1 := hE.eq t _ hv
    have h2 : t < a.tmps.size := by rw [hE.size]; exact Nat.le_of_ble_eq_true ht
    simp only [Act.eval, Array.getD_eq_getD_getElem?, Array.getElem?_eq_getElem h2, Option.getD_some] at h1
    simp [yielded, hj, Array.getElem?_eq_getElem h2, h1]
  unfold wpList at h ⊢
  rw [if_pos (by simp [Region.wanted])] at h
  rw [if_pos (by simp [Region.wanted, hy])]
  exact h
theorem GL.skip {d : Tmp} {o : Op} {ty : TypeId} {pos : String} {after : Array Edge} {rest : List Oper} {j : Nat} {b : Bool} (t : Tmp)
    (hj : (ops[j]?).bind (·.dst) = some t) (hv : lk U t = some (.bool (!b))) (ht : Nat.ble (t + 1) N = true) (hd : Nat.ble (d + 1) N = true)
    (hr : GL P ops Q rest N ((d, undef) :: U) w0 L0 L) :
    GL P ops Q (⟨some d, o, ty, pos, after, some (j, b)⟩ :: rest) N U w0 L0 L := by
  intro a w hE hT
  have hy : yielded ops a.tmps j = some (!b) := by
    have h1 := hE.eq t _ hv
    have h2 : t < a.tmps.size := by rw [hE.size]; exact Nat.le_of_ble_eq_true ht
    simp only [Act.eval, Array.getD_eq_getD_getElem?, Array.getElem?_eq_getElem h2, Option.getD_some] at h1
    simp [yielded, hj, Array.getElem?_eq_getElem h2, h1]
  unfold wpList
  rw [if_neg (by cases b <;> simp [Region.wanted, hy])]
  exact hr _ _ (hE.put (Nat.le_of_ble_eq_true hd) undef) hT
theorem GL.skipU {d : Option Tmp} {o : Op} {ty : TypeId} {pos : String} {after : Array Edge} {rest : List Oper} {j : Nat} {b : Bool} {x : Array Value} (t : Tmp)
    (hj : (ops[j]?).bind (·.dst) = some t) (hv : lk U t = some (.tuple x)) (ht : Nat.ble (t + 1) N = true) (hd : (match d with | some d => Nat.ble (d + 1) N | none => true) = true)
    (hr : GL P ops Q rest N (match d with | some d => (d, undef) :: U | none => U) w0 L0 L) :
    GL P ops Q (⟨d, o, ty, pos, after, some (j, b)⟩ :: rest) N U w0 L0 L := by
  intro a w hE hT
  have hy : yielded ops a.tmps j = none := by
    have h1 := hE.eq t _ hv
    have h2 : t < a.tmps.size := by rw [hE.size]; exact Nat.le_of_ble_eq_true ht
    simp only [Act.eval, Array.getD_eq_getD_getElem?, Array.getElem?_eq_getElem h2, Option.getD_some] at h1
    simp [yielded, hj, Array.getElem?_eq_getElem h2, h1]
  unfold wpList
  rw [if_neg (by simp [Region.wanted, hy])]
  cases d with
  | none => exact hr _ _ hE hT
  | some d => exact hr _ _ (hE.put (Nat.le_of_ble_eq_true hd) undef) hT
theorem GL.skip0 {o : Op} {ty : TypeId} {pos : String} {after : Array Edge} {rest : List Oper} {j : Nat} {b : Bool} (t : Tmp)
    (hj : (ops[j]?).bind (·.dst) = some t) (hv : lk U t = some (.bool (!b))) (ht : Nat.ble (t + 1) N = true)
    (hr : GL P ops Q rest N U w0 L0 L) :
    GL P ops Q (⟨Option.none, o, ty, pos, after, some (j, b)⟩ :: rest) N U w0 L0 L := by
  intro a w hE hT
  have hy : yielded ops a.tmps j = some (!b) := by
    have h1 := hE.eq t _ hv
    have h2 : t < a.tmps.size := by rw [hE.size]; exact Nat.le_of_ble_eq_true ht
    simp only [Act.eval, Array.getD_eq_getD_getElem?, Array.getElem?_eq_getElem h2, Option.getD_some] at h1
    simp [yielded, hj, Array.getElem?_eq_getElem h2, h1]
  unfold wpList
  rw [if_neg (by cases b <;> simp [Region.wanted, hy])]
  exact hr _ _ hE hT
theorem GL.split {l : List Oper} {p : Prop} [Decidable p] (t : Tmp) (hv : lk U t = some (.bool (decide p)))
    (h1 : p → GL P ops Q l N ((t, .bool true) :: U) w0 L0 L) (h2 : ¬ p → GL P ops Q l N ((t, .bool false) :: U) w0 L0 L) : GL P ops Q l N U w0 L0 L := by
  have key : ∀ b, decide p = b → ∀ a, Eqs N a U → Eqs N a ((t, .bool b) :: U) := fun b hb a hE => ⟨hE.size, hE.defers, fun s v hs => by
    simp only [lk] at hs
    cases hbe : Nat.beq t s with
    | true =>
      rw [hbe] at hs
      have := Nat.eq_of_beq_eq_true hbe
      subst this
      rw [hE.eq _ _ hv, hb]
      simpa using hs
    | false => rw [hbe] at hs; exact hE.eq s v hs⟩
  intro a w hE hT
  by_cases hp : p
  · exact h1 hp a w (key true (decide_eq_true hp) a hE) hT
  · exact h2 hp a w (key false (decide_eq_false hp) a hE) hT

/-! ### Code -/
theorem GC.seq {x y : Code} (h : GC P x (Exit.then (y.wp P Q) Q) N U w0 L0 L) : GC P (.seq x y) Q N U w0 L0 L := fun a w hE hT => wp_seq (h a w hE hT)
theorem GC.skip (h : GQ Q .normal N U w0 L0 L) : GC P .skip Q N U w0 L0 L := fun a w hE hT => wp_skip (h a w hE hT)
theorem GC.label {l : Nat} (h : GQ Q .normal N U w0 L0 L) : GC P (.label l) Q N U w0 L0 L := fun a w hE hT => wp_label (h a w hE hT)
theorem GC.exit {id : Nat} (h : GQ Q (.exit id) N U w0 L0 L) : GC P (.exit id) Q N U w0 L0 L := fun a w hE hT => wp_exit (h a w hE hT)
theorem GC.ret (h : GQ Q .ret N U w0 L0 L) : GC P .ret Q N U w0 L0 L := fun a w hE hT => wp_ret (h a w hE hT)
theorem GC.block {id : Nat} {c : Code} (h : GC P c (Exit.inBlock id Q) N U w0 L0 L) : GC P (.block id c) Q N U w0 L0 L := fun a w hE hT => wp_block (h a w hE hT)
theorem GC.yes {c : Operand} {x y : Code} (hc : opv U c = some (.bool true)) (h : GC P x Q N U w0 L0 L) : GC P (.cond c x y) Q N U w0 L0 L := fun a w hE hT => wp_cond_true (hE.op _ _ hc) (h a w hE hT)
theorem GC.no {c : Operand} {x y : Code} (hc : opv U c = some (.bool false)) (h : GC P y Q N U w0 L0 L) : GC P (.cond c x y) Q N U w0 L0 L := fun a w hE hT => wp_cond_false (hE.op _ _ hc) (h a w hE hT)
theorem GC.cond {c : Operand} {x y : Code} {p : Prop} [Decidable p] (hc : opv U c = some (.bool (decide p))) (h1 : p → GC P x Q N U w0 L0 L) (h2 : ¬ p → GC P y Q N U w0 L0 L) : GC P (.cond c x y) Q N U w0 L0 L := fun a w hE hT =>
  wp_cond_split (hE.op _ _ hc) (fun h => h1 (of_decide_eq_true h) a w hE hT) (fun h => h2 (of_decide_eq_false h) a w hE hT)
theorem GC.condB {c : Operand} {x y : Code} {b : Bool} (hc : opv U c = some (.bool b)) (h1 : b = true → GC P x Q N U w0 L0 L) (h2 : b = false → GC P y Q N U w0 L0 L) : GC P (.cond c x y) Q N U w0 L0 L := fun a w hE hT =>
  wp_cond_split (hE.op _ _ hc) (fun h => h1 h a w hE hT) (fun h => h2 h a w hE hT)
theorem GC.region {id : Nat} {l : List Oper} (h : GL P l.toArray Q l N U w0 L0 L) : GC P (.region id l.toArray false) Q N U w0 L0 L := fun a w hE hT => wp_region_lit (h a w hE hT)
theorem GC.keep {c : Code} {V : Env} (ts : List Nat) (hk : keep U ts = some V) (h : GC P c Q N V w0 L0 L) : GC P c Q N U w0 L0 L := fun a w hE hT => h a w (hE.sub (keep_agree hk)) hT
/-! ### Behind it -/
theorem GQ.go {y : Code} (h : GC P y Q N U w0 L0 L) : GQ (Exit.then (y.wp P Q) Q) .normal N U w0 L0 L := h
theorem GQ.then_exit {K : Act → World → Prop} {id : Nat} (h : GQ Q (.exit id) N U w0 L0 L) : GQ (Exit.then K Q) (.exit id) N U w0 L0 L := h
theorem GQ.then_ret {K : Act → World → Prop} (h : GQ Q .ret N U w0 L0 L) : GQ (Exit.then K Q) .ret N U w0 L0 L := h
theorem GQ.block_normal {id : Nat} (h : GQ Q .normal N U w0 L0 L) : GQ (Exit.inBlock id Q) .normal N U w0 L0 L := h
theorem GQ.block_ret {id : Nat} (h : GQ Q .ret N U w0 L0 L) : GQ (Exit.inBlock id Q) .ret N U w0 L0 L := h
theorem GQ.block_hit {id : Nat} (h : GQ Q .normal N U w0 L0 L) : GQ (Exit.inBlock id Q) (.exit id) N U w0 L0 L := fun a w hE hT => by
  show (if id = id then Q .normal a w else Q (.exit id) a w)
  rw [if_pos rfl]; exact h a w hE hT
theorem GQ.block_miss {id id' : Nat} (hne : Nat.beq id' id = false) (h : GQ Q (.exit id') N U w0 L0 L) : GQ (Exit.inBlock id Q) (.exit id') N U w0 L0 L := fun a w hE hT => by
  show (if id' = id then Q .normal a w else Q (.exit id') a w)
  rw [if_neg (fun e => by subst e; simp at hne)]; exact h a w hE hT
theorem GQ.ret1 {fn : Func} {R : Ending → World → Prop} {t : Tmp} {v : Value} (hr : fn.results = #[.tmp t]) (hv : lk U t = some v) (h : ∀ w, Tr w0 L0 w L → R (.returned v) w) : GQ (bodyPost P fn R) .ret N U w0 L0 L := fun a w hE hT => by
  refine bodyPost_ret (v := v) ?_ hE.defers (h w hT)
  have := hE.eq t v hv
  simp only [Act.eval, Array.getD_eq_getD_getElem?] at this
  simp [results, hr, this]

theorem wp_loop_of {α : Type} {c : Code} (I : α → Act → World → Prop) (μ : α → Nat)
    (round : ∀ x a w, I x a w → c.wp P (Exit.then (fun a' w' => ∃ y, I y a' w' ∧ μ y < μ x) Q) a w) (x0 : α) (a : Act) (w : World) (h0 : I x0 a w) : (Code.loop c).wp P Q a w := by
  intro b k cs
  have key : ∀ n x a w, μ x = n → I x a w → ∃ e a' w', Q e a' w' ∧ Arrives P (lone (b.at a (.code c :: .inLoop c :: k)) cs w) b k cs e a' w' := by
    intro n
    induction n using Nat.strongRecOn with
    | _ n ih =>
      intro x a w hn hI
      obtain ⟨e, a₁, w₁, hq, harr⟩ := round x a w hI b (.inLoop c :: k) cs
      cases e with
      | normal =>
        obtain ⟨y, hy, hlt⟩ := hq
        obtain ⟨e₂, a₂, w₂, hq₂, harr₂⟩ := ih (μ y) (hn ▸ hlt) y a₁ w₁ rfl hy
        exact ⟨e₂, a₂, w₂, hq₂, .of_steps (Steps.trans harr (.one step_inLoop)) harr₂⟩
      | exit id => exact ⟨_, a₁, w₁, hq, .pass (x := .inLoop c) rfl (fun _ _ => .inl (by simp)) harr⟩
      | goto l => exact ⟨_, a₁, w₁, hq, .pass (x := .inLoop c) rfl (fun _ _ => .inl (by simp)) harr⟩
      | ret => exact ⟨_, a₁, w₁, hq, .pass (x := .inLoop c) rfl (fun _ _ => .inl (by simp)) harr⟩
      | panic ch => exact ⟨_, a₁, w₁, hq, .pass (x := .inLoop c) rfl (fun _ _ => .inl (by simp)) harr⟩
      | outgrown => exact ⟨_, a₁, w₁, hq, .pass (x := .inLoop c) rfl (fun _ _ => .inl (by simp)) harr⟩
  obtain ⟨e, a', w', hq, harr⟩ := key _ x0 a w rfl h0
  exact ⟨e, a', w', hq, .of_steps (.one step_loop) harr⟩
/-- What a loop's head asks for. -/
def Head {α : Type} (N : Nat) (w0 : World) (L0 : List Res) (V : α → Env) (M : α → List Res) (I : α → Prop) (μ : α → Nat) (x : α) : Act → World → Prop :=
  fun a w => ∃ y, (I y ∧ Eqs N a (V y) ∧ Tr w0 L0 w (M y)) ∧ μ y < μ x
theorem GC.loop {α : Type} {c : Code} (V : α → Env) (M : α → List Res) (I : α → Prop) (μ : α → Nat) (x0 : α) (h0 : I x0) (hV : agree U (V x0)) (hM : Sub (M x0) L)
    (round : ∀ x, I x → GC P c (Exit.then (Head N w0 L0 V M I μ x) Q) N (V x) w0 L0 (M x)) : GC P (.loop c) Q N U w0 L0 L := fun a w hE hT =>
  wp_loop_of (fun x a w => I x ∧ Eqs N a (V x) ∧ Tr w0 L0 w (M x)) μ (fun x a w h => round x h.1 a w h.2.1 h.2.2) x0 a w ⟨h0, hE.sub hV, hT.sub hM⟩
theorem GQ.round {α : Type} {V : α → Env} {M : α → List Res} {I : α → Prop} {μ : α → Nat} {x : α} (y : α) (hI : I y) (hμ : μ y < μ x) (hV : agree U (V y)) (hM : Sub (M y) L) :
    GQ (Exit.then (Head N w0 L0 V M I μ x) Q) .normal N U w0 L0 L := fun a w hE hT => ⟨y, ⟨hI, hE.sub hV, hT.sub hM⟩, hμ⟩
end
end Go.K

namespace Go.K
open Go
set_option linter.unusedVariables false
inductive Sp where
  | det (x : Value)
  | own (Pv : Value → Prop) (R : Value → Res)
def Sp.P : Sp → Value → Prop
  | .det x => Is x
  | .own p _ => p
def Sp.R : Sp → Value → Res
  | .det _ => No
  | .own _ r => r
def Sp.val : Sp → Value → Value
  | .det x, _ => x
  | .own _ _, v => v
theorem Sp.val_eq (s : Sp) (v : Value) (h : s.P v) : s.val v = v := by cases s with | det x => exact Eq.symm h | own p r => rfl
abbrev Sps := List (Nat × Sp)
def lkS : Sps → Nat → Sp
  | [], _ => .det undef
  | e :: A, k => bif Nat.beq e.1 k then e.2 else lkS A k
/-- Where an operation's value goes. -/
def dstOf (l : List Oper) (i : Nat) : Option Tmp := (l[i]?).bind (·.dst)
def envB (l : List Oper) (A : Sps) (vs : Nat → Value) : List Nat → Env → Env
  | [], U => U
  | i :: is, U => match dstOf l i with
    | some d => match lkS A i with
      | .det x => (d, x) :: envB l A vs is U
      | .own _ _ => (d, vs i) :: envB l A vs is U
    | none => envB l A vs is U
theorem envB_cons (l : List Oper) (A : Sps) (vs : Nat → Value) (i : Nat) (is : List Nat) (U : Env) : envB l A vs (i :: is) U = (match dstOf l i with
    | some d => (d, (lkS A i).val (vs i)) :: envB l A vs is U
    | none => envB l A vs is U) := by
  rw [envB]
  cases dstOf l i with
  | none => rfl
  | some d => cases lkS A i <;> rfl
def resB (A : Sps) (vs : Nat → Value) : List Nat → List Res → List Res
  | [], L => L
  | i :: is, L => match lkS A i with
    | .det _ => resB A vs is L
    | .own _ r => r (vs i) :: resB A vs is L
def Facts (A : Sps) (vs : Nat → Value) : List Nat → Prop
  | [] => True
  | i :: is => match lkS A i with
    | .det _ => Facts A vs is
    | .own p _ => p (vs i) ∧ Facts A vs is
def gstate (l : List Oper) (A : Sps) (vs : Nat → Value) (b : List Nat) (o : Oper) : Option Bool :=
  match o.guard with
  | none => some true
  | some (j, g) => bif b.contains j && (dstOf l j).isSome then
      (match (lkS A j).val (vs j) with
      | .bool x => some (x == g)
      | .tuple _ => some false
      | _ => none) else none
def noOwn (A : Sps) : List Nat → Bool
  | [] => true
  | i :: is => match lkS A i with
    | .det _ => noOwn A is
    | .own _ _ => false
theorem resB_noOwn {A : Sps} (vs : Nat → Value) (L : List Res) : ∀ {b : List Nat}, noOwn A b = true → resB A vs b L = L
  | [], _ => rfl
  | i :: is, h => by
    simp only [noOwn] at h
    cases hs : lkS A i with
    | det x => rw [hs] at h; simp only [resB, hs]; exact resB_noOwn vs L h
    | own p r => rw [hs] at h; cases h
section
variable (P : Program) (l : List Oper) (V : Env) (w0 : World) (L0 L : List Res)
def Ob (A : Sps) (o : Oper) (b : List Nat) (s : Sp) : Prop := ∀ vs : Nat → Value, Facts A vs b →
  match gstate l A vs b o with
  | some true => Ev P (envB l A vs b V) w0 L0 (resB A vs b L) o.op o.type s.P s.R
  | some false => s = .det undef
  | none => False
inductive DW (Fin : Sps → Prop) : Sps → Nat → List Oper → List (List Nat) → Prop
  | step {A : Sps} {k : Nat} {o : Oper} {os : List Oper} {b : List Nat} {bs : List (List Nat)} (s : Sp) (h : Ob P l V w0 L0 L A o b s) (hr : DW Fin ((k, s) :: A) (k + 1) os bs) : DW Fin A k (o :: os) (b :: bs)
  | fin {A : Sps} {k : Nat} {os : List Oper} (h : Fin A) : DW Fin A k os []
end
section
variable {P : Program} {l : List Oper} {V U : Env} {w0 : World} {L0 L : List Res} {N : Nat} {Q : Exit → Act → World → Prop}
theorem DW.evO {Fin : Sps → Prop} {A : Sps} {k : Nat} {d : Tmp} {op : Op} {ty : TypeId} {pos : String} {after : Array Edge} {os : List Oper} {b : List Nat} {bs : List (List Nat)} {Pv : Value → Prop} {R : Value → Res}
    (h : ∀ vs, Facts A vs b → Ev P (envB l A vs b V) w0 L0 (resB A vs b L) op ty Pv R) (hr : DW P l V w0 L0 L Fin ((k, .own Pv R) :: A) (k + 1) os bs) : DW P l V w0 L0 L Fin A k (⟨some d, op, ty, pos, after, none⟩ :: os) (b :: bs) :=
  .step (.own Pv R) (fun vs hf => h vs hf) hr
theorem DW.detO {Fin : Sps → Prop} {A : Sps} {k : Nat} {d : Option Tmp} {op : Op} {ty : TypeId} {pos : String} {after : Array Edge} {os : List Oper} {b : List Nat} {bs : List (List Nat)} {x : Value}
    (h : ∀ vs, Facts A vs b → Ev P (envB l A vs b V) w0 L0 (resB A vs b L) op ty (Is x) No) (hr : DW P l V w0 L0 L Fin ((k, .det x) :: A) (k + 1) os bs) : DW P l V w0 L0 L Fin A k (⟨d, op, ty, pos, after, none⟩ :: os) (b :: bs) :=
  .step (.det x) (fun vs hf => h vs hf) hr
theorem DW.detgO {Fin : Sps → Prop} {A : Sps} {k : Nat} {d : Option Tmp} {op : Op} {ty : TypeId} {pos : String} {after : Array Edge} {g : Nat × Bool} {os : List Oper} {b : List Nat} {bs : List (List Nat)} {x : Value}
    (hg : ∀ vs, gstate l A vs b ⟨d, op, ty, pos, after, some g⟩ = some true)
    (h : ∀ vs, Facts A vs b → Ev P (envB l A vs b V) w0 L0 (resB A vs b L) op ty (Is x) No) (hr : DW P l V w0 L0 L Fin ((k, .det x) :: A) (k + 1) os bs) : DW P l V w0 L0 L Fin A k (⟨d, op, ty, pos, after, some g⟩ :: os) (b :: bs) :=
  .step (.det x) (fun vs hf => by rw [hg vs]; exact h vs hf) hr
theorem DW.evgO {Fin : Sps → Prop} {A : Sps} {k : Nat} {d : Tmp} {op : Op} {ty : TypeId} {pos : String} {after : Array Edge} {g : Nat × Bool} {os : List Oper} {b : List Nat} {bs : List (List Nat)} {Pv : Value → Prop} {R : Value → Res}
    (hg : ∀ vs, gstate l A vs b ⟨some d, op, ty, pos, after, some g⟩ = some true)
    (h : ∀ vs, Facts A vs b → Ev P (envB l A vs b V) w0 L0 (resB A vs b L) op ty Pv R) (hr : DW P l V w0 L0 L Fin ((k, .own Pv R) :: A) (k + 1) os bs) : DW P l V w0 L0 L Fin A k (⟨some d, op, ty, pos, after, some g⟩ :: os) (b :: bs) :=
  .step (.own Pv R) (fun vs hf => by rw [hg vs]; exact h vs hf) hr
theorem DW.ev {Fin : Sps → Prop} {A : Sps} {k : Nat} {d : Tmp} {op : Op} {ty : TypeId} {pos : String} {after : Array Edge} {os : List Oper} {b : List Nat} {bs : List (List Nat)} {Pv : Value → Prop} {R : Value → Res}
    (hn : noOwn A b = true) (h : ∀ vs, Ev P (envB l A vs b V) w0 L0 L op ty Pv R) (hr : DW P l V w0 L0 L Fin ((k, .own Pv R) :: A) (k + 1) os bs) : DW P l V w0 L0 L Fin A k (⟨some d, op, ty, pos, after, none⟩ :: os) (b :: bs) :=
  .evO (fun vs hf => by rw [resB_noOwn vs L hn]; exact h vs) hr
theorem DW.det {Fin : Sps → Prop} {A : Sps} {k : Nat} {d : Option Tmp} {op : Op} {ty : TypeId} {pos : String} {after : Array Edge} {os : List Oper} {b : List Nat} {bs : List (List Nat)} {x : Value}
    (hn : noOwn A b = true) (h : ∀ vs, Ev P (envB l A vs b V) w0 L0 L op ty (Is x) No) (hr : DW P l V w0 L0 L Fin ((k, .det x) :: A) (k + 1) os bs) : DW P l V w0 L0 L Fin A k (⟨d, op, ty, pos, after, none⟩ :: os) (b :: bs) :=
  .detO (fun vs hf => by rw [resB_noOwn vs L hn]; exact h vs) hr
theorem DW.detg {Fin : Sps → Prop} {A : Sps} {k : Nat} {d : Option Tmp} {op : Op} {ty : TypeId} {pos : String} {after : Array Edge} {g : Nat × Bool} {os : List Oper} {b : List Nat} {bs : List (List Nat)} {x : Value}
    (hn : noOwn A b = true) (hg : ∀ vs, gstate l A vs b ⟨d, op, ty, pos, after, some g⟩ = some true)
    (h : ∀ vs, Ev P (envB l A vs b V) w0 L0 L op ty (Is x) No) (hr : DW P l V w0 L0 L Fin ((k, .det x) :: A) (k + 1) os bs) : DW P l V w0 L0 L Fin A k (⟨d, op, ty, pos, after, some g⟩ :: os) (b :: bs) :=
  .detgO hg (fun vs hf => by rw [resB_noOwn vs L hn]; exact h vs) hr
theorem DW.skip {Fin : Sps → Prop} {A : Sps} {k : Nat} {d : Option Tmp} {op : Op} {ty : TypeId} {pos : String} {after : Array Edge} {g : Nat × Bool} {os : List Oper} {b : List Nat} {bs : List (List Nat)}
    (hg : ∀ vs, gstate l A vs b ⟨d, op, ty, pos, after, some g⟩ = some false)
    (hr : DW P l V w0 L0 L Fin ((k, .det undef) :: A) (k + 1) os bs) : DW P l V w0 L0 L Fin A k (⟨d, op, ty, pos, after, some g⟩ :: os) (b :: bs) :=
  .step (.det undef) (fun vs hf => by rw [hg vs]) hr

theorem DW.want {Fin : Sps → Prop} {A : Sps} {k : Nat} {d : Option Tmp} {op : Op} {ty : TypeId} {pos : String} {after : Array Edge} {g : Nat × Bool} {os : List Oper} {b : List Nat} {bs : List (List Nat)}
    (hg : ∀ vs, gstate l A vs b ⟨d, op, ty, pos, after, some g⟩ = some true) (hr : DW P l V w0 L0 L Fin A k (⟨d, op, ty, pos, after, none⟩ :: os) (b :: bs)) : DW P l V w0 L0 L Fin A k (⟨d, op, ty, pos, after, some g⟩ :: os) (b :: bs) := by
  cases hr with
  | step s h hr => exact .step s (fun vs hf => by rw [hg vs]; exact h vs hf) hr
/-- Two lists of specifications alike below a number. -/
def Like (A B : Sps) (k : Nat) : Prop := ∀ i, i < k → lkS A i = lkS B i
theorem envB_like {A B : Sps} {k : Nat} (h : Like A B k) (vs : Nat → Value) : ∀ (b : List Nat) (U : Env), (∀ i ∈ b, i < k) → envB l A vs b U = envB l B vs b U
  | [], _, _ => rfl
  | i :: is, U, hb => by
    simp only [envB_cons, h i (hb i List.mem_cons_self), envB_like h vs is U fun j hj => hb j (List.mem_cons_of_mem _ hj)]
theorem resB_like {A B : Sps} {k : Nat} (h : Like A B k) (vs : Nat → Value) : ∀ (b : List Nat) (L : List Res), (∀ i ∈ b, i < k) → resB A vs b L = resB B vs b L
  | [], _, _ => rfl
  | i :: is, L, hb => by
    simp only [resB, h i (hb i List.mem_cons_self), resB_like h vs is L fun j hj => hb j (List.mem_cons_of_mem _ hj)]
theorem facts_like {A B : Sps} {k : Nat} (h : Like A B k) (vs : Nat → Value) : ∀ (b : List Nat), (∀ i ∈ b, i < k) → Facts A vs b = Facts B vs b
  | [], _ => rfl
  | i :: is, hb => by
    simp only [Facts, h i (hb i List.mem_cons_self), facts_like h vs is fun j hj => hb j (List.mem_cons_of_mem _ hj)]
theorem gstate_like {A B : Sps} {k : Nat} (h : Like A B k) (vs : Nat → Value) (b : List Nat) (o : Oper) (hb : ∀ i ∈ b, i < k) : gstate l A vs b o = gstate l B vs b o := by
  unfold gstate
  cases o.guard with
  | none => rfl
  | some g =>
    obtain ⟨j, g⟩ := g
    simp only
    by_cases hj : b.contains j = true
    · rw [h j (hb j (by simpa using hj))]
    · have : b.contains j = false := by simpa using hj
      simp only [this, Bool.false_and, cond_false]
theorem Ob.like {A B : Sps} {k : Nat} (h : Like A B k) {o : Oper} {b : List Nat} {s : Sp} (hb : ∀ i ∈ b, i < k) (ho : Ob P l V w0 L0 L A o b s) : Ob P l V w0 L0 L B o b s := by
  intro vs hf
  have := ho vs (by rw [facts_like h vs b hb]; exact hf)
  rw [gstate_like h vs b o hb, envB_like h vs b V hb, resB_like h vs b L hb] at this
  exact this
/-- What a walk has shown. -/
theorem DW.all {Fin : Sps → Prop} {A : Sps} {k : Nat} {os : List Oper} {bs : List (List Nat)} (h : DW P l V w0 L0 L Fin A k os bs) (hb : ∀ i b, bs[i]? = some b → ∀ j ∈ b, j < k + i) :
    ∃ B, Like A B k ∧ Fin B ∧ bs.length ≤ os.length ∧ ∀ i o b, os[i]? = some o → bs[i]? = some b → Ob P l V w0 L0 L B o b (lkS B (k + i)) := by
  induction h with
  | fin h => exact ⟨_, fun _ _ => rfl, h, by simp, fun i o b _ hb => by simp at hb⟩
  | @step A k o os b bs s h hr ih =>
    obtain ⟨B, hL, hF, hlen, hO⟩ := ih fun i b' hi j hj => by have := hb (i + 1) b' (by simpa using hi) j hj; omega
    have hLk : Like A B k := fun i hi => by
      rw [← hL i (by omega)]
      have : Nat.beq k i = false := by
        cases hbe : Nat.beq k i with
        | false => rfl
        | true => have := Nat.eq_of_beq_eq_true hbe; omega
      simp only [lkS, this, cond_false]
    have hk : lkS B k = s := by
      rw [← hL k (by omega)]
      have : Nat.beq k k = true := Nat.beq_refl k
      simp only [lkS, this, cond_true]
    refine ⟨B, hLk, hF, by simp; omega, fun i o' b' ho hbi => ?_⟩
    cases i with
    | zero =>
      simp at ho hbi
      subst ho hbi
      rw [Nat.add_zero, hk]
      exact h.like hLk fun j hj => by have := hb 0 b (by simp) j hj; omega
    | succ i =>
      have := hO i o' b' (by simpa using ho) (by simpa using hbi)
      rw [show k + 1 + i = k + (i + 1) by omega] at this
      exact this
end
end Go.K

namespace Go.K
open Go
set_option linter.unusedVariables false
def direct (l : List Oper) (k i : Nat) : Bool :=
  match l[k]? with
  | some o => o.after.any fun e => Region.binds .any e && Nat.beq e.on i
  | none => false
def befOf (bef : List (List Nat)) (k : Nat) : List Nat := (bef[k]?).getD []
def nodupB : List Nat → Bool
  | [] => true
  | i :: is => !is.contains i && nodupB is
/-- The conditions on a region, all closed. -/
def okB (l : List Oper) (n N : Nat) (bef need : List (List Nat)) (ts : List Nat) : Bool :=
  Nat.beq need.length n && Nat.ble n l.length &&
  (List.range n).all (fun k => nodupB (befOf need k) && (befOf need k).all fun i => (befOf bef k).contains i) &&
  (List.range l.length).all (fun k => match l[k]? with
    | some o => o.after.all fun e => !Region.binds .any e || Nat.ble (e.on + 1) k
    | none => true) &&
  (List.range n).all (fun k => nodupB (befOf bef k) && (befOf bef k).all fun i => Nat.ble (i + 1) k && (direct l k i || (List.range k).any fun j => direct l k j && (befOf bef j).contains i)) &&
  (List.range n).all (fun k => match dstOf l k with
    | some d => Nat.ble (d + 1) N && !ts.contains d && (List.range k).all fun i => match dstOf l i with
      | some d' => !Nat.beq d d'
      | none => true
    | none => true) &&
  (List.range l.length).all (fun t => Nat.ble (t + 1) n || (List.range t).all fun i => Nat.ble (t) i || direct l t i || (List.range t).any fun j => direct l t j && Nat.ble (i + 1) j && (direct l j i || (befOf bef j).contains i || Nat.ble n j))
theorem nodupB_spec : ∀ {l : List Nat}, nodupB l = true → l.Nodup
  | [], _ => List.nodup_nil
  | i :: is, h => by
    simp only [nodupB, Bool.and_eq_true, Bool.not_eq_true'] at h
    exact List.nodup_cons.2 ⟨by simpa using h.1, nodupB_spec h.2⟩
structure Ok (l : List Oper) (n N : Nat) (bef need : List (List Nat)) (ts : List Nat) : Prop where
  len : need.length = n
  nnodup : ∀ k, k < n → (befOf need k).Nodup
  nsub : ∀ k, k < n → ∀ i ∈ befOf need k, i ∈ befOf bef k
  le : n ≤ l.length
  back : ∀ k o, l[k]? = some o → ∀ e ∈ o.after, Region.binds .any e = true → e.on < k
  nodup : ∀ k, k < n → (befOf bef k).Nodup
  lt : ∀ k, k < n → ∀ i ∈ befOf bef k, i < k
  clo : ∀ k, k < n → ∀ i ∈ befOf bef k, direct l k i = true ∨ ∃ j, j < k ∧ direct l k j = true ∧ i ∈ befOf bef j
  dstN : ∀ k d, k < n → dstOf l k = some d → d < N
  dstT : ∀ k d, k < n → dstOf l k = some d → d ∉ ts
  dsts : ∀ k i d, k < n → i < k → dstOf l k = some d → dstOf l i ≠ some d
  tail : ∀ t, n ≤ t → t < l.length → ∀ i, i < t → direct l t i = true ∨ ∃ j, j < t ∧ direct l t j = true ∧ i < j ∧ (direct l j i = true ∨ i ∈ befOf bef j ∨ n ≤ j)
theorem ok_of_B {l : List Oper} {n N : Nat} {bef need : List (List Nat)} {ts : List Nat} (h : okB l n N bef need ts = true) : Ok l n N bef need ts := by
  simp only [okB, Bool.and_eq_true] at h
  obtain ⟨⟨⟨⟨⟨⟨h1, h2⟩, h0⟩, h3⟩, h4⟩, h5⟩, h6⟩ := h
  have h0' : ∀ k, k < n → nodupB (befOf need k) = true ∧ ((befOf need k).all fun i => (befOf bef k).contains i) = true := fun k hk => by
    simpa using List.all_eq_true.1 h0 k (List.mem_range.2 hk)
  have h4' : ∀ k, k < n → nodupB (befOf bef k) = true ∧ ((befOf bef k).all fun i => Nat.ble (i + 1) k && (direct l k i || (List.range k).any fun j => direct l k j && (befOf bef j).contains i)) = true := fun k hk => by
    simpa using List.all_eq_true.1 h4 k (List.mem_range.2 hk)
  have h5' : ∀ k d, k < n → dstOf l k = some d → (Nat.ble (d + 1) N = true ∧ ¬ d ∈ ts) ∧ ∀ i, i < k → dstOf l i ≠ some d := fun k d hk hd => by
    have := List.all_eq_true.1 h5 k (List.mem_range.2 hk)
    simp only [hd, Bool.and_eq_true, Bool.not_eq_true'] at this
    refine ⟨⟨this.1.1, by simpa using this.1.2⟩, fun i hi he => ?_⟩
    have h7 := List.all_eq_true.1 this.2 i (List.mem_range.2 hi)
    simp [he] at h7
  refine ⟨Nat.eq_of_beq_eq_true h1, fun k hk => nodupB_spec (h0' k hk).1, fun k hk i hi => by simpa using List.all_eq_true.1 (h0' k hk).2 i hi, Nat.le_of_ble_eq_true h2, ?_, fun k hk => nodupB_spec (h4' k hk).1, ?_, ?_, fun k d hk hd => Nat.le_of_ble_eq_true (h5' k d hk hd).1.1, fun k d hk hd => (h5' k d hk hd).1.2, fun k i d hk hi hd => (h5' k d hk hd).2 i hi, ?_⟩
  · intro k o hk e he hb
    have hlt : k < l.length := (List.getElem?_eq_some_iff.1 hk).1
    have := List.all_eq_true.1 h3 k (List.mem_range.2 hlt)
    simp only [hk, Array.all_eq_true_iff_forall_mem] at this
    have h7 := this e he
    simp only [hb, Bool.not_true, Bool.false_or] at h7
    exact Nat.le_of_ble_eq_true h7
  · intro k hk i hi
    have := List.all_eq_true.1 (h4' k hk).2 i hi
    simp only [Bool.and_eq_true] at this
    exact Nat.le_of_ble_eq_true this.1
  · intro k hk i hi
    have := List.all_eq_true.1 (h4' k hk).2 i hi
    simp only [Bool.and_eq_true, Bool.or_eq_true, List.any_eq_true, List.mem_range] at this
    rcases this.2 with h7 | ⟨j, hj, h8, h9⟩
    · exact .inl h7
    · exact .inr ⟨j, hj, h8, by simpa using h9⟩
  · intro t hn ht i hi
    have := List.all_eq_true.1 h6 t (List.mem_range.2 ht)
    simp only [Bool.or_eq_true] at this
    rcases this with h7 | h7
    · have := Nat.le_of_ble_eq_true h7; omega
    · have h8 := List.all_eq_true.1 h7 i (List.mem_range.2 hi)
      simp only [Bool.or_eq_true, List.any_eq_true, List.mem_range, Bool.and_eq_true] at h8
      rcases h8 with (h8 | h8) | ⟨j, hj, ⟨h9, h10⟩, h11⟩
      · have := Nat.le_of_ble_eq_true h8; omega
      · exact .inl h8
      · refine .inr ⟨j, hj, h9, Nat.le_of_ble_eq_true h10, ?_⟩
        rcases h11 with (h11 | h11) | h11
        · exact .inl h11
        · exact .inr (.inl (by simpa using h11))
        · exact .inr (.inr (Nat.le_of_ble_eq_true h11))
theorem direct_spec {l : List Oper} {k i : Nat} (h : direct l k i = true) : ∃ o, l[k]? = some o ∧ ∃ e ∈ o.after, Region.binds .any e = true ∧ e.on = i := by
  unfold direct at h
  split at h
  · rename_i o ho
    obtain ⟨e, he, hb⟩ := Array.any_eq_true'.1 h
    simp only [Bool.and_eq_true] at hb
    exact ⟨o, ho, e, he, hb.1, Nat.eq_of_beq_eq_true hb.2⟩
  · cases h
def ownB (A : Sps) (i : Nat) : Bool := match lkS A i with | .det _ => false | .own _ _ => true
theorem resB_eq (A : Sps) (vs : Nat → Value) (L : List Res) : ∀ b, resB A vs b L = (b.filter (ownB A)).map (fun i => (lkS A i).R (vs i)) ++ L
  | [] => rfl
  | i :: is => by
    cases h : lkS A i with
    | det x => simp [resB, h, ownB, resB_eq A vs L is]
    | own p r => simp [resB, h, ownB, resB_eq A vs L is, Sp.R]
theorem sub_map {f : Nat → Res} {b acc : List Nat} {L : List Res} (hn : b.Nodup) (hs : ∀ i ∈ b, i ∈ acc) : Sub (b.map f ++ L) (acc.map f ++ L) := by
  refine ⟨fun i => match b[i]? with | some x => acc.idxOf x | none => acc.length + (i - b.length), ?_, ?_⟩
  · intro i j e
    cases hi : b[i]? with
    | some x =>
      have hx : acc.idxOf x < acc.length := List.idxOf_lt_length_of_mem (hs x (List.mem_of_getElem? hi))
      cases hj : b[j]? with
      | some y =>
        simp only [hi, hj] at e
        have hy : acc.idxOf y < acc.length := List.idxOf_lt_length_of_mem (hs y (List.mem_of_getElem? hj))
        have h1 : acc[acc.idxOf x] = x := List.getElem_idxOf hx
        have h2 : acc[acc.idxOf y] = y := List.getElem_idxOf hy
        have hxy : x = y := by rw [← h1, ← h2]; simp only [e]
        subst hxy
        have hil := (List.getElem?_eq_some_iff.1 hi)
        have hjl := (List.getElem?_eq_some_iff.1 hj)
        obtain ⟨hil, hie⟩ := hil
        obtain ⟨hjl, hje⟩ := hjl
        exact (List.getElem_inj hn).1 (hie.trans hje.symm)
      | none => simp only [hi, hj] at e; omega
    | none =>
      cases hj : b[j]? with
      | some y =>
        simp only [hi, hj] at e
        have hy : acc.idxOf y < acc.length := List.idxOf_lt_length_of_mem (hs y (List.mem_of_getElem? hj))
        omega
      | none =>
        simp only [hi, hj] at e
        have := List.getElem?_eq_none_iff.1 hi
        have := List.getElem?_eq_none_iff.1 hj
        omega
  · intro i r hr
    cases hi : b[i]? with
    | some x =>
      have hil := (List.getElem?_eq_some_iff.1 hi).1
      rw [List.getElem?_append_left (by simpa using hil)] at hr
      simp only [List.getElem?_map, hi, Option.map_some, Option.some.injEq] at hr
      have hx : acc.idxOf x < acc.length := List.idxOf_lt_length_of_mem (hs x (List.mem_of_getElem? hi))
      simp only [hi]
      rw [List.getElem?_append_left (by simpa using hx)]
      simp only [List.getElem?_map, List.getElem?_eq_getElem hx, List.getElem_idxOf hx, Option.map_some, hr]
    | none =>
      have hil := List.getElem?_eq_none_iff.1 hi
      rw [List.getElem?_append_right (by simpa using hil)] at hr
      simp only [hi]
      rw [List.getElem?_append_right (by simp)]
      simpa using hr
theorem eqs_entries {N : Nat} {a : Act} (hN : a.tmps.size = N) (hd : a.defers = []) : ∀ {U : Env}, (∀ e ∈ U, a.eval (.tmp e.1) = e.2) → ∀ t v, lk U t = some v → a.eval (.tmp t) = v
  | [], _, t, v, h => by simp [lk] at h
  | e :: U, he, t, v, h => by
    simp only [lk] at h
    cases hb : Nat.beq e.1 t with
    | true => rw [hb] at h; have := Nat.eq_of_beq_eq_true hb; subst this; rw [he e List.mem_cons_self]; simpa using h
    | false => rw [hb] at h; exact eqs_entries hN hd (fun x hx => he x (List.mem_cons_of_mem _ hx)) t v h
theorem keep_entries {U : Env} : ∀ {ts : List Nat} {V : Env}, keep U ts = some V → ∀ e ∈ V, lk U e.1 = some e.2 ∧ e.1 ∈ ts
  | [], V, h, e, he => by simp [keep] at h; subst h; simp at he
  | t :: ts, V, h, e, he => by
    simp only [keep] at h
    split at h
    · rename_i v hv
      split at h
      · rename_i r hr
        simp only [Option.some.injEq] at h
        subst h
        rcases List.mem_cons.1 he with h1 | h1
        · subst h1; exact ⟨hv, List.mem_cons_self⟩
        · have := keep_entries hr e h1; exact ⟨this.1, List.mem_cons_of_mem _ this.2⟩
      · simp at h
    · have := keep_entries h e he; exact ⟨this.1, List.mem_cons_of_mem _ this.2⟩
end Go.K

namespace Go.K
open Go
set_option linter.unusedVariables false
section
variable {P : Program} {l : List Oper} {V U : Env} {w0 : World} {L0 L : List Res} {n N : Nat} {bef need : List (List Nat)} {ts : List Nat} {Q : Exit → Act → World → Prop}
structure Inv (N n : Nat) (l : List Oper) (V : Env) (w0 : World) (L0 L : List Res) (B : Sps) (listed : Array Bool) (acc : List Nat) (vs : Nat → Value) (a : Act) (w : World) : Prop where
  size : listed.size = l.length
  clo : ∀ j oj, l[j]? = some oj → listed.getD j false = true → ∀ e ∈ oj.after, Region.binds .any e = true → listed.getD e.on false = true
  calm : ∀ j, n ≤ j → listed.getD j false = false
  mem : ∀ i, listed.getD i false = true ↔ i ∈ acc
  tmps : a.tmps.size = N
  defers : a.defers = []
  val : ∀ i ∈ acc, ∀ d, dstOf l i = some d → a.eval (.tmp d) = vs i
  pv : ∀ i ∈ acc, (lkS B i).P (vs i)
  env : ∀ e ∈ V, a.eval (.tmp e.1) = e.2
  tr : Tr w0 L0 w (acc.map (fun i => (lkS B i).R (vs i)) ++ L)
theorem getD_true_of_false {listed : Array Bool} {i : Nat} (h : listed.getD i false = true) : listed.getD i true = true := by
  rcases Nat.lt_or_ge i listed.size with h' | h'
  · simp [h'] at h ⊢; exact h
  · simp [Array.getElem?_eq_none h'] at h
theorem getD_false_of_lt {listed : Array Bool} {i : Nat} (hi : i < listed.size) (h : listed.getD i false = false) : listed.getD i true = false := by
  simp [hi] at h ⊢; exact h
theorem getD_false_of_true {listed : Array Bool} {i : Nat} (h : listed.getD i true = false) : listed.getD i false = false := by
  rcases Nat.lt_or_ge i listed.size with h' | h'
  · simp [h'] at h ⊢; exact h
  · simp [Array.getElem?_eq_none h'] at h
/-- What stands ahead of an operation that may come up, or has, has been. -/
theorem Inv.before {B : Sps} {listed : Array Bool} {acc : List Nat} {vs : Nat → Value} {a : Act} {w : World} (hO : Ok l n N bef need ts) (hI : Inv N n l V w0 L0 L B listed acc vs a w) :
    ∀ k, k < n → (∀ o, l[k]? = some o → ∀ e ∈ o.after, Region.binds .any e = true → listed.getD e.on false = true) → ∀ i ∈ befOf bef k, listed.getD i false = true := by
  intro k
  induction k using Nat.strongRecOn with
  | _ k ih =>
    intro hk hall i hi
    have hdir : ∀ j, direct l k j = true → listed.getD j false = true := fun j hj => by
      obtain ⟨o, ho, e, he, hb, heq⟩ := direct_spec hj
      rw [← heq]; exact hall o ho e he hb
    rcases hO.clo k hk i hi with h1 | ⟨j, hj, h1, h2⟩
    · exact hdir i h1
    · exact ih j hj (by omega) (fun o ho e he hb => hI.clo j o ho (hdir j h1) e he hb) i h2
theorem Inv.eqs {B : Sps} {listed : Array Bool} {acc : List Nat} {vs : Nat → Value} {a : Act} {w : World} (hI : Inv N n l V w0 L0 L B listed acc vs a w) {b : List Nat} (hb : ∀ i ∈ b, i ∈ acc) : Eqs N a (envB l B vs b V) := by
  refine ⟨hI.tmps, hI.defers, eqs_entries hI.tmps hI.defers ?_⟩
  induction b with
  | nil => exact hI.env
  | cons i is ih =>
    have ih' := ih fun j hj => hb j (List.mem_cons_of_mem _ hj)
    rw [envB_cons]
    split
    · rename_i d hd
      intro e he
      rcases List.mem_cons.1 he with h1 | h1
      · subst h1
        show a.eval (.tmp d) = _
        rw [hI.val i (hb i List.mem_cons_self) d hd, Sp.val_eq _ _ (hI.pv i (hb i List.mem_cons_self))]
      · exact ih' e h1
    · exact ih'
theorem Inv.facts {B : Sps} {listed : Array Bool} {acc : List Nat} {vs : Nat → Value} {a : Act} {w : World} (hI : Inv N n l V w0 L0 L B listed acc vs a w) : ∀ {b : List Nat}, (∀ i ∈ b, i ∈ acc) → Facts B vs b
  | [], _ => trivial
  | i :: is, hb => by
    have h1 := hI.pv i (hb i List.mem_cons_self)
    have h2 := hI.facts fun j hj => hb j (List.mem_cons_of_mem _ hj)
    cases h : lkS B i with
    | det x => simp only [Facts, h]; exact h2
    | own p r => simp only [Facts, h]; rw [h] at h1; exact ⟨h1, h2⟩
theorem Inv.res {B : Sps} {listed : Array Bool} {acc : List Nat} {vs : Nat → Value} {a : Act} {w : World} (hI : Inv N n l V w0 L0 L B listed acc vs a w) {b : List Nat} (hn : b.Nodup) (hb : ∀ i ∈ b, i ∈ acc) : Tr w0 L0 w (resB B vs b L) := by
  rw [resB_eq]
  exact hI.tr.sub (sub_map (hn.filter _) fun i hi => hb i (List.mem_filter.1 hi).1)
theorem Inv.step {B : Sps} {listed : Array Bool} {acc : List Nat} {vs : Nat → Value} {a : Act} {w w' : World} {k : Nat} {o : Oper} {v : Value} (hO : Ok l n N bef need ts) (hV : ∀ e ∈ V, e.1 ∈ ts) (hI : Inv N n l V w0 L0 L B listed acc vs a w)
    (ho : l[k]? = some o) (hk : k < n) (hr : k ∈ Region.ready .any l.toArray listed) (hv : (lkS B k).P v) (ht : Tr w [] w' [(lkS B k).R v]) :
    Inv N n l V w0 L0 L B (listed.setIfInBounds k true) (k :: acc) (fun i => if i = k then v else vs i) (a.put o.dst v) w' := by
  obtain ⟨hun, o', ho', hall⟩ := mem_ready.1 hr
  have : o' = o := by rw [List.getElem?_toArray] at ho'; exact Option.some.inj (ho'.symm.trans ho)
  subst this
  have hun' := getD_false_of_true hun
  have hkacc : k ∉ acc := fun h => by rw [(hI.mem k).2 h] at hun'; cases hun'
  have hkl : k < listed.size := by rw [hI.size]; exact (List.getElem?_eq_some_iff.1 ho).1
  have hvs : ∀ i ∈ acc, (if i = k then v else vs i) = vs i := fun i hi => if_neg fun (e : i = k) => hkacc (e ▸ hi)
  have hdst : ∀ i, i ∈ acc → ∀ d, dstOf l i = some d → o'.dst ≠ some d := by
    intro i hi d hd he
    have hin : i < n := by
      rcases Nat.lt_or_ge i n with h | h
      · exact h
      · have := hI.calm i h; rw [(hI.mem i).2 hi] at this; cases this
    have hkd : dstOf l k = some d := by simp [dstOf, ho, he]
    rcases Nat.lt_trichotomy i k with h | h | h
    · exact hO.dsts k i d hk h hkd hd
    · subst h; exact hkacc hi
    · exact hO.dsts i k d hin h hd hkd
  have hput : ∀ d, o'.dst ≠ some d → (a.put o'.dst v).eval (.tmp d) = a.eval (.tmp d) := by
    intro d hd
    cases hdd : o'.dst with
    | none => rfl
    | some d' => rw [eval_put, if_neg (fun e => hd (by rw [hdd, e]))]
  refine ⟨by simp [hI.size], ?_, ?_, ?_, ?_, ?_, ?_, ?_, ?_, ?_⟩
  · intro j oj hj hl e he hb
    by_cases hkj : k = j
    · subst hkj
      have : oj = o' := Option.some.inj (hj.symm.trans ho)
      subst this
      exact getD_set_true (hall e he hb)
    · rw [getD_set_ne false hkj] at hl
      exact getD_set_true (hI.clo j oj hj hl e he hb)
  · intro j hj
    rw [getD_set_ne false (by omega)]
    exact hI.calm j hj
  · intro i
    by_cases hki : k = i
    · subst hki; simp [hkl]
    · rw [getD_set_ne false hki, hI.mem i, List.mem_cons]
      exact ⟨.inr, fun h => h.resolve_left (Ne.symm hki)⟩
  · cases hd : o'.dst <;> simp [Act.put, hI.tmps]
  · cases hd : o'.dst <;> simp [Act.put, hI.defers]
  · intro i hi d hd
    rcases List.mem_cons.1 hi with h | h
    · subst h
      have hod : o'.dst = some d := by simpa [dstOf, ho] using hd
      rw [hod, eval_put, if_pos rfl, if_pos (by rw [hI.tmps]; exact hO.dstN i d hk hd)]
      exact (if_pos rfl).symm
    · rw [hput d (hdst i h d hd), hI.val i h d hd]
      exact (hvs i h).symm
  · intro i hi
    rcases List.mem_cons.1 hi with h | h
    · subst h; simpa using hv
    · rw [hvs i h]; exact hI.pv i h
  · intro e he
    rw [hput e.1 fun hd => hO.dstT k e.1 hk (by simp [dstOf, ho, hd]) (hV e he)]
    exact hI.env e he
  · have h1 : (k :: acc).map (fun i => (lkS B i).R (if i = k then v else vs i)) = (lkS B k).R v :: acc.map (fun i => (lkS B i).R (vs i)) := by
      simp only [List.map_cons, if_true]
      refine congrArg _ (List.map_congr_left fun i hi => ?_)
      rw [hvs i hi]
    rw [h1]
    exact hI.tr.calm ht
/-- An operation that comes up. -/
theorem Inv.run {B : Sps} {listed : Array Bool} {acc : List Nat} {vs : Nat → Value} {a : Act} {w : World} {k : Nat} {o : Oper} {K : Act → World → Prop} (hO : Ok l n N bef need ts) (hV : ∀ e ∈ V, e.1 ∈ ts) (hI : Inv N n l V w0 L0 L B listed acc vs a w)
    (ho : l[k]? = some o) (hk : k < n) (hr : k ∈ Region.ready .any l.toArray listed) (hob : Ob P l V w0 L0 L B o (befOf need k) (lkS B k))
    (hK : ∀ v w', (lkS B k).P v → Tr w [] w' [(lkS B k).R v] → K (a.put o.dst v) w') : wpOp P l.toArray Q k K a w := by
  obtain ⟨hun, o', ho', hall⟩ := mem_ready.1 hr
  rw [List.getElem?_toArray] at ho'
  have : o' = o := Option.some.inj (ho'.symm.trans ho)
  subst this
  have hbef : ∀ i ∈ befOf need k, i ∈ acc := fun i hi => (hI.mem i).1 (hI.before hO k hk (fun o'' ho'' e he hb => by
    have : o'' = o' := Option.some.inj (ho''.symm.trans ho)
    subst this; exact hall e he hb) i (hO.nsub k hk i hi))
  have hE := hI.eqs hbef
  have hT := hI.res (hO.nnodup k hk) hbef
  have hF := hI.facts hbef
  have h1 := hob vs hF
  have hw : ∀ b, gstate l B vs (befOf need k) o' = some b → Region.wanted o' (yielded l.toArray a.tmps) = b := by
    intro b hb
    unfold gstate at hb
    cases hg : o'.guard with
    | none => simp only [hg] at hb; simp [Region.wanted, hg, ← Option.some.inj hb]
    | some jg =>
      obtain ⟨j, g⟩ := jg
      simp only [hg] at hb
      by_cases hc : ((befOf need k).contains j && (dstOf l j).isSome) = true
      · rw [hc] at hb
        simp only [Bool.and_eq_true] at hc
        have hjm : j ∈ befOf need k := by simpa using hc.1
        obtain ⟨t, ht⟩ := Option.isSome_iff_exists.1 hc.2
        have hval := hI.val j (hbef j hjm) t ht
        have hv2 := Sp.val_eq _ _ (hI.pv j (hbef j hjm))
        have htN : t < a.tmps.size := by rw [hI.tmps]; exact hO.dstN j t (by have := hO.lt k hk j (hO.nsub k hk j hjm); omega) ht
        simp only [Act.eval, Array.getD_eq_getD_getElem?, Array.getElem?_eq_getElem htN, Option.getD_some] at hval
        simp only [cond_true] at hb
        rw [hv2] at hb
        have hy : yielded l.toArray a.tmps j = (match vs j with | .bool x => some x | _ => none) := by
          simp only [dstOf] at ht
          simp only [yielded, List.getElem?_toArray, ht, Option.bind_some, Array.getElem?_eq_getElem htN, hval]
          cases vs j <;> rfl
        cases hvj : vs j with
        | bool x =>
          simp only [hvj, Option.some.injEq] at hb hy
          simp [Region.wanted, hg, hy, ← hb]
        | tuple x =>
          simp only [hvj, Option.some.injEq] at hb hy
          simp [Region.wanted, hg, hy, ← hb]
        | _ => simp [hvj] at hb
      · have hc' : ((befOf need k).contains j && (dstOf l j).isSome) = false := by simpa using hc
        rw [hc'] at hb; simp at hb
  unfold wpOp
  simp only [List.getElem?_toArray, ho]
  cases hgs : gstate l B vs (befOf need k) o' with
  | none => rw [hgs] at h1; exact h1.elim
  | some b =>
    rw [hgs] at h1
    rw [hw b hgs]
    cases b with
    | true =>
      simp only [if_true]
      obtain ⟨dst, op, ty, pos, after, guard⟩ := o'
      exact .inl (wp_of_calm (h1 a.eval w dst pos after guard hE.op hT) hK)
    | false =>
      simp only [Bool.false_eq_true, if_false]
      have h2 : lkS B k = .det undef := h1
      exact hK undef w (by rw [h2]; rfl) (by rw [h2]; exact Tr.refl_emp w)
end
end Go.K

namespace Go.K
open Go
set_option linter.unusedVariables false
section
variable {P : Program} {l : List Oper} {V U : Env} {w0 : World} {L0 L : List Res} {n N : Nat} {bef need : List (List Nat)} {ts : List Nat} {Q : Exit → Act → World → Prop}
theorem countP_set {k : Nat} {f g : Nat → Bool} (hf : f k = true) (hg : g k = false) (h : ∀ i, i ≠ k → f i = g i) : ∀ {l : List Nat}, l.Nodup → k ∈ l → l.countP f = l.countP g + 1
  | [], _, hm => by simp at hm
  | i :: is, hn, hm => by
    have hn' := List.nodup_cons.1 hn
    by_cases hik : i = k
    · subst hik
      have : is.countP f = is.countP g := List.countP_congr fun j hj => by rw [h j fun e => hn'.1 (e ▸ hj)]
      simp [hf, hg, this]
    · have hm' : k ∈ is := (List.mem_cons.1 hm).resolve_left (Ne.symm hik)
      have := countP_set hf hg h hn'.2 hm'
      simp only [List.countP_cons, h i hik, this]
      omega
theorem getD_rep (m j : Nat) : (Array.replicate m false).getD j false = false := by
  rcases Nat.lt_or_ge j m with h | h <;> simp [h]
theorem tail_run (hO : Ok l n N bef need ts) : ∀ (d t : Nat), l.length - t = d → n ≤ t → t ≤ l.length → ∀ (fuel : Nat) (listed : Array Bool) (a : Act) (w : World), d ≤ fuel → listed.size = l.length →
    (∀ i, listed.getD i false = true ↔ i < t) → wpList P l.toArray Q (l.drop t) a w → wpAny P .any l.toArray Q fuel listed a w := by
  intro d
  induction d with
  | zero =>
    intro t hd hn ht fuel listed a w hf hs hl h
    have ht' : t = l.length := by omega
    have hnil : Region.ready .any l.toArray listed = [] := by
      refine List.eq_nil_iff_forall_not_mem.2 fun j hj => ?_
      obtain ⟨h0, o, ho, _⟩ := mem_ready.1 hj
      rw [List.getElem?_toArray] at ho
      have hj := (List.getElem?_eq_some_iff.1 ho).1
      have := (hl j).2 (by omega)
      rw [getD_true_of_false this] at h0
      cases h0
    rw [List.drop_of_length_le (by omega)] at h
    cases fuel with
    | zero => exact ⟨hnil, h⟩
    | succ f => exact ⟨fun _ => h, fun i hi => by rw [hnil] at hi; cases hi⟩
  | succ d ih =>
    intro t hd hn ht fuel listed a w hf hs hl h
    obtain ⟨f, rfl⟩ : ∃ f, fuel = f + 1 := ⟨fuel - 1, by omega⟩
    have htl : t < l.length := by omega
    have hto : l[t]? = some l[t] := List.getElem?_eq_getElem htl
    have htr : t ∈ Region.ready .any l.toArray listed := by
      rw [mem_ready]
      refine ⟨getD_false_of_lt (by omega) ?_, l[t], by simp, fun e he hb => (hl _).2 (hO.back t _ hto e he hb)⟩
      cases hc : listed.getD t false with
      | false => rfl
      | true => have := (hl t).1 hc; omega
    refine ⟨fun h0 => by rw [h0] at htr; (exact absurd htr (by simp)), fun i hi => ?_⟩
    obtain ⟨h0, o, ho, hall⟩ := mem_ready.1 hi
    rw [List.getElem?_toArray] at ho
    have hil := (List.getElem?_eq_some_iff.1 ho).1
    have hit : t ≤ i := by
      rcases Nat.lt_or_ge i t with h1 | h1
      · have := (hl i).2 h1; rw [getD_true_of_false this] at h0; cases h0
      · exact h1
    have hie : i = t := by
      rcases Nat.lt_or_ge t i with h1 | h1
      · exfalso
        have hdir : ∀ j, direct l i j = true → listed.getD j false = true := fun j hj => by
          obtain ⟨o', ho', e, he, hb, heq⟩ := direct_spec hj
          have : o' = o := Option.some.inj (ho'.symm.trans ho)
          subst this
          rw [← heq]; exact hall e he hb
        rcases hO.tail i (by omega) hil t h1 with h2 | ⟨j, hj, h2, h3, _⟩
        · have := (hl t).1 (hdir t h2); omega
        · have := (hl j).1 (hdir j h2); omega
      · omega
    subst hie
    rw [List.drop_eq_getElem_cons htl] at h
    have hnext : ∀ a' w', wpList P l.toArray Q (l.drop (i + 1)) a' w' → wpAny P .any l.toArray Q f (listed.setIfInBounds i true) a' w' := fun a' w' h' =>
      ih (i + 1) (by omega) (by omega) (by omega) f _ a' w' (by omega) (by simpa using hs) (fun j => by
        by_cases hij : i = j
        · subst hij; simp [hs, htl]
        · rw [getD_set_ne false hij, hl j]; omega) h'
    unfold wpOp
    simp only [List.getElem?_toArray, hto]
    unfold wpList at h
    split
    · rename_i hw; rw [if_pos hw] at h; exact h.imp (Oper.wp_mono hnext) id
    · rename_i hw; rw [if_neg hw] at h; exact hnext _ _ h
theorem Inv.any {B : Sps} (hO : Ok l n N bef need ts) (hV : ∀ e ∈ V, e.1 ∈ ts) (hob : ∀ k o, k < n → l[k]? = some o → Ob P l V w0 L0 L B o (befOf need k) (lkS B k))
    (hfin : ∀ vs, Facts B vs (List.range n) → GL P l.toArray Q (l.drop n) N (envB l B vs (List.range n) V) w0 L0 (resB B vs (List.range n) L)) :
    ∀ (m : Nat) (listed : Array Bool) (acc : List Nat) (vs : Nat → Value) (a : Act) (w : World) (fuel : Nat), (List.range n).countP (fun i => !listed.getD i false) = m → m + (l.length - n) ≤ fuel →
      Inv N n l V w0 L0 L B listed acc vs a w → wpAny P .any l.toArray Q fuel listed a w := by
  intro m
  induction m with
  | zero =>
    intro listed acc vs a w fuel hc hf hI
    have hall : ∀ i, i < n → listed.getD i false = true := fun i hi => by
      have := List.countP_eq_zero.1 hc i (List.mem_range.2 hi)
      simpa using this
    have hacc : ∀ i ∈ List.range n, i ∈ acc := fun i hi => (hI.mem i).1 (hall i (List.mem_range.1 hi))
    refine tail_run hO (l.length - n) n rfl (Nat.le_refl _) hO.le fuel listed a w (by omega) hI.size (fun i => ⟨fun h => ?_, hall i⟩) ?_
    · rcases Nat.lt_or_ge i n with h1 | h1
      · exact h1
      · rw [hI.calm i h1] at h; cases h
    · exact hfin vs (hI.facts hacc) a w (hI.eqs hacc) (hI.res List.nodup_range hacc)
  | succ m ih =>
    intro listed acc vs a w fuel hc hf hI
    obtain ⟨f, rfl⟩ : ∃ f, fuel = f + 1 := ⟨fuel - 1, by omega⟩
    obtain ⟨j, hjn, hju⟩ : ∃ j, j < n ∧ listed.getD j false = false := by
      have : 0 < (List.range n).countP (fun i => !listed.getD i false) := by omega
      obtain ⟨j, hj, hj2⟩ := List.countP_pos_iff.1 this
      exact ⟨j, List.mem_range.1 hj, by simpa using hj2⟩
    have hlen := hO.le
    -- the least that has not come up may come up
    have hleast : ∀ j, j < n → listed.getD j false = false → ∃ k, k ∈ Region.ready .any l.toArray listed := by
      intro j
      induction j using Nat.strongRecOn with
      | _ j ihj =>
        intro hj hu
        by_cases h : ∃ i, i < j ∧ listed.getD i false = false
        · obtain ⟨i, hi, hiu⟩ := h; exact ihj i hi (by omega) hiu
        · refine ⟨j, mem_ready.2 ⟨getD_false_of_lt (by rw [hI.size]; omega) hu, l[j]'(by omega), by simp, fun e he hb => ?_⟩⟩
          have := hO.back j _ (List.getElem?_eq_getElem (by omega)) e he hb
          cases hc : listed.getD e.on false with
          | true => rfl
          | false => exact absurd ⟨e.on, this, hc⟩ h
    obtain ⟨k0, hk0⟩ := hleast j hjn hju
    refine ⟨fun h0 => by rw [h0] at hk0; (exact absurd hk0 (by simp)), fun i hi => ?_⟩
    obtain ⟨h0, o, ho, hall⟩ := mem_ready.1 hi
    have ho' : l[i]? = some o := by simpa using ho
    have hil := (List.getElem?_eq_some_iff.1 ho').1
    have hin : i < n := by
      rcases Nat.lt_or_ge i n with h1 | h1
      · exact h1
      · exfalso
        have hdir : ∀ j, direct l i j = true → listed.getD j false = true := fun j hj => by
          obtain ⟨o', ho', e, he, hb, heq⟩ := direct_spec hj
          have : o' = o := Option.some.inj (ho'.symm.trans ‹l[i]? = some o›)
          subst this
          rw [← heq]; exact hall e he hb
        rcases hO.tail i h1 hil j (by omega) with h2 | ⟨q, hq, h2, h3, h4⟩
        · rw [hdir j h2] at hju; cases hju
        · have hql := hdir q h2
          have hqn : q < n := by
            rcases Nat.lt_or_ge q n with h | h
            · exact h
            · rw [hI.calm q h] at hql; cases hql
          have hqo : l[q]? = some (l[q]'(by omega)) := List.getElem?_eq_getElem (by omega)
          rcases h4 with h4 | h4 | h4
          · obtain ⟨o', ho', e, he, hb, heq⟩ := direct_spec h4
            have := hI.clo q o' ho' hql e he hb
            rw [heq, hju] at this; cases this
          · have := hI.before hO q hqn (fun o' ho' e he hb => hI.clo q o' ho' hql e he hb) j h4
            rw [hju] at this; cases this
          · omega
    refine hI.run hO hV ho' hin hi (hob i o hin ho') fun v w' hv ht => ?_
    have hiu := getD_false_of_true h0
    refine ih (listed.setIfInBounds i true) (i :: acc) (fun q => if q = i then v else vs q) _ w' f ?_ (by omega) (hI.step hO hV ho' hin hi hv ht)
    have h1 := countP_set (k := i) (f := fun q => !listed.getD q false) (g := fun q => !(listed.setIfInBounds i true).getD q false) (by simp [hiu]) (by simp [hI.size, hil])
      (fun q hq => by simp only [getD_set_ne false (Ne.symm hq)]) (l := List.range n) List.nodup_range (List.mem_range.2 hin)
    omega
theorem GC.drawn {id : Nat} (n : Nat) (bef need : List (List Nat)) (ts : List Nat) (hm : P.follows .mixedOrders = true) (hB : okB l n N bef need ts = true) (hk : K.keep U ts = some V)
    (h : DW P l V w0 L0 L (fun B => ∀ vs, Facts B vs (List.range n) → GL P l.toArray Q (l.drop n) N (envB l B vs (List.range n) V) w0 L0 (resB B vs (List.range n) L)) [] 0 l need) :
    GC P (.region id l.toArray true) Q N U w0 L0 L := by
  intro a w hE hT
  have hO := ok_of_B hB
  obtain ⟨B, _, hfin, hlen, hob⟩ := h.all fun i b hi j hj => by
    have hin : i < n := by rw [← hO.len]; exact (List.getElem?_eq_some_iff.1 hi).1
    have : befOf need i = b := by simp [befOf, hi]
    have := hO.lt i hin j (hO.nsub i hin j (by rw [this]; exact hj))
    omega
  have hke := keep_entries hk
  refine wp_region_any hm ?_
  refine Inv.any hO (fun e he => (hke e he).2) (fun k o hk ho => ?_) hfin _ (Array.replicate l.length false) [] (fun _ => undef) a _ _ rfl ?_ ?_
  · have h1 := hob k o (befOf need k) ho (by
      have : k < need.length := by rw [hO.len]; exact hk
      simp [befOf, List.getElem?_eq_getElem this])
    simpa using h1
  · have h1 : (List.range n).countP (fun i => !(Array.replicate l.length false).getD i false) ≤ n := by
      have := List.countP_le_length (p := fun i => !(Array.replicate l.length false).getD i false) (l := List.range n)
      simpa using this
    have := hO.le
    simp only [List.size_toArray]
    omega
  · refine ⟨by simp, fun j oj hj hl => ?_, fun j hj => getD_rep _ _, fun i => ?_, hE.size, hE.defers, fun i hi => by simp at hi, fun i hi => by simp at hi, fun e he => hE.eq _ _ (hke e he).1, ?_⟩
    · rw [getD_rep] at hl; cases hl
    · rw [getD_rep]; simp
    · simpa using hT.drew
theorem DW.fin0 {A : Sps} {k : Nat} {os : List Oper} (hn : noOwn A (List.range n) = true) (h : ∀ vs, GL P l.toArray Q (l.drop n) N (envB l A vs (List.range n) V) w0 L0 L) :
    DW P l V w0 L0 L (fun B => ∀ vs, Facts B vs (List.range n) → GL P l.toArray Q (l.drop n) N (envB l B vs (List.range n) V) w0 L0 (resB B vs (List.range n) L)) A k os [] :=
  .fin fun vs _ => by rw [resB_noOwn vs L hn]; exact h vs
end
end Go.K
