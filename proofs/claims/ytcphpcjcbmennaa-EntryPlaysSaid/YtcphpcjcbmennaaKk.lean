/- A drawn region in which an operation takes over what an earlier one owns; parts of slices; without conditions. -/
import Derived.Test.YtcphpcjcbmennaaKj
set_option linter.unusedVariables false
set_option linter.unusedSimpArgs false
set_option linter.unnecessarySimpa false
set_option linter.deprecated false
namespace Go.K.M
open Go Go.K
set_option linter.unusedVariables false
inductive Sp where
  | det (x : Value)
  | own (Pv : (Nat → Value) → Value → Prop) (R : (Nat → Value) → Value → Res)
def Sp.P : Sp → (Nat → Value) → Value → Prop
  | .det x, _ => Is x
  | .own p _, vs => p vs
def Sp.R : Sp → (Nat → Value) → Value → Res
  | .det _, _ => No
  | .own _ r, vs => r vs
def Sp.val : Sp → Value → Value
  | .det x, _ => x
  | .own _ _, v => v
theorem Sp.val_eq (s : Sp) (vs : Nat → Value) (v : Value) (h : s.P vs v) : s.val v = v := by cases s with | det x => exact Eq.symm h | own p r => rfl
abbrev Sps := List (Nat × Sp)
def lkS : Sps → Nat → Sp
  | [], _ => .det undef
  | e :: A, k => bif Nat.beq e.1 k then e.2 else lkS A k
/-- The values that an operation looks at. -/
def rs : List Nat → (Nat → Value) → Nat → Value
  | [], _, _ => undef
  | i :: is, vs, j => bif Nat.beq i j then vs i else rs is vs j
def envB (l : List Oper) (A : Sps) (vs : Nat → Value) : List Nat → Env → Env
  | [], U => U
  | i :: is, U => match dstOf l i with
    | some d => match lkS A i with
      | .det x => (d, x) :: envB l A vs is U
      | .own _ _ => (d, vs i) :: envB l A vs is U
    | none => envB l A vs is U
theorem envB_cons (l : List Oper) (A : Sps) (vs : Nat → Value) (i : Nat) (is : List Nat) (U : Env) : envB l A vs (i :: is) U = (match dstOf l i with
    | some d => (d, (lkS A i).val (vs i)) :: envB l A vs is U
    | none => envB l A vs is U) := by
  rw [envB]
  cases dstOf l i with
  | none => rfl
  | some d => cases lkS A i <;> rfl
def resB (A : Sps) (nd : Nat → List Nat) (vs : Nat → Value) : List Nat → List Res → List Res
  | [], L => L
  | i :: is, L => match lkS A i with
    | .det _ => resB A nd vs is L
    | .own _ r => r (rs (nd i) vs) (vs i) :: resB A nd vs is L
def Facts (A : Sps) (nd : Nat → List Nat) (vs : Nat → Value) : List Nat → Prop
  | [] => True
  | i :: is => match lkS A i with
    | .det _ => Facts A nd vs is
    | .own p _ => p (rs (nd i) vs) (vs i) ∧ Facts A nd vs is
def gstate (l : List Oper) (A : Sps) (vs : Nat → Value) (b : List Nat) (o : Oper) : Option Bool :=
  match o.guard with
  | none => some true
  | some (j, g) => bif b.contains j && (dstOf l j).isSome then
      (match (lkS A j).val (vs j) with
      | .bool x => some (x == g)
      | .tuple _ => some false
      | _ => none) else none
/-- What an operation yields, of what it takes over. -/
def movUpon (P : Program) (w : World) (lab : List Res) (Pv : Value → Prop) (R : Value → Res) : Result Next → Prop
  | .ok (.value v) w' => Pv v ∧ Tr w lab w' [R v]
  | .ok .skip w' => Pv undef ∧ Tr w lab w' [R undef]
  | .ok (.enter f args) w' => w' = w ∧ Calls P f args w fun e w'' => ∃ v, e = .returned v ∧ Pv v ∧ Tr w lab w'' [R v]
  | _ => False
def EvM (P : Program) (U : Env) (w0 : World) (L0 L lab : List Res) (o : Op) (ty : TypeId) (Pv : Value → Prop) (R : Value → Res) : Prop :=
  ∀ (ρ : Operand → Value) (w : World) (dst : Option Tmp) (pos : String) (after : Array Edge) (guard : Option (Nat × Bool)),
    (∀ x v, opv U x = some v → ρ x = v) → Tr w0 L0 w L → movUpon P w lab Pv R ((execOp ρ ⟨dst, o, ty, pos, after, guard⟩).run P w)
theorem EvM.of {P : Program} {U : Env} {w0 : World} {L0 L : List Res} {o : Op} {ty : TypeId} {Pv : Value → Prop} {R : Value → Res} (h : Ev P U w0 L0 L o ty Pv R) : EvM P U w0 L0 L [] o ty Pv R := fun ρ w dst pos after guard hρ hT => by
  have := h ρ w dst pos after guard hρ hT
  unfold calmUpon at this
  unfold movUpon
  exact this
theorem wp_of_mov {P : Program} {Q : Exit → Act → World → Prop} {o : Oper} {a : Act} {w : World} {lab : List Res} {Pv : Value → Prop} {R : Value → Res} {K : Act → World → Prop}
    (h : movUpon P w lab Pv R ((execOp a.eval o).run P w)) (hK : ∀ v w', Pv v → Tr w lab w' [R v] → K (a.put o.dst v) w') : o.wp P a w K Q := by
  unfold Oper.wp
  generalize (execOp a.eval o).run P w = r at *
  cases r with
  | ok n w' =>
    cases n <;> simp only [movUpon] at h <;> simp only [Oper.upon]
    case value v => exact hK _ _ h.1 h.2
    case skip => exact hK _ _ h.1 h.2
    case enter f args =>
      obtain ⟨rfl, hc⟩ := h
      exact hc.mono fun e w'' ⟨v, he, hv, ht⟩ => by subst he; exact hK _ _ hv ht
  | halt x w' => simp only [movUpon] at h
section
variable (P : Program) (l : List Oper) (V : Env) (w0 : World) (L0 L : List Res) (nd us ab : Nat → List Nat)
def Ob (A : Sps) (o : Oper) (k : Nat) (s : Sp) : Prop := ∀ vs : Nat → Value, Facts A nd vs (nd k) →
  match gstate l A vs (nd k) o with
  | some true => EvM P (envB l A vs (nd k) V) w0 L0 (resB A nd vs (us k) L) (resB A nd vs (ab k) []) o.op o.type (s.P (rs (nd k) vs)) (s.R (rs (nd k) vs))
  | some false => s = .det undef ∧ ab k = []
  | none => False
inductive DW (Fin : Sps → Prop) : Sps → Nat → List Oper → Nat → Prop
  | step {A : Sps} {k m : Nat} {o : Oper} {os : List Oper} (s : Sp) (h : Ob P l V w0 L0 L nd us ab A o k s) (hr : DW Fin ((k, s) :: A) (k + 1) os m) : DW Fin A k (o :: os) (m + 1)
  | fin {A : Sps} {k : Nat} {os : List Oper} (h : Fin A) : DW Fin A k os 0
end
/-- Two lists of specifications alike below a number. -/
def Like (A B : Sps) (k : Nat) : Prop := ∀ i, i < k → lkS A i = lkS B i
section
variable {P : Program} {l : List Oper} {V U : Env} {w0 : World} {L0 L : List Res} {N n : Nat} {Q : Exit → Act → World → Prop} {nd us ab : Nat → List Nat}
theorem envB_like {A B : Sps} {k : Nat} (h : Like A B k) (vs : Nat → Value) : ∀ (b : List Nat) (U : Env), (∀ i ∈ b, i < k) → envB l A vs b U = envB l B vs b U
  | [], _, _ => rfl
  | i :: is, U, hb => by
    simp only [envB_cons, h i (hb i List.mem_cons_self), envB_like h vs is U fun j hj => hb j (List.mem_cons_of_mem _ hj)]
theorem resB_like {A B : Sps} {k : Nat} (h : Like A B k) (vs : Nat → Value) : ∀ (b : List Nat) (L : List Res), (∀ i ∈ b, i < k) → resB A nd vs b L = resB B nd vs b L
  | [], _, _ => rfl
  | i :: is, L, hb => by
    simp only [resB, h i (hb i List.mem_cons_self), resB_like h vs is L fun j hj => hb j (List.mem_cons_of_mem _ hj)]
theorem facts_like {A B : Sps} {k : Nat} (h : Like A B k) (vs : Nat → Value) : ∀ (b : List Nat), (∀ i ∈ b, i < k) → Facts A nd vs b = Facts B nd vs b
  | [], _ => rfl
  | i :: is, hb => by
    simp only [Facts, h i (hb i List.mem_cons_self), facts_like h vs is fun j hj => hb j (List.mem_cons_of_mem _ hj)]
theorem gstate_like {A B : Sps} {k : Nat} (h : Like A B k) (vs : Nat → Value) (b : List Nat) (o : Oper) (hb : ∀ i ∈ b, i < k) : gstate l A vs b o = gstate l B vs b o := by
  unfold gstate
  cases o.guard with
  | none => rfl
  | some g =>
    obtain ⟨j, g⟩ := g
    simp only
    by_cases hj : b.contains j = true
    · rw [h j (hb j (by simpa using hj))]
    · have : b.contains j = false := by simpa using hj
      simp only [this, Bool.false_and, cond_false]
theorem Ob.like {A B : Sps} {k : Nat} (h : Like A B k) {o : Oper} {s : Sp} (hn : ∀ i ∈ nd k, i < k) (hu : ∀ i ∈ us k, i < k) (ha : ∀ i ∈ ab k, i < k) (ho : Ob P l V w0 L0 L nd us ab A o k s) : Ob P l V w0 L0 L nd us ab B o k s := by
  intro vs hf
  have := ho vs (by rw [facts_like h vs _ hn]; exact hf)
  rw [gstate_like h vs _ o hn, envB_like h vs _ V hn, resB_like h vs _ L hu, resB_like h vs _ [] ha] at this
  exact this
/-- What a walk has shown. -/
theorem DW.all {Fin : Sps → Prop} {A : Sps} {k m : Nat} {os : List Oper} (h : DW P l V w0 L0 L nd us ab Fin A k os m) (hn : ∀ j, j < k + m → ∀ i ∈ nd j, i < j) (hu : ∀ j, j < k + m → ∀ i ∈ us j, i < j) (ha : ∀ j, j < k + m → ∀ i ∈ ab j, i < j) :
    ∃ B, Like A B k ∧ Fin B ∧ m ≤ os.length ∧ ∀ i o, i < m → os[i]? = some o → Ob P l V w0 L0 L nd us ab B o (k + i) (lkS B (k + i)) := by
  induction h with
  | fin h => exact ⟨_, fun _ _ => rfl, h, by simp, fun i o hi _ => absurd hi (by omega)⟩
  | @step A k m o os s h hr ih =>
    obtain ⟨B, hL, hF, hlen, hO⟩ := ih (fun j hj => hn j (by omega)) (fun j hj => hu j (by omega)) (fun j hj => ha j (by omega))
    have hLk : Like A B k := fun i hi => by
      rw [← hL i (by omega)]
      have : Nat.beq k i = false := by
        cases hbe : Nat.beq k i with
        | false => rfl
        | true => have := Nat.eq_of_beq_eq_true hbe; omega
      simp only [lkS, this, cond_false]
    have hk : lkS B k = s := by
      rw [← hL k (by omega)]
      have : Nat.beq k k = true := Nat.beq_refl k
      simp only [lkS, this, cond_true]
    refine ⟨B, hLk, hF, by simp; omega, fun i o' hi ho => ?_⟩
    cases i with
    | zero =>
      simp at ho
      subst ho
      rw [Nat.add_zero, hk]
      exact h.like hLk (hn k (by omega)) (hu k (by omega)) (ha k (by omega))
    | succ i =>
      have := hO i o' (by omega) (by simpa using ho)
      rw [show k + 1 + i = k + (i + 1) by omega] at this
      exact this
end
/-! ### The conditions on what is taken over -/
def okA (n : Nat) (bef need use abl : List (List Nat)) (lv : List Nat) : Bool :=
  (List.range n).all (fun k => nodupB (befOf use k) && (befOf use k).all (fun i => (befOf need k).contains i) && nodupB (befOf abl k) && (befOf abl k).all (fun i => (befOf use k).contains i) &&
    (befOf use k).all fun i => (List.range n).all fun j => Nat.beq j k || !(befOf abl j).contains i || (befOf bef j).contains k) &&
  (nodupB lv && lv.all fun i => Nat.ble (i + 1) n && (List.range n).all fun j => !(befOf abl j).contains i)
structure OkA (n : Nat) (bef need use abl : List (List Nat)) (lv : List Nat) : Prop where
  unodup : ∀ k, k < n → (befOf use k).Nodup
  usub : ∀ k, k < n → ∀ i ∈ befOf use k, i ∈ befOf need k
  anodup : ∀ k, k < n → (befOf abl k).Nodup
  asub : ∀ k, k < n → ∀ i ∈ befOf abl k, i ∈ befOf use k
  early : ∀ k, k < n → ∀ i ∈ befOf use k, ∀ j, j < n → j ≠ k → i ∈ befOf abl j → k ∈ befOf bef j
  lnodup : lv.Nodup
  llt : ∀ i ∈ lv, i < n
  live : ∀ i ∈ lv, ∀ j, j < n → i ∉ befOf abl j
theorem okA_spec {n : Nat} {bef need use abl : List (List Nat)} {lv : List Nat} (h : okA n bef need use abl lv = true) : OkA n bef need use abl lv := by
  simp only [okA, Bool.and_eq_true] at h
  obtain ⟨h1, h2, h3⟩ := h
  have h1' := fun k hk => List.all_eq_true.1 h1 k (List.mem_range.2 hk)
  simp only [Bool.and_eq_true] at h1'
  have h3' := fun i hi => List.all_eq_true.1 h3 i hi
  simp only [Bool.and_eq_true] at h3'
  refine ⟨fun k hk => nodupB_spec (h1' k hk).1.1.1.1, fun k hk i hi => by simpa using List.all_eq_true.1 (h1' k hk).1.1.1.2 i hi, fun k hk => nodupB_spec (h1' k hk).1.1.2, fun k hk i hi => by simpa using List.all_eq_true.1 (h1' k hk).1.2 i hi, fun k hk i hi j hj hjk hm => ?_,
    nodupB_spec h2, fun i hi => Nat.le_of_ble_eq_true (h3' i hi).1, fun i hi j hj hm => ?_⟩
  · have h4 := List.all_eq_true.1 (List.all_eq_true.1 (h1' k hk).2 i hi) j (List.mem_range.2 hj)
    simp only [Bool.or_eq_true, Bool.not_eq_true'] at h4
    rcases h4 with (h4 | h4) | h4
    · exact absurd (Nat.eq_of_beq_eq_true h4) hjk
    · have : (befOf abl j).contains i = true := by simpa using hm
      rw [this] at h4; cases h4
    · simpa using h4
  · have h4 := List.all_eq_true.1 (h3' i hi).2 j (List.mem_range.2 hj)
    have : (befOf abl j).contains i = true := by simpa using hm
    rw [this] at h4; cases h4
def alive (ab : Nat → List Nat) (acc : List Nat) (i : Nat) : Bool := !(acc.any fun j => (ab j).contains i)
theorem alive_iff {ab : Nat → List Nat} {acc : List Nat} {i : Nat} : alive ab acc i = true ↔ ∀ j ∈ acc, i ∉ ab j := by
  simp [alive]
def ownB (A : Sps) (i : Nat) : Bool := match lkS A i with | .det _ => false | .own _ _ => true
theorem resB_eq (A : Sps) (nd : Nat → List Nat) (vs : Nat → Value) (L : List Res) : ∀ b, resB A nd vs b L = (b.filter (ownB A)).map (fun i => (lkS A i).R (rs (nd i) vs) (vs i)) ++ L
  | [] => rfl
  | i :: is => by
    cases h : lkS A i with
    | det x => simp [resB, h, ownB, resB_eq A nd vs L is]
    | own p r => simp [resB, h, ownB, resB_eq A nd vs L is, Sp.R]
theorem rs_congr {b : List Nat} {vs vs' : Nat → Value} (h : ∀ i ∈ b, vs i = vs' i) : rs b vs = rs b vs' := by
  funext j
  induction b with
  | nil => rfl
  | cons i is ih =>
    simp only [rs]
    rw [h i List.mem_cons_self, ih fun j hj => h j (List.mem_cons_of_mem _ hj)]
section
variable {P : Program} {l : List Oper} {V U : Env} {w0 : World} {L0 L : List Res} {n N : Nat} {bef need use abl : List (List Nat)} {ts lv : List Nat} {Q : Exit → Act → World → Prop}
structure Inv (N n : Nat) (l : List Oper) (V : Env) (w0 : World) (L0 L : List Res) (need abl : List (List Nat)) (B : Sps) (listed : Array Bool) (acc : List Nat) (vs : Nat → Value) (a : Act) (w : World) : Prop where
  size : listed.size = l.length
  clo : ∀ j oj, l[j]? = some oj → listed.getD j false = true → ∀ e ∈ oj.after, Region.binds .any e = true → listed.getD e.on false = true
  calm : ∀ j, n ≤ j → listed.getD j false = false
  mem : ∀ i, listed.getD i false = true ↔ i ∈ acc
  nodup : acc.Nodup
  tmps : a.tmps.size = N
  defers : a.defers = []
  val : ∀ i ∈ acc, ∀ d, dstOf l i = some d → a.eval (.tmp d) = vs i
  pv : ∀ i ∈ acc, (lkS B i).P (rs (befOf need i) vs) (vs i)
  env : ∀ e ∈ V, a.eval (.tmp e.1) = e.2
  tr : Tr w0 L0 w ((acc.filter (alive (befOf abl) acc)).map (fun i => (lkS B i).R (rs (befOf need i) vs) (vs i)) ++ L)
theorem Inv.lt {B : Sps} {listed : Array Bool} {acc : List Nat} {vs : Nat → Value} {a : Act} {w : World} (hI : Inv N n l V w0 L0 L need abl B listed acc vs a w) : ∀ i ∈ acc, i < n := fun i hi => by
  rcases Nat.lt_or_ge i n with h | h
  · exact h
  · have := hI.calm i h; rw [(hI.mem i).2 hi] at this; cases this
theorem Inv.before {B : Sps} {listed : Array Bool} {acc : List Nat} {vs : Nat → Value} {a : Act} {w : World} (hO : Ok l n N bef need ts) (hI : Inv N n l V w0 L0 L need abl B listed acc vs a w) :
    ∀ k, k < n → (∀ o, l[k]? = some o → ∀ e ∈ o.after, Region.binds .any e = true → listed.getD e.on false = true) → ∀ i ∈ befOf bef k, listed.getD i false = true := by
  intro k
  induction k using Nat.strongRecOn with
  | _ k ih =>
    intro hk hall i hi
    have hdir : ∀ j, direct l k j = true → listed.getD j false = true := fun j hj => by
      obtain ⟨o, ho, e, he, hb, heq⟩ := direct_spec hj
      rw [← heq]; exact hall o ho e he hb
    rcases hO.clo k hk i hi with h1 | ⟨j, hj, h1, h2⟩
    · exact hdir i h1
    · exact ih j hj (by omega) (fun o ho e he hb => hI.clo j o ho (hdir j h1) e he hb) i h2
theorem Inv.closed {B : Sps} {listed : Array Bool} {acc : List Nat} {vs : Nat → Value} {a : Act} {w : World} (hO : Ok l n N bef need ts) (hI : Inv N n l V w0 L0 L need abl B listed acc vs a w) : ∀ j ∈ acc, ∀ i ∈ befOf bef j, i ∈ acc := fun j hj i hi =>
  (hI.mem i).1 (hI.before hO j (hI.lt j hj) (fun o ho e he hb => hI.clo j o ho ((hI.mem j).2 hj) e he hb) i hi)
theorem Inv.eqs {B : Sps} {listed : Array Bool} {acc : List Nat} {vs : Nat → Value} {a : Act} {w : World} (hI : Inv N n l V w0 L0 L need abl B listed acc vs a w) {b : List Nat} (hb : ∀ i ∈ b, i ∈ acc) : Eqs N a (envB l B vs b V) := by
  refine ⟨hI.tmps, hI.defers, eqs_entries hI.tmps hI.defers ?_⟩
  induction b with
  | nil => exact hI.env
  | cons i is ih =>
    have ih' := ih fun j hj => hb j (List.mem_cons_of_mem _ hj)
    rw [envB_cons]
    split
    · rename_i d hd
      intro e he
      rcases List.mem_cons.1 he with h1 | h1
      · subst h1
        show a.eval (.tmp d) = _
        rw [hI.val i (hb i List.mem_cons_self) d hd, Sp.val_eq _ _ _ (hI.pv i (hb i List.mem_cons_self))]
      · exact ih' e h1
    · exact ih'
theorem Inv.facts {B : Sps} {listed : Array Bool} {acc : List Nat} {vs : Nat → Value} {a : Act} {w : World} (hI : Inv N n l V w0 L0 L need abl B listed acc vs a w) : ∀ {b : List Nat}, (∀ i ∈ b, i ∈ acc) → Facts B (befOf need) vs b
  | [], _ => trivial
  | i :: is, hb => by
    have h1 := hI.pv i (hb i List.mem_cons_self)
    have h2 := hI.facts fun j hj => hb j (List.mem_cons_of_mem _ hj)
    cases h : lkS B i with
    | det x => simp only [Facts, h]; exact h2
    | own p r => simp only [Facts, h]; rw [h] at h1; exact ⟨h1, h2⟩
theorem Inv.res {B : Sps} {listed : Array Bool} {acc : List Nat} {vs : Nat → Value} {a : Act} {w : World} (hI : Inv N n l V w0 L0 L need abl B listed acc vs a w) {b : List Nat} (hn : b.Nodup) (hb : ∀ i ∈ b, i ∈ acc ∧ alive (befOf abl) acc i = true) : Tr w0 L0 w (resB B (befOf need) vs b L) := by
  rw [resB_eq]
  exact hI.tr.sub (sub_map (hn.filter _) fun i hi => List.mem_filter.2 (hb i (List.mem_filter.1 hi).1))
/-- What an operation that may come up uses is there. -/
theorem Inv.used {B : Sps} {listed : Array Bool} {acc : List Nat} {vs : Nat → Value} {a : Act} {w : World} {k : Nat} (hO : Ok l n N bef need ts) (hA : OkA n bef need use abl lv) (hI : Inv N n l V w0 L0 L need abl B listed acc vs a w) (hk : k < n) (hun : k ∉ acc)
    (hbef : ∀ i ∈ befOf bef k, i ∈ acc) : ∀ i ∈ befOf use k, i ∈ acc ∧ alive (befOf abl) acc i = true := fun i hi =>
  ⟨hbef i (hO.nsub k hk i (hA.usub k hk i hi)), alive_iff.2 fun j hj hm => hun (hI.closed hO j hj k (hA.early k hk i hi j (hI.lt j hj) (fun e => hun (e ▸ hj)) hm))⟩
theorem Inv.step {B : Sps} {listed : Array Bool} {acc : List Nat} {vs : Nat → Value} {a : Act} {w w' : World} {k : Nat} {o : Oper} {v : Value} (hO : Ok l n N bef need ts) (hA : OkA n bef need use abl lv) (hV : ∀ e ∈ V, e.1 ∈ ts) (hI : Inv N n l V w0 L0 L need abl B listed acc vs a w)
    (ho : l[k]? = some o) (hk : k < n) (hr : k ∈ Region.ready .any l.toArray listed) (hv : (lkS B k).P (rs (befOf need k) vs) v) (ht : Tr w (resB B (befOf need) vs (befOf abl k) []) w' [(lkS B k).R (rs (befOf need k) vs) v]) :
    Inv N n l V w0 L0 L need abl B (listed.setIfInBounds k true) (k :: acc) (fun i => if i = k then v else vs i) (a.put o.dst v) w' := by
  obtain ⟨hun, o', ho', hall⟩ := mem_ready.1 hr
  have : o' = o := by rw [List.getElem?_toArray] at ho'; exact Option.some.inj (ho'.symm.trans ho)
  subst this
  have hun' := getD_false_of_true hun
  have hkacc : k ∉ acc := fun h => by rw [(hI.mem k).2 h] at hun'; cases hun'
  have hkl : k < listed.size := by rw [hI.size]; exact (List.getElem?_eq_some_iff.1 ho).1
  have hbef : ∀ i ∈ befOf bef k, i ∈ acc := fun i hi => (hI.mem i).1 (hI.before hO k hk (fun o'' ho'' e he hb => by
    have : o'' = o' := Option.some.inj (ho''.symm.trans ho)
    subst this; exact hall e he hb) i hi)
  have hvs : ∀ i ∈ acc, (if i = k then v else vs i) = vs i := fun i hi => if_neg fun (e : i = k) => hkacc (e ▸ hi)
  have hrs : ∀ b, (∀ i ∈ b, i ∈ acc) → rs b (fun i => if i = k then v else vs i) = rs b vs := fun b hb => rs_congr fun i hi => hvs i (hb i hi)
  have hneed : ∀ i ∈ acc, ∀ j ∈ befOf need i, j ∈ acc := fun i hi j hj => hI.closed hO i hi j (hO.nsub i (hI.lt i hi) j hj)
  have hrk : rs (befOf need k) (fun i => if i = k then v else vs i) = rs (befOf need k) vs := hrs _ fun i hi => hbef i (hO.nsub k hk i hi)
  have hdst : ∀ i, i ∈ acc → ∀ d, dstOf l i = some d → o'.dst ≠ some d := by
    intro i hi d hd he
    have hin : i < n := hI.lt i hi
    have hkd : dstOf l k = some d := by simp [dstOf, ho, he]
    rcases Nat.lt_trichotomy i k with h | h | h
    · exact hO.dsts k i d hk h hkd hd
    · subst h; exact hkacc hi
    · exact hO.dsts i k d hin h hd hkd
  have hput : ∀ d, o'.dst ≠ some d → (a.put o'.dst v).eval (.tmp d) = a.eval (.tmp d) := by
    intro d hd
    cases hdd : o'.dst with
    | none => rfl
    | some d' => rw [eval_put, if_neg (fun e => hd (by rw [hdd, e]))]
  refine ⟨by simp [hI.size], ?_, ?_, ?_, List.nodup_cons.2 ⟨hkacc, hI.nodup⟩, ?_, ?_, ?_, ?_, ?_, ?_⟩
  · intro j oj hj hl e he hb
    by_cases hkj : k = j
    · subst hkj
      have : oj = o' := Option.some.inj (hj.symm.trans ho)
      subst this
      exact getD_set_true (hall e he hb)
    · rw [getD_set_ne false hkj] at hl
      exact getD_set_true (hI.clo j oj hj hl e he hb)
  · intro j hj
    rw [getD_set_ne false (by omega)]
    exact hI.calm j hj
  · intro i
    by_cases hki : k = i
    · subst hki; simp [hkl]
    · rw [getD_set_ne false hki, hI.mem i, List.mem_cons]
      exact ⟨.inr, fun h => h.resolve_left (Ne.symm hki)⟩
  · cases hd : o'.dst <;> simp [Act.put, hI.tmps]
  · cases hd : o'.dst <;> simp [Act.put, hI.defers]
  · intro i hi d hd
    rcases List.mem_cons.1 hi with h | h
    · subst h
      have hod : o'.dst = some d := by simpa [dstOf, ho] using hd
      rw [hod, eval_put, if_pos rfl, if_pos (by rw [hI.tmps]; exact hO.dstN i d hk hd)]
      exact (if_pos rfl).symm
    · rw [hput d (hdst i h d hd), hI.val i h d hd]
      exact (hvs i h).symm
  · intro i hi
    rcases List.mem_cons.1 hi with h | h
    · subst h; rw [hrk]; simpa using hv
    · rw [hvs i h, hrs _ (hneed i h)]; exact hI.pv i h
  · intro e he
    rw [hput e.1 fun hd => hO.dstT k e.1 hk (by simp [dstOf, ho, hd]) (hV e he)]
    exact hI.env e he
  · have hkal : alive (befOf abl) (k :: acc) k = true := alive_iff.2 fun j hj hm => by
      rcases List.mem_cons.1 hj with rfl | hj
      · have := hO.lt j hk j (hO.nsub j hk j (hA.usub j hk j (hA.asub j hk j hm))); omega
      · exact hkacc (hI.closed hO j hj k (hO.nsub j (hI.lt j hj) k (hA.usub j (hI.lt j hj) k (hA.asub j (hI.lt j hj) k hm))))
    have h1 : ((k :: acc).filter (alive (befOf abl) (k :: acc))).map (fun i => (lkS B i).R (rs (befOf need i) (fun i => if i = k then v else vs i)) (if i = k then v else vs i)) =
        [(lkS B k).R (rs (befOf need k) vs) v] ++ (acc.filter (alive (befOf abl) (k :: acc))).map (fun i => (lkS B i).R (rs (befOf need i) vs) (vs i)) := by
      rw [List.filter_cons_of_pos hkal, List.map_cons, if_pos rfl, hrk]
      refine congrArg _ (List.map_congr_left fun i hi => ?_)
      have hi2 := (List.mem_filter.1 hi).1
      rw [hvs i hi2, hrs _ (hneed i hi2)]
    rw [h1, List.append_assoc]
    refine hI.tr.call ?_ ht
    rw [resB_eq, List.append_nil, ← List.append_assoc, ← List.map_append]
    refine sub_map ?_ fun i hi => ?_
    · rw [List.nodup_append]
      refine ⟨(hA.anodup k hk).filter _, hI.nodup.filter _, fun i hi j hj e => ?_⟩
      subst e
      have h2 := (List.mem_filter.1 hj).2
      exact alive_iff.1 h2 k List.mem_cons_self (List.mem_filter.1 hi).1
    · rcases List.mem_append.1 hi with h2 | h2
      · exact List.mem_filter.2 (hI.used hO hA hk hkacc hbef i (hA.asub k hk i (List.mem_filter.1 h2).1))
      · obtain ⟨h3, h4⟩ := List.mem_filter.1 h2
        exact List.mem_filter.2 ⟨h3, alive_iff.2 fun j hj => alive_iff.1 h4 j (List.mem_cons_of_mem _ hj)⟩
/-- An operation that comes up. -/
theorem Inv.run {B : Sps} {listed : Array Bool} {acc : List Nat} {vs : Nat → Value} {a : Act} {w : World} {k : Nat} {o : Oper} {K : Act → World → Prop} (hO : Ok l n N bef need ts) (hA : OkA n bef need use abl lv) (hV : ∀ e ∈ V, e.1 ∈ ts) (hI : Inv N n l V w0 L0 L need abl B listed acc vs a w)
    (ho : l[k]? = some o) (hk : k < n) (hr : k ∈ Region.ready .any l.toArray listed) (hob : Ob P l V w0 L0 L (befOf need) (befOf use) (befOf abl) B o k (lkS B k))
    (hK : ∀ v w', (lkS B k).P (rs (befOf need k) vs) v → Tr w (resB B (befOf need) vs (befOf abl k) []) w' [(lkS B k).R (rs (befOf need k) vs) v] → K (a.put o.dst v) w') : wpOp P l.toArray Q k K a w := by
  obtain ⟨hun, o', ho', hall⟩ := mem_ready.1 hr
  rw [List.getElem?_toArray] at ho'
  have : o' = o := Option.some.inj (ho'.symm.trans ho)
  subst this
  have hkacc : k ∉ acc := fun h => by have := getD_false_of_true hun; rw [(hI.mem k).2 h] at this; cases this
  have hbef0 : ∀ i ∈ befOf bef k, i ∈ acc := fun i hi => (hI.mem i).1 (hI.before hO k hk (fun o'' ho'' e he hb => by
    have : o'' = o' := Option.some.inj (ho''.symm.trans ho)
    subst this; exact hall e he hb) i hi)
  have hbef : ∀ i ∈ befOf need k, i ∈ acc := fun i hi => hbef0 i (hO.nsub k hk i hi)
  have hE := hI.eqs hbef
  have hT := hI.res (hA.unodup k hk) (hI.used hO hA hk hkacc hbef0)
  have hF := hI.facts hbef
  have h1 := hob vs hF
  have hw : ∀ b, gstate l B vs (befOf need k) o' = some b → Region.wanted o' (yielded l.toArray a.tmps) = b := by
    intro b hb
    unfold gstate at hb
    cases hg : o'.guard with
    | none => simp only [hg] at hb; simp [Region.wanted, hg, ← Option.some.inj hb]
    | some jg =>
      obtain ⟨j, g⟩ := jg
      simp only [hg] at hb
      by_cases hc : ((befOf need k).contains j && (dstOf l j).isSome) = true
      · rw [hc] at hb
        simp only [Bool.and_eq_true] at hc
        have hjm : j ∈ befOf need k := by simpa using hc.1
        obtain ⟨t, ht⟩ := Option.isSome_iff_exists.1 hc.2
        have hval := hI.val j (hbef j hjm) t ht
        have hv2 := Sp.val_eq _ _ _ (hI.pv j (hbef j hjm))
        have htN : t < a.tmps.size := by rw [hI.tmps]; exact hO.dstN j t (by have := hO.lt k hk j (hO.nsub k hk j hjm); omega) ht
        simp only [Act.eval, Array.getD_eq_getD_getElem?, Array.getElem?_eq_getElem htN, Option.getD_some] at hval
        simp only [cond_true] at hb
        rw [hv2] at hb
        have hy : yielded l.toArray a.tmps j = (match vs j with | .bool x => some x | _ => none) := by
          simp only [dstOf] at ht
          simp only [yielded, List.getElem?_toArray, ht, Option.bind_some, Array.getElem?_eq_getElem htN, hval]
          cases vs j <;> rfl
        cases hvj : vs j with
        | bool x =>
          simp only [hvj, Option.some.injEq] at hb hy
          simp [Region.wanted, hg, hy, ← hb]
        | tuple x =>
          simp only [hvj, Option.some.injEq] at hb hy
          simp [Region.wanted, hg, hy, ← hb]
        | _ => simp [hvj] at hb
      · have hc' : ((befOf need k).contains j && (dstOf l j).isSome) = false := by simpa using hc
        rw [hc'] at hb; simp at hb
  unfold wpOp
  simp only [List.getElem?_toArray, ho]
  cases hgs : gstate l B vs (befOf need k) o' with
  | none => rw [hgs] at h1; exact h1.elim
  | some b =>
    rw [hgs] at h1
    rw [hw b hgs]
    cases b with
    | true =>
      simp only [if_true]
      obtain ⟨dst, op, ty, pos, after, guard⟩ := o'
      exact .inl (wp_of_mov (h1 a.eval w dst pos after guard hE.op hT) hK)
    | false =>
      simp only [Bool.false_eq_true, if_false]
      obtain ⟨h2, h3⟩ : lkS B k = .det undef ∧ befOf abl k = [] := h1
      exact hK undef w (by rw [h2]; rfl) (by rw [h2, h3]; exact Tr.refl_emp w)
theorem Inv.any {B : Sps} (hO : Ok l n N bef need ts) (hA : OkA n bef need use abl lv) (hV : ∀ e ∈ V, e.1 ∈ ts) (hob : ∀ k o, k < n → l[k]? = some o → Ob P l V w0 L0 L (befOf need) (befOf use) (befOf abl) B o k (lkS B k))
    (hfin : ∀ vs, Facts B (befOf need) vs (List.range n) → GL P l.toArray Q (l.drop n) N (envB l B vs (List.range n) V) w0 L0 (resB B (befOf need) vs lv L)) :
    ∀ (m : Nat) (listed : Array Bool) (acc : List Nat) (vs : Nat → Value) (a : Act) (w : World) (fuel : Nat), (List.range n).countP (fun i => !listed.getD i false) = m → m + (l.length - n) ≤ fuel →
      Inv N n l V w0 L0 L need abl B listed acc vs a w → wpAny P .any l.toArray Q fuel listed a w := by
  intro m
  induction m with
  | zero =>
    intro listed acc vs a w fuel hc hf hI
    have hall : ∀ i, i < n → listed.getD i false = true := fun i hi => by
      have := List.countP_eq_zero.1 hc i (List.mem_range.2 hi)
      simpa using this
    have hacc : ∀ i ∈ List.range n, i ∈ acc := fun i hi => (hI.mem i).1 (hall i (List.mem_range.1 hi))
    refine tail_run hO (l.length - n) n rfl (Nat.le_refl _) hO.le fuel listed a w (by omega) hI.size (fun i => ⟨fun h => ?_, hall i⟩) ?_
    · rcases Nat.lt_or_ge i n with h1 | h1
      · exact h1
      · rw [hI.calm i h1] at h; cases h
    · exact hfin vs (hI.facts hacc) a w (hI.eqs hacc) (hI.res hA.lnodup fun i hi => ⟨hacc i (List.mem_range.2 (hA.llt i hi)), alive_iff.2 fun j hj => hA.live i hi j (hI.lt j hj)⟩)
  | succ m ih =>
    intro listed acc vs a w fuel hc hf hI
    obtain ⟨f, rfl⟩ : ∃ f, fuel = f + 1 := ⟨fuel - 1, by omega⟩
    obtain ⟨j, hjn, hju⟩ : ∃ j, j < n ∧ listed.getD j false = false := by
      have : 0 < (List.range n).countP (fun i => !listed.getD i false) := by omega
      obtain ⟨j, hj, hj2⟩ := List.countP_pos_iff.1 this
      exact ⟨j, List.mem_range.1 hj, by simpa using hj2⟩
    have hlen := hO.le
    have hleast : ∀ j, j < n → listed.getD j false = false → ∃ k, k ∈ Region.ready .any l.toArray listed := by
      intro j
      induction j using Nat.strongRecOn with
      | _ j ihj =>
        intro hj hu
        by_cases h : ∃ i, i < j ∧ listed.getD i false = false
        · obtain ⟨i, hi, hiu⟩ := h; exact ihj i hi (by omega) hiu
        · refine ⟨j, mem_ready.2 ⟨getD_false_of_lt (by rw [hI.size]; omega) hu, l[j]'(by omega), by simp, fun e he hb => ?_⟩⟩
          have := hO.back j _ (List.getElem?_eq_getElem (by omega)) e he hb
          cases hc : listed.getD e.on false with
          | true => rfl
          | false => exact absurd ⟨e.on, this, hc⟩ h
    obtain ⟨k0, hk0⟩ := hleast j hjn hju
    refine ⟨fun h0 => by rw [h0] at hk0; (exact absurd hk0 (by simp)), fun i hi => ?_⟩
    obtain ⟨h0, o, ho, hall⟩ := mem_ready.1 hi
    have ho' : l[i]? = some o := by simpa using ho
    have hil := (List.getElem?_eq_some_iff.1 ho').1
    have hin : i < n := by
      rcases Nat.lt_or_ge i n with h1 | h1
      · exact h1
      · exfalso
        have hdir : ∀ j, direct l i j = true → listed.getD j false = true := fun j hj => by
          obtain ⟨o', ho', e, he, hb, heq⟩ := direct_spec hj
          have : o' = o := Option.some.inj (ho'.symm.trans ‹l[i]? = some o›)
          subst this
          rw [← heq]; exact hall e he hb
        rcases hO.tail i h1 hil j (by omega) with h2 | ⟨q, hq, h2, h3, h4⟩
        · rw [hdir j h2] at hju; cases hju
        · have hql := hdir q h2
          have hqn : q < n := by
            rcases Nat.lt_or_ge q n with h | h
            · exact h
            · rw [hI.calm q h] at hql; cases hql
          have hqo : l[q]? = some (l[q]'(by omega)) := List.getElem?_eq_getElem (by omega)
          rcases h4 with h4 | h4 | h4
          · obtain ⟨o', ho', e, he, hb, heq⟩ := direct_spec h4
            have := hI.clo q o' ho' hql e he hb
            rw [heq, hju] at this; cases this
          · have := hI.before hO q hqn (fun o' ho' e he hb => hI.clo q o' ho' hql e he hb) j h4
            rw [hju] at this; cases this
          · omega
    refine hI.run hO hA hV ho' hin hi (hob i o hin ho') fun v w' hv ht => ?_
    have hiu := getD_false_of_true h0
    refine ih (listed.setIfInBounds i true) (i :: acc) (fun q => if q = i then v else vs q) _ w' f ?_ (by omega) (hI.step hO hA hV ho' hin hi hv ht)
    have h1 := countP_set (k := i) (f := fun q => !listed.getD q false) (g := fun q => !(listed.setIfInBounds i true).getD q false) (by simp [hiu]) (by simp [hI.size, hil])
      (fun q hq => by simp only [getD_set_ne false (Ne.symm hq)]) (l := List.range n) List.nodup_range (List.mem_range.2 hin)
    omega
theorem GC.drawn {id : Nat} (n : Nat) (bef need use abl : List (List Nat)) (lv ts : List Nat) (hm : P.follows .mixedOrders = true) (hB : okB l n N bef need ts = true) (hA : okA n bef need use abl lv = true) (hk : K.keep U ts = some V)
    (h : DW P l V w0 L0 L (befOf need) (befOf use) (befOf abl) (fun B => ∀ vs, Facts B (befOf need) vs (List.range n) → GL P l.toArray Q (l.drop n) N (envB l B vs (List.range n) V) w0 L0 (resB B (befOf need) vs lv L)) [] 0 l n) :
    GC P (.region id l.toArray true) Q N U w0 L0 L := by
  intro a w hE hT
  have hO := ok_of_B hB
  have hA := okA_spec hA
  obtain ⟨B, _, hfin, hlen, hob⟩ := h.all (fun j hj i hi => hO.lt j (by omega) i (hO.nsub j (by omega) i hi)) (fun j hj i hi => hO.lt j (by omega) i (hO.nsub j (by omega) i (hA.usub j (by omega) i hi)))
    (fun j hj i hi => hO.lt j (by omega) i (hO.nsub j (by omega) i (hA.usub j (by omega) i (hA.asub j (by omega) i hi))))
  have hke := keep_entries hk
  refine wp_region_any hm ?_
  refine Inv.any hO hA (fun e he => (hke e he).2) (fun k o hk ho => ?_) hfin _ (Array.replicate l.length false) [] (fun _ => undef) a _ _ rfl ?_ ?_
  · have := hob k o hk ho
    simpa using this
  · have h1 : (List.range n).countP (fun i => !(Array.replicate l.length false).getD i false) ≤ n := by
      have := List.countP_le_length (p := fun i => !(Array.replicate l.length false).getD i false) (l := List.range n)
      simpa using this
    have := hO.le
    simp only [List.size_toArray]
    omega
  · refine ⟨by simp, fun j oj hj hl => ?_, fun j hj => getD_rep _ _, fun i => ?_, List.nodup_nil, hE.size, hE.defers, fun i hi => by simp at hi, fun i hi => by simp at hi, fun e he => hE.eq _ _ (hke e he).1, ?_⟩
    · rw [getD_rep] at hl; cases hl
    · rw [getD_rep]; simp
    · simpa using hT.drew
end
end Go.K.M

namespace Go.K
open Go
set_option linter.unusedVariables false
namespace M
section
variable {P : Program} {l : List Oper} {V U : Env} {w0 : World} {L0 L : List Res} {nd us ab : Nat → List Nat} {Fin : Sps → Prop} {A : Sps} {k m : Nat} {op : Op} {ty : TypeId} {pos : String} {after : Array Edge} {os : List Oper} {b u a : List Nat}
theorem DW.ev {d : Option Tmp} (hb : nd k = b) (hu : us k = u) (ha : ab k = a) (Pv : (Nat → Value) → Value → Prop) (R : (Nat → Value) → Value → Res)
    (h : ∀ vs, Facts A nd vs b → EvM P (envB l A vs b V) w0 L0 (resB A nd vs u L) (resB A nd vs a []) op ty (Pv (rs b vs)) (R (rs b vs)))
    (hr : DW P l V w0 L0 L nd us ab Fin ((k, .own Pv R) :: A) (k + 1) os m) : DW P l V w0 L0 L nd us ab Fin A k (⟨d, op, ty, pos, after, none⟩ :: os) (m + 1) := by
  subst hb hu ha
  exact .step (.own Pv R) (fun vs hf => h vs hf) hr
theorem DW.det {d : Option Tmp} {x : Value} (hb : nd k = b) (hu : us k = u) (ha : ab k = [])
    (h : ∀ vs, Facts A nd vs b → Ev P (envB l A vs b V) w0 L0 (resB A nd vs u L) op ty (Is x) No)
    (hr : DW P l V w0 L0 L nd us ab Fin ((k, .det x) :: A) (k + 1) os m) : DW P l V w0 L0 L nd us ab Fin A k (⟨d, op, ty, pos, after, none⟩ :: os) (m + 1) := by
  subst hb hu
  refine .step (.det x) (fun vs hf => ?_) hr
  show EvM P _ w0 L0 _ (resB A nd vs (ab k) []) op ty (Is x) No
  rw [ha]
  exact EvM.of (h vs hf)
theorem DW.want {d : Option Tmp} {g : Nat × Bool} (hb : nd k = b) (hg : ∀ vs, gstate l A vs b ⟨d, op, ty, pos, after, some g⟩ = some true)
    (hr : DW P l V w0 L0 L nd us ab Fin A k (⟨d, op, ty, pos, after, none⟩ :: os) m) : DW P l V w0 L0 L nd us ab Fin A k (⟨d, op, ty, pos, after, some g⟩ :: os) m := by
  subst hb
  cases hr with
  | step s h hr => exact .step s (fun vs hf => by rw [hg vs]; exact h vs hf) hr
  | fin h => exact .fin h
theorem DW.skip {d : Option Tmp} {g : Nat × Bool} (hb : nd k = b) (ha : ab k = []) (hg : ∀ vs, gstate l A vs b ⟨d, op, ty, pos, after, some g⟩ = some false)
    (hr : DW P l V w0 L0 L nd us ab Fin ((k, .det undef) :: A) (k + 1) os m) : DW P l V w0 L0 L nd us ab Fin A k (⟨d, op, ty, pos, after, some g⟩ :: os) (m + 1) := by
  subst hb
  exact .step (.det undef) (fun vs hf => by rw [hg vs]; exact ⟨rfl, ha⟩) hr
end
end M
/-! ### Parts of slices -/
def slL (a : Option Addr) (i s c : Nat) : Option Addr := if c = i then a else a.map (·.add (i * s))
section
variable {P : Program} {U : Env} {w0 : World} {L0 L : List Res} {ty : TypeId} {T E : TypeId} {x y : Operand} {k n c : Nat} {a : Option Addr} {kd : IntKind} {i : Int}
theorem add_zero {p : Addr} (h : p = ⟨p.block, p.off, none⟩) : p.add 0 = p := by
  rw [h]; rfl
theorem e_sliceH (hf : slOf P T = some (E, k)) (hx : opv U x = some (.slice a n c)) (hy : opv U y = some (.int kd i)) (h0 : 0 ≤ i) (h1 : i ≤ c) (ha : ∀ p, a = some p → p = ⟨p.block, p.off, none⟩) :
    Ev P U w0 L0 L (.slice T x none (some y) none) ty (Is (.slice a i.toNat c)) No :=
  .val fun ρ w dst pos after guard hρ hT => by
    obtain ⟨h2, _, h3⟩ := slOf_spec hf
    have h4 : P.underlying T = some (.slice (P.elem T)) := by simp [Program.elem, h2]
    have h5 : P.elem T = E := by simp [Program.elem, h2]
    have h6 := run_sliceAt_slice (P := P) w T (.slice a n c) none (some (.int kd i)) none h4
    have h7 := run_slice_h (P := P) w T a n c h4 kd i h0 h1
    rw [h5, h3] at h7
    have h8 : sliced a 0 i.toNat c k = .slice a i.toNat c := by
      unfold sliced
      cases a with
      | none => simp
      | some p =>
        have := add_zero (ha p rfl)
        by_cases hc : c = 0
        · simp [hc]
        · simp [hc, this]
    simp only [Result.andThen_ok, h8] at h7
    simp [execOp, hρ _ _ hx, hρ _ _ hy, h6, h7, go_sem]
theorem e_sliceL (hf : slOf P T = some (E, k)) (hx : opv U x = some (.slice a n c)) (hy : opv U y = some (.int kd i)) (h0 : 0 ≤ i) (h1 : i ≤ n) :
    Ev P U w0 L0 L (.slice T x (some y) none none) ty (Is (.slice (slL a i.toNat k c) (n - i.toNat) (c - i.toNat))) No :=
  .val fun ρ w dst pos after guard hρ hT => by
    obtain ⟨h2, _, h3⟩ := slOf_spec hf
    have h4 : P.underlying T = some (.slice (P.elem T)) := by simp [Program.elem, h2]
    have h5 : P.elem T = E := by simp [Program.elem, h2]
    have h6 := run_sliceAt_slice (P := P) w T (.slice a n c) (some (.int kd i)) none none h4
    have h7 := run_slice_l (P := P) w T a n c h4 kd i h0 h1
    rw [h5, h3] at h7
    simp only [Result.andThen_ok] at h7
    have h8 : sliced a i.toNat n c k = .slice (slL a i.toNat k c) (n - i.toNat) (c - i.toNat) := rfl
    rw [h8] at h7
    simp [execOp, hρ _ _ hx, hρ _ _ hy, h6, h7, go_sem]
end
theorem Sl.takeH {w : World} {k n i : Nat} {a : Option Addr} {xs : List Value} (h : Sl w k a n xs) (hi : i ≤ n) : Sl w k a i (xs.take (i * k)) := by
  have hl := h.len
  have := Nat.mul_le_mul_right k hi
  refine ⟨by rw [List.length_take]; omega, fun hp => h.base (by omega), fun j v hj => h.cell j v ?_⟩
  have hjl := (List.getElem?_eq_some_iff.1 hj).1
  rw [List.length_take] at hjl
  rw [List.getElem?_take_of_lt (by omega)] at hj
  exact hj
theorem Sl.dropL {w : World} {k n i c : Nat} {a : Option Addr} {xs : List Value} (h : Sl w k a n xs) (hi : i ≤ n) (hc : n ≤ c) : Sl w k (slL a i k c) (n - i) (xs.drop (i * k)) := by
  have hl := h.len
  rcases Nat.eq_zero_or_pos (n - i) with h0 | h0
  · have : i = n := by omega
    subst this
    rw [h0, List.drop_of_length_le (by omega)]
    exact ⟨by simp, fun hp => absurd hp (by omega), fun j v hj => by simp at hj⟩
  · have hb := h.base (by omega)
    have e : slL a i k c = some ⟨bk a, of_ a + i * k, none⟩ := by
      unfold slL
      rw [if_neg (by omega), hb]
      simp [Addr.add, bk, of_]
    rw [e]
    refine ⟨by rw [List.length_drop, hl, Nat.sub_mul], fun _ => rfl, fun j v hj => ?_⟩
    rw [List.getElem?_drop] at hj
    have := h.cell _ v hj
    simp only [bk, of_, Nat.add_assoc] at this ⊢
    exact this
/-- The row behind a value. -/
def rowOf (k : Nat) (E : TypeId) (xs : List Value) : Value → Res
  | .slice a _ c => row a c k E xs
  | _ => emp
section
variable {P : Program} {U : Env} {w0 : World} {L0 L : List Res} {ty : TypeId} {T E : TypeId} {x y : Operand}
theorem Ev.mapR {o : Op} {Pv : Value → Prop} {R R' : Value → Res} (h : Ev P U w0 L0 L o ty Pv R) (hm : ∀ v w w', Pv v → Tr w [] w' [R v] → Tr w [] w' [R' v]) : Ev P U w0 L0 L o ty Pv R' := fun ρ w dst pos after guard hρ hT => by
  have := h ρ w dst pos after guard hρ hT
  revert this
  unfold calmUpon
  split
  · exact fun h => ⟨h.1, hm _ _ _ h.1 h.2⟩
  · exact fun h => ⟨h.1, hm _ _ _ h.1 h.2⟩
  · exact fun h => ⟨h.1, h.2.mono fun e w'' ⟨v, h1, h2, h3⟩ => ⟨v, h1, h2, hm _ _ _ h2 h3⟩⟩
  · exact id
theorem e_build0 {z : List Value} {bytes k : Nat} (hm : mkOf P T = some (E, z, bytes)) : Ev P U w0 L0 L (.buildSlice T 0 #[]) ty (fun u => ∃ b, u = .slice (some ⟨b, 0, none⟩) 0 0) (rowOf k E []) :=
  (e_buildSlice (len := 0) (parts := []) (cs := []) hm (by simp) rfl).mapR fun v w w' ⟨b, hb⟩ h => by
    subst hb
    exact h.cl_row (by simp)
theorem e_build1 {z cs : List Value} {v : Value} {bytes : Nat} (hm : mkOf P T = some (E, z, bytes)) (hz : Nat.ble z.length 16777216 = true) (hx : opv U x = some v) (hc : cellsO v = some cs) (hl : cs.length = z.length) :
    Ev P U w0 L0 L (.buildSlice T 1 #[(0, x)]) ty (fun u => ∃ b, u = .slice (some ⟨b, 0, none⟩) 1 1) (atPtr fun b => cl b E cs) :=
  e_buildSlice (len := 1) (parts := [(0, x)]) hm (by rw [Nat.one_mul]; exact hz) (by
    have hs : spliceO (zeros z 1) 0 cs = some cs := by
      have hzl : (zeros z 1).length = z.length := by simp [zeros]
      rw [spliceO_of (by omega), List.drop_of_length_le (by omega)]
      simp
    simp [buildO, hx, hc, hl, hs])
theorem e_appendM {z : List Value} {bytes k : Nat} (hm : mkOf P T = some (E, z, bytes)) (hk : k = z.length) {a : Option Addr} {n c : Nat} {xs : List Value} (hx : opv U x = some (.slice a n c)) (hxl : xs.length = n * k) (hnc : n ≤ c)
    {a2 : Option Addr} {m c2 : Nat} {ys : List Value} (hy : opv U y = some (.slice a2 m c2)) (hS : ∀ w, Tr w0 L0 w L → Sl w k a2 m ys) (hrow : ∀ w, Tr w0 L0 w L → (row a c k E xs).ok w.heap) (h1 : ∀ u ∈ ys, u.oneCell' = true) (hb : (n + m) * bytes ≤ 140737488355328) (h63 : n + m ≤ 9223372036854775807) :
    M.EvM P U w0 L0 L [row a c k E xs] (.call ⟨.builtin .append, #[x, y], #[T, T]⟩) ty (fun v => ∃ a' c', v = .slice a' (n + m) c' ∧ n + m ≤ c') (rowOf k E (xs ++ ys)) := by
  intro ρ w dst pos after guard hρ hT
  subst hk
  have hx' := hρ _ _ hx
  have hy' := hρ _ _ hy
  have hS' := hS w hT
  rcases Nat.eq_zero_or_pos m with h0 | h0
  · subst h0
    have hyl := hS'.len
    rw [Nat.zero_mul] at hyl
    obtain rfl := List.length_eq_zero_iff.1 hyl
    have hE := e_append0 (P := P) (U := U) (w0 := w0) (L0 := L0) (L := L) (ty := ty) hm hx hnc hy ρ w dst pos after guard hρ hT
    obtain ⟨it, zv, g1, g2, g3, g4, g5, g6, g7⟩ := mkOf_spec hm
    have hzr : (Builtin.append_ #[T, T] ty #[.slice a n c, .slice a2 0 c2]).run P w = .ok (.slice a n c) w := by
      cases a <;> cases a2 <;> simp [Builtin.append_, run_underlying g1, sizeOf, typeInfo, g2, Builtin.lenOf, Builtin.firstCells, loadCells, storeCells, hnc, go_sem]
    rw [exec_append, hx', hy', hzr]
    refine ⟨⟨a, c, rfl, hnc⟩, ?_⟩
    rw [List.append_nil]
    exact Tr.start (Disj.one _) (fun r hr => by simp only [List.mem_singleton] at hr; subst hr; exact hrow w hT)
  · obtain ⟨p, rfl⟩ : ∃ p, a2 = some p := ⟨_, hS'.base h0⟩
    obtain ⟨a', c', w', hrun, hTr⟩ := run_append (P := P) (ty := ty) (c2 := c2) hm (hrow w hT) hxl hS' h0 h1 hb h63
    rw [exec_append, hx', hy', hrun]
    refine ⟨⟨a', c', rfl, ?_⟩, hTr⟩
    have hok := hTr.ok _ List.mem_cons_self
    cases a' with
    | none =>
      have h2 := (hok.1 rfl).1
      have h3 := congrArg List.length h2
      have hyl := hS'.len
      have hzp := (mkOf_spec hm).choose_spec.choose_spec.2.2.2.2.2.1
      have := Nat.mul_pos h0 hzp
      simp only [List.length_append, List.length_nil] at h3
      omega
    | some q =>
      obtain ⟨_, junk, _, h3⟩ := hok.2 q rfl
      have hyl := hS'.len
      have hzp := (mkOf_spec hm).choose_spec.choose_spec.2.2.2.2.2.1
      simp only [List.length_append] at h3
      have h4 : (n + m) * z.length ≤ c' * z.length := by rw [Nat.add_mul]; omega
      exact Nat.le_of_mul_le_mul_right h4 hzp
end
end Go.K
