/- A drawn region in which an operation takes over what an earlier one owns, told by addresses; without conditions. -/
import Derived.Test.YtcphpcjcbmennaaKl
set_option linter.unusedVariables false
set_option linter.unusedSimpArgs false
set_option linter.unnecessarySimpa false
set_option linter.deprecated false
namespace Go.K.D
open Go Go.K
set_option linter.unusedVariables false
abbrev Gh := Nat → Option Addr × Nat
def gh0 : Gh := fun _ => (none, 0)
inductive Sp where
  | det (x : Value)
  | own (val : (Nat → Gh) → Gh → Value) (Pv : (Nat → Gh) → Gh → Prop) (R : (Nat → Gh) → Gh → Res)
def Sp.val : Sp → (Nat → Gh) → Gh → Value
  | .det x, _, _ => x
  | .own v _ _, vs, g => v vs g
def Sp.P : Sp → (Nat → Gh) → Gh → Prop
  | .det _, _, _ => True
  | .own _ p _, vs, g => p vs g
def Sp.R : Sp → (Nat → Gh) → Gh → Res
  | .det _, _, _ => emp
  | .own _ _ r, vs, g => r vs g
abbrev Sps := List (Nat × Sp)
def lkS : Sps → Nat → Sp
  | [], _ => .det undef
  | e :: A, k => bif Nat.beq e.1 k then e.2 else lkS A k
/-- The addresses that an operation looks at. -/
def rs : List Nat → (Nat → Gh) → Nat → Gh
  | [], _, _ => gh0
  | i :: is, vs, j => bif Nat.beq i j then vs i else rs is vs j
def envB (l : List Oper) (A : Sps) (nd : Nat → List Nat) (vs : Nat → Gh) : List Nat → Env → Env
  | [], U => U
  | i :: is, U => match dstOf l i with
    | some d => match lkS A i with
      | .det x => (d, x) :: envB l A nd vs is U
      | .own v _ _ => (d, v (rs (nd i) vs) (vs i)) :: envB l A nd vs is U
    | none => envB l A nd vs is U
theorem envB_cons (l : List Oper) (A : Sps) (nd : Nat → List Nat) (vs : Nat → Gh) (i : Nat) (is : List Nat) (U : Env) : envB l A nd vs (i :: is) U = (match dstOf l i with
    | some d => (d, (lkS A i).val (rs (nd i) vs) (vs i)) :: envB l A nd vs is U
    | none => envB l A nd vs is U) := by
  rw [envB]
  cases dstOf l i with
  | none => rfl
  | some d => cases lkS A i <;> rfl
abbrev resB (A : Sps) (nd : Nat → List Nat) (vs : Nat → Gh) : List Nat → List Res → List Res
  | [], L => L
  | i :: is, L => match lkS A i with
    | .det _ => resB A nd vs is L
    | .own _ _ r => r (rs (nd i) vs) (vs i) :: resB A nd vs is L
def Facts (A : Sps) (nd : Nat → List Nat) (vs : Nat → Gh) : List Nat → Prop
  | [] => True
  | i :: is => match lkS A i with
    | .det _ => Facts A nd vs is
    | .own _ p _ => p (rs (nd i) vs) (vs i) ∧ Facts A nd vs is
def gstate (l : List Oper) (A : Sps) (nd : Nat → List Nat) (vs : Nat → Gh) (b : List Nat) (o : Oper) : Option Bool :=
  match o.guard with
  | none => some true
  | some (j, g) => bif b.contains j && (dstOf l j).isSome then
      (match (lkS A j).val (rs (nd j) vs) (vs j) with
      | .bool x => some (x == g)
      | .tuple _ => some false
      | _ => none) else none
/-- What an operation yields, of what it takes over. -/
def movUpon (P : Program) (w : World) (lab : List Res) (val : Gh → Value) (Pv : Gh → Prop) (R : Gh → Res) : Result Next → Prop
  | .ok (.value v) w' => ∃ g, v = val g ∧ Pv g ∧ Tr w lab w' [R g]
  | .ok .skip w' => ∃ g, undef = val g ∧ Pv g ∧ Tr w lab w' [R g]
  | .ok (.enter f args) w' => w' = w ∧ Calls P f args w fun e w'' => ∃ g, e = .returned (val g) ∧ Pv g ∧ Tr w lab w'' [R g]
  | _ => False
def EvM (P : Program) (U : Env) (w0 : World) (L0 L lab : List Res) (o : Op) (ty : TypeId) (val : Gh → Value) (Pv : Gh → Prop) (R : Gh → Res) : Prop :=
  ∀ (ρ : Operand → Value) (w : World) (dst : Option Tmp) (pos : String) (after : Array Edge) (guard : Option (Nat × Bool)),
    (∀ x v, opv U x = some v → ρ x = v) → Tr w0 L0 w L → movUpon P w lab val Pv R ((execOp ρ ⟨dst, o, ty, pos, after, guard⟩).run P w)
theorem EvM.of {P : Program} {U : Env} {w0 : World} {L0 L : List Res} {o : Op} {ty : TypeId} {x : Value} (h : Ev P U w0 L0 L o ty (Is x) No) : EvM P U w0 L0 L [] o ty (fun _ => x) (fun _ => True) (fun _ => emp) := fun ρ w dst pos after guard hρ hT => by
  have := h ρ w dst pos after guard hρ hT
  generalize (execOp ρ ⟨dst, o, ty, pos, after, guard⟩).run P w = r at *
  cases r with
  | ok n w' =>
    cases n <;> simp only [calmUpon] at this
    case value v => exact ⟨gh0, this.1, trivial, this.2⟩
    case skip => exact ⟨gh0, this.1, trivial, this.2⟩
    case enter f args => exact ⟨this.1, this.2.mono fun e w'' ⟨v, h1, h2, h3⟩ => ⟨gh0, by rw [h1, h2], trivial, h3⟩⟩
  | halt x w' => exact this
theorem wp_of_mov {P : Program} {Q : Exit → Act → World → Prop} {o : Oper} {a : Act} {w : World} {lab : List Res} {val : Gh → Value} {Pv : Gh → Prop} {R : Gh → Res} {K : Act → World → Prop}
    (h : movUpon P w lab val Pv R ((execOp a.eval o).run P w)) (hK : ∀ g w', Pv g → Tr w lab w' [R g] → K (a.put o.dst (val g)) w') : o.wp P a w K Q := by
  unfold Oper.wp
  generalize (execOp a.eval o).run P w = r at *
  cases r with
  | ok n w' =>
    cases n <;> simp only [movUpon] at h <;> simp only [Oper.upon]
    case value v => obtain ⟨g, rfl, h1, h2⟩ := h; exact hK _ _ h1 h2
    case skip => obtain ⟨g, h0, h1, h2⟩ := h; rw [h0]; exact hK _ _ h1 h2
    case enter f args =>
      obtain ⟨rfl, hc⟩ := h
      exact hc.mono fun e w'' ⟨g, he, hv, ht⟩ => by subst he; exact hK _ _ hv ht
  | halt x w' => simp only [movUpon] at h
section
variable (P : Program) (l : List Oper) (V : Env) (w0 : World) (L0 L : List Res) (nd us ab : Nat → List Nat)
def Ob (A : Sps) (o : Oper) (k : Nat) (s : Sp) : Prop := ∀ vs : Nat → Gh, Facts A nd vs (nd k) →
  match gstate l A nd vs (nd k) o with
  | some true => EvM P (envB l A nd vs (nd k) V) w0 L0 (resB A nd vs (us k) L) (resB A nd vs (ab k) []) o.op o.type (s.val (rs (nd k) vs)) (s.P (rs (nd k) vs)) (s.R (rs (nd k) vs))
  | some false => s = .det undef ∧ ab k = []
  | none => False
inductive DW (Fin : Sps → Prop) : Sps → Nat → List Oper → Nat → Prop
  | step {A : Sps} {k m : Nat} {o : Oper} {os : List Oper} (s : Sp) (h : Ob P l V w0 L0 L nd us ab A o k s) (hr : DW Fin ((k, s) :: A) (k + 1) os m) : DW Fin A k (o :: os) (m + 1)
  | fin {A : Sps} {k : Nat} {os : List Oper} (h : Fin A) : DW Fin A k os 0
end
/-- Two lists of specifications alike below a number. -/
def Like (A B : Sps) (k n : Nat) : Prop := ∀ i, i < k ∨ n ≤ i → lkS A i = lkS B i
section
variable {P : Program} {l : List Oper} {V U : Env} {w0 : World} {L0 L : List Res} {N n : Nat} {Q : Exit → Act → World → Prop} {nd us ab : Nat → List Nat}
theorem envB_like {A B : Sps} {k n : Nat} (h : Like A B k n) (vs : Nat → Gh) : ∀ (b : List Nat) (U : Env), (∀ i ∈ b, i < k ∨ n ≤ i) → envB l A nd vs b U = envB l B nd vs b U
  | [], _, _ => rfl
  | i :: is, U, hb => by
    simp only [envB_cons, h i (hb i List.mem_cons_self), envB_like h vs is U fun j hj => hb j (List.mem_cons_of_mem _ hj)]
theorem resB_like {A B : Sps} {k n : Nat} (h : Like A B k n) (vs : Nat → Gh) : ∀ (b : List Nat) (L : List Res), (∀ i ∈ b, i < k ∨ n ≤ i) → resB A nd vs b L = resB B nd vs b L
  | [], _, _ => rfl
  | i :: is, L, hb => by
    simp only [resB, h i (hb i List.mem_cons_self), resB_like h vs is L fun j hj => hb j (List.mem_cons_of_mem _ hj)]
theorem facts_like {A B : Sps} {k n : Nat} (h : Like A B k n) (vs : Nat → Gh) : ∀ (b : List Nat), (∀ i ∈ b, i < k ∨ n ≤ i) → Facts A nd vs b = Facts B nd vs b
  | [], _ => rfl
  | i :: is, hb => by
    simp only [Facts, h i (hb i List.mem_cons_self), facts_like h vs is fun j hj => hb j (List.mem_cons_of_mem _ hj)]
theorem gstate_like {A B : Sps} {k n : Nat} (h : Like A B k n) (vs : Nat → Gh) (b : List Nat) (o : Oper) (hb : ∀ i ∈ b, i < k ∨ n ≤ i) : gstate l A nd vs b o = gstate l B nd vs b o := by
  unfold gstate
  cases o.guard with
  | none => rfl
  | some g =>
    obtain ⟨j, g⟩ := g
    simp only
    by_cases hj : b.contains j = true
    · rw [h j (hb j (by simpa using hj))]
    · have : b.contains j = false := by simpa using hj
      simp only [this, Bool.false_and, cond_false]
theorem Ob.like {A B : Sps} {k n : Nat} (h : Like A B k n) {o : Oper} {s : Sp} (hn : ∀ i ∈ nd k, i < k ∨ n ≤ i) (hu : ∀ i ∈ us k, i < k ∨ n ≤ i) (ha : ∀ i ∈ ab k, i < k ∨ n ≤ i) (ho : Ob P l V w0 L0 L nd us ab A o k s) : Ob P l V w0 L0 L nd us ab B o k s := by
  intro vs hf
  have := ho vs (by rw [facts_like h vs _ hn]; exact hf)
  rw [gstate_like h vs _ o hn, envB_like h vs _ V hn, resB_like h vs _ L hu, resB_like h vs _ [] ha] at this
  exact this
/-- What a walk has shown. -/
theorem DW.all {Fin : Sps → Prop} {A : Sps} {k m n : Nat} {os : List Oper} (h : DW P l V w0 L0 L nd us ab Fin A k os m) (hkm : k + m ≤ n) (hn : ∀ j, j < k + m → ∀ i ∈ nd j, i < j ∨ n ≤ i) (hu : ∀ j, j < k + m → ∀ i ∈ us j, i < j ∨ n ≤ i) (ha : ∀ j, j < k + m → ∀ i ∈ ab j, i < j ∨ n ≤ i) :
    ∃ B, Like A B k n ∧ Fin B ∧ m ≤ os.length ∧ ∀ i o, i < m → os[i]? = some o → Ob P l V w0 L0 L nd us ab B o (k + i) (lkS B (k + i)) := by
  induction h with
  | fin h => exact ⟨_, fun _ _ => rfl, h, by simp, fun i o hi _ => absurd hi (by omega)⟩
  | @step A k m o os s h hr ih =>
    obtain ⟨B, hL, hF, hlen, hO⟩ := ih (by omega) (fun j hj => hn j (by omega)) (fun j hj => hu j (by omega)) (fun j hj => ha j (by omega))
    have hLk : Like A B k n := fun i hi => by
      rw [← hL i (by omega)]
      have : Nat.beq k i = false := by
        cases hbe : Nat.beq k i with
        | false => rfl
        | true => have := Nat.eq_of_beq_eq_true hbe; omega
      simp only [lkS, this, cond_false]
    have hk : lkS B k = s := by
      rw [← hL k (by omega)]
      have : Nat.beq k k = true := Nat.beq_refl k
      simp only [lkS, this, cond_true]
    refine ⟨B, hLk, hF, by simp; omega, fun i o' hi ho => ?_⟩
    cases i with
    | zero =>
      simp at ho
      subst ho
      rw [Nat.add_zero, hk]
      exact h.like hLk (hn k (by omega)) (hu k (by omega)) (ha k (by omega))
    | succ i =>
      have := hO i o' (by omega) (by simpa using ho)
      rw [show k + 1 + i = k + (i + 1) by omega] at this
      exact this
end
/-! ### The conditions on what is taken over -/
def okA (n t : Nat) (bef need use abl : List (List Nat)) (lv : List Nat) : Bool :=
  (List.range n).all (fun k => nodupB (befOf use k) && (befOf use k).all (fun i => (befOf need k).contains i || (Nat.ble n i && Nat.ble (i + 1) (n + t))) && nodupB (befOf abl k) && (befOf abl k).all (fun i => (befOf use k).contains i) &&
    (befOf use k).all fun i => (List.range n).all fun j => Nat.beq j k || !(befOf abl j).contains i || (befOf bef j).contains k) &&
  (nodupB lv && lv.all fun i => Nat.ble (i + 1) (n + t) && (List.range n).all fun j => !(befOf abl j).contains i)
structure OkA (n t : Nat) (bef need use abl : List (List Nat)) (lv : List Nat) : Prop where
  unodup : ∀ k, k < n → (befOf use k).Nodup
  usub : ∀ k, k < n → ∀ i ∈ befOf use k, i ∈ befOf need k ∨ (n ≤ i ∧ i < n + t)
  anodup : ∀ k, k < n → (befOf abl k).Nodup
  asub : ∀ k, k < n → ∀ i ∈ befOf abl k, i ∈ befOf use k
  early : ∀ k, k < n → ∀ i ∈ befOf use k, ∀ j, j < n → j ≠ k → i ∈ befOf abl j → k ∈ befOf bef j
  lnodup : lv.Nodup
  llt : ∀ i ∈ lv, i < n + t
  live : ∀ i ∈ lv, ∀ j, j < n → i ∉ befOf abl j
theorem okA_spec {n t : Nat} {bef need use abl : List (List Nat)} {lv : List Nat} (h : okA n t bef need use abl lv = true) : OkA n t bef need use abl lv := by
  simp only [okA, Bool.and_eq_true] at h
  obtain ⟨h1, h2, h3⟩ := h
  have h1' := fun k hk => List.all_eq_true.1 h1 k (List.mem_range.2 hk)
  simp only [Bool.and_eq_true] at h1'
  have h3' := fun i hi => List.all_eq_true.1 h3 i hi
  simp only [Bool.and_eq_true] at h3'
  refine ⟨fun k hk => nodupB_spec (h1' k hk).1.1.1.1, fun k hk i hi => by
    have h5 := List.all_eq_true.1 (h1' k hk).1.1.1.2 i hi
    simp only [Bool.or_eq_true, Bool.and_eq_true] at h5
    rcases h5 with h5 | h5
    · exact .inl (by simpa using h5)
    · exact .inr ⟨Nat.le_of_ble_eq_true h5.1, Nat.le_of_ble_eq_true h5.2⟩, fun k hk => nodupB_spec (h1' k hk).1.1.2, fun k hk i hi => by simpa using List.all_eq_true.1 (h1' k hk).1.2 i hi, fun k hk i hi j hj hjk hm => ?_,
    nodupB_spec h2, fun i hi => Nat.le_of_ble_eq_true (h3' i hi).1, fun i hi j hj hm => ?_⟩
  · have h4 := List.all_eq_true.1 (List.all_eq_true.1 (h1' k hk).2 i hi) j (List.mem_range.2 hj)
    simp only [Bool.or_eq_true, Bool.not_eq_true'] at h4
    rcases h4 with (h4 | h4) | h4
    · exact absurd (Nat.eq_of_beq_eq_true h4) hjk
    · have : (befOf abl j).contains i = true := by simpa using hm
      rw [this] at h4; cases h4
    · simpa using h4
  · have h4 := List.all_eq_true.1 (h3' i hi).2 j (List.mem_range.2 hj)
    have : (befOf abl j).contains i = true := by simpa using hm
    rw [this] at h4; cases h4
def alive (ab : Nat → List Nat) (acc : List Nat) (i : Nat) : Bool := !(acc.any fun j => (ab j).contains i)
theorem alive_iff {ab : Nat → List Nat} {acc : List Nat} {i : Nat} : alive ab acc i = true ↔ ∀ j ∈ acc, i ∉ ab j := by
  simp [alive]
def ownB (A : Sps) (i : Nat) : Bool := match lkS A i with | .det _ => false | .own _ _ _ => true
theorem resB_eq (A : Sps) (nd : Nat → List Nat) (vs : Nat → Gh) (L : List Res) : ∀ b, resB A nd vs b L = (b.filter (ownB A)).map (fun i => (lkS A i).R (rs (nd i) vs) (vs i)) ++ L
  | [] => rfl
  | i :: is => by
    cases h : lkS A i with
    | det x => simp [resB, h, ownB, resB_eq A nd vs L is]
    | own q p r => simp [resB, h, ownB, resB_eq A nd vs L is, Sp.R]
theorem rs_congr {b : List Nat} {vs vs' : Nat → Gh} (h : ∀ i ∈ b, vs i = vs' i) : rs b vs = rs b vs' := by
  funext j
  induction b with
  | nil => rfl
  | cons i is ih =>
    simp only [rs]
    rw [h i List.mem_cons_self, ih fun j hj => h j (List.mem_cons_of_mem _ hj)]
section
variable {P : Program} {l : List Oper} {V U : Env} {w0 : World} {L0 L : List Res} {n t N : Nat} {bef need use abl : List (List Nat)} {ts lv : List Nat} {Q : Exit → Act → World → Prop}
def toks (n t : Nat) : List Nat := (List.range t).map (n + ·)
theorem mem_toks {n t i : Nat} : i ∈ toks n t ↔ n ≤ i ∧ i < n + t := by
  simp only [toks, List.mem_map, List.mem_range]
  constructor
  · rintro ⟨j, hj, rfl⟩; omega
  · intro h; exact ⟨i - n, by omega, by omega⟩
theorem nodup_toks (n t : Nat) : (toks n t).Nodup := by
  refine List.nodup_iff_pairwise_ne.2 (List.Pairwise.map _ (fun a b (h : a ≠ b) => ?_) (List.nodup_iff_pairwise_ne.1 List.nodup_range))
  omega
structure Inv (N n t : Nat) (l : List Oper) (V : Env) (w0 : World) (L0 L : List Res) (need abl : List (List Nat)) (B : Sps) (listed : Array Bool) (acc : List Nat) (vs : Nat → Gh) (a : Act) (w : World) : Prop where
  size : listed.size = l.length
  clo : ∀ j oj, l[j]? = some oj → listed.getD j false = true → ∀ e ∈ oj.after, Region.binds .any e = true → listed.getD e.on false = true
  calm : ∀ j, n ≤ j → listed.getD j false = false
  mem : ∀ i, listed.getD i false = true ↔ i ∈ acc
  nodup : acc.Nodup
  tmps : a.tmps.size = N
  defers : a.defers = []
  val : ∀ i ∈ acc, ∀ d, dstOf l i = some d → a.eval (.tmp d) = (lkS B i).val (rs (befOf need i) vs) (vs i)
  pv : ∀ i ∈ acc, (lkS B i).P (rs (befOf need i) vs) (vs i)
  env : ∀ e ∈ V, a.eval (.tmp e.1) = e.2
  tr : Tr w0 L0 w (((acc ++ toks n t).filter (alive (befOf abl) acc)).map (fun i => (lkS B i).R (rs (befOf need i) vs) (vs i)) ++ L)
theorem Inv.lt {B : Sps} {listed : Array Bool} {acc : List Nat} {vs : Nat → Gh} {a : Act} {w : World} (hI : Inv N n t l V w0 L0 L need abl B listed acc vs a w) : ∀ i ∈ acc, i < n := fun i hi => by
  rcases Nat.lt_or_ge i n with h | h
  · exact h
  · have := hI.calm i h; rw [(hI.mem i).2 hi] at this; cases this
theorem Inv.before {B : Sps} {listed : Array Bool} {acc : List Nat} {vs : Nat → Gh} {a : Act} {w : World} (hO : Ok l n N bef need ts) (hI : Inv N n t l V w0 L0 L need abl B listed acc vs a w) :
    ∀ k, k < n → (∀ o, l[k]? = some o → ∀ e ∈ o.after, Region.binds .any e = true → listed.getD e.on false = true) → ∀ i ∈ befOf bef k, listed.getD i false = true := by
  intro k
  induction k using Nat.strongRecOn with
  | _ k ih =>
    intro hk hall i hi
    have hdir : ∀ j, direct l k j = true → listed.getD j false = true := fun j hj => by
      obtain ⟨o, ho, e, he, hb, heq⟩ := direct_spec hj
      rw [← heq]; exact hall o ho e he hb
    rcases hO.clo k hk i hi with h1 | ⟨j, hj, h1, h2⟩
    · exact hdir i h1
    · exact ih j hj (by omega) (fun o ho e he hb => hI.clo j o ho (hdir j h1) e he hb) i h2
theorem Inv.closed {B : Sps} {listed : Array Bool} {acc : List Nat} {vs : Nat → Gh} {a : Act} {w : World} (hO : Ok l n N bef need ts) (hI : Inv N n t l V w0 L0 L need abl B listed acc vs a w) : ∀ j ∈ acc, ∀ i ∈ befOf bef j, i ∈ acc := fun j hj i hi =>
  (hI.mem i).1 (hI.before hO j (hI.lt j hj) (fun o ho e he hb => hI.clo j o ho ((hI.mem j).2 hj) e he hb) i hi)
theorem Inv.eqs {B : Sps} {listed : Array Bool} {acc : List Nat} {vs : Nat → Gh} {a : Act} {w : World} (hI : Inv N n t l V w0 L0 L need abl B listed acc vs a w) {b : List Nat} (hb : ∀ i ∈ b, i ∈ acc) : Eqs N a (envB l B (befOf need) vs b V) := by
  refine ⟨hI.tmps, hI.defers, eqs_entries hI.tmps hI.defers ?_⟩
  induction b with
  | nil => exact hI.env
  | cons i is ih =>
    have ih' := ih fun j hj => hb j (List.mem_cons_of_mem _ hj)
    rw [envB_cons]
    split
    · rename_i d hd
      intro e he
      rcases List.mem_cons.1 he with h1 | h1
      · subst h1
        show a.eval (.tmp d) = _
        rw [hI.val i (hb i List.mem_cons_self) d hd]
      · exact ih' e h1
    · exact ih'
theorem Inv.facts {B : Sps} {listed : Array Bool} {acc : List Nat} {vs : Nat → Gh} {a : Act} {w : World} (hI : Inv N n t l V w0 L0 L need abl B listed acc vs a w) : ∀ {b : List Nat}, (∀ i ∈ b, i ∈ acc) → Facts B (befOf need) vs b
  | [], _ => trivial
  | i :: is, hb => by
    have h1 := hI.pv i (hb i List.mem_cons_self)
    have h2 := hI.facts fun j hj => hb j (List.mem_cons_of_mem _ hj)
    cases h : lkS B i with
    | det x => simp only [Facts, h]; exact h2
    | own q p r => simp only [Facts, h]; rw [h] at h1; exact ⟨h1, h2⟩
theorem Inv.res {B : Sps} {listed : Array Bool} {acc : List Nat} {vs : Nat → Gh} {a : Act} {w : World} (hI : Inv N n t l V w0 L0 L need abl B listed acc vs a w) {b : List Nat} (hn : b.Nodup) (hb : ∀ i ∈ b, i ∈ acc ++ toks n t ∧ alive (befOf abl) acc i = true) : Tr w0 L0 w (resB B (befOf need) vs b L) := by
  rw [resB_eq]
  exact hI.tr.sub (sub_map (hn.filter _) fun i hi => List.mem_filter.2 (hb i (List.mem_filter.1 hi).1))
/-- What an operation that may come up uses is there. -/
theorem Inv.used {B : Sps} {listed : Array Bool} {acc : List Nat} {vs : Nat → Gh} {a : Act} {w : World} {k : Nat} (hO : Ok l n N bef need ts) (hA : OkA n t bef need use abl lv) (hI : Inv N n t l V w0 L0 L need abl B listed acc vs a w) (hk : k < n) (hun : k ∉ acc)
    (hbef : ∀ i ∈ befOf bef k, i ∈ acc) : ∀ i ∈ befOf use k, i ∈ acc ++ toks n t ∧ alive (befOf abl) acc i = true := fun i hi =>
  ⟨(hA.usub k hk i hi).elim (fun h => List.mem_append_left _ (hbef i (hO.nsub k hk i h))) (fun h => List.mem_append_right _ (mem_toks.2 h)), alive_iff.2 fun j hj hm => hun (hI.closed hO j hj k (hA.early k hk i hi j (hI.lt j hj) (fun e => hun (e ▸ hj)) hm))⟩
theorem Inv.step {B : Sps} {listed : Array Bool} {acc : List Nat} {vs : Nat → Gh} {a : Act} {w w' : World} {k : Nat} {o : Oper} {v : Gh} (hO : Ok l n N bef need ts) (hA : OkA n t bef need use abl lv) (hV : ∀ e ∈ V, e.1 ∈ ts) (hI : Inv N n t l V w0 L0 L need abl B listed acc vs a w)
    (ho : l[k]? = some o) (hk : k < n) (hr : k ∈ Region.ready .any l.toArray listed) (hv : (lkS B k).P (rs (befOf need k) vs) v) (ht : Tr w (resB B (befOf need) vs (befOf abl k) []) w' [(lkS B k).R (rs (befOf need k) vs) v]) :
    Inv N n t l V w0 L0 L need abl B (listed.setIfInBounds k true) (k :: acc) (fun i => if i = k then v else vs i) (a.put o.dst ((lkS B k).val (rs (befOf need k) vs) v)) w' := by
  obtain ⟨hun, o', ho', hall⟩ := mem_ready.1 hr
  have : o' = o := by rw [List.getElem?_toArray] at ho'; exact Option.some.inj (ho'.symm.trans ho)
  subst this
  have hun' := getD_false_of_true hun
  have hkacc : k ∉ acc := fun h => by rw [(hI.mem k).2 h] at hun'; cases hun'
  have hkl : k < listed.size := by rw [hI.size]; exact (List.getElem?_eq_some_iff.1 ho).1
  have hbef : ∀ i ∈ befOf bef k, i ∈ acc := fun i hi => (hI.mem i).1 (hI.before hO k hk (fun o'' ho'' e he hb => by
    have : o'' = o' := Option.some.inj (ho''.symm.trans ho)
    subst this; exact hall e he hb) i hi)
  have hvs : ∀ i ∈ acc, (if i = k then v else vs i) = vs i := fun i hi => if_neg fun (e : i = k) => hkacc (e ▸ hi)
  have hrs : ∀ b, (∀ i ∈ b, i ∈ acc) → rs b (fun i => if i = k then v else vs i) = rs b vs := fun b hb => rs_congr fun i hi => hvs i (hb i hi)
  have hneed : ∀ i ∈ acc, ∀ j ∈ befOf need i, j ∈ acc := fun i hi j hj => hI.closed hO i hi j (hO.nsub i (hI.lt i hi) j hj)
  have hrk : rs (befOf need k) (fun i => if i = k then v else vs i) = rs (befOf need k) vs := hrs _ fun i hi => hbef i (hO.nsub k hk i hi)
  have hdst : ∀ i, i ∈ acc → ∀ d, dstOf l i = some d → o'.dst ≠ some d := by
    intro i hi d hd he
    have hin : i < n := hI.lt i hi
    have hkd : dstOf l k = some d := by simp [dstOf, ho, he]
    rcases Nat.lt_trichotomy i k with h | h | h
    · exact hO.dsts k i d hk h hkd hd
    · subst h; exact hkacc hi
    · exact hO.dsts i k d hin h hd hkd
  have hput : ∀ d, o'.dst ≠ some d → (a.put o'.dst ((lkS B k).val (rs (befOf need k) vs) v)).eval (.tmp d) = a.eval (.tmp d) := by
    intro d hd
    cases hdd : o'.dst with
    | none => rfl
    | some d' => rw [eval_put, if_neg (fun e => hd (by rw [hdd, e]))]
  refine ⟨by simp [hI.size], ?_, ?_, ?_, List.nodup_cons.2 ⟨hkacc, hI.nodup⟩, ?_, ?_, ?_, ?_, ?_, ?_⟩
  · intro j oj hj hl e he hb
    by_cases hkj : k = j
    · subst hkj
      have : oj = o' := Option.some.inj (hj.symm.trans ho)
      subst this
      exact getD_set_true (hall e he hb)
    · rw [getD_set_ne false hkj] at hl
      exact getD_set_true (hI.clo j oj hj hl e he hb)
  · intro j hj
    rw [getD_set_ne false (by omega)]
    exact hI.calm j hj
  · intro i
    by_cases hki : k = i
    · subst hki; simp [hkl]
    · rw [getD_set_ne false hki, hI.mem i, List.mem_cons]
      exact ⟨.inr, fun h => h.resolve_left (Ne.symm hki)⟩
  · cases hd : o'.dst <;> simp [Act.put, hI.tmps]
  · cases hd : o'.dst <;> simp [Act.put, hI.defers]
  · intro i hi d hd
    rcases List.mem_cons.1 hi with h | h
    · subst h
      have hod : o'.dst = some d := by simpa [dstOf, ho] using hd
      rw [hod, eval_put, if_pos rfl, if_pos (by rw [hI.tmps]; exact hO.dstN i d hk hd), hrk, if_pos rfl]
    · rw [hput d (hdst i h d hd), hI.val i h d hd, hvs i h, hrs _ (hneed i h)]
  · intro i hi
    rcases List.mem_cons.1 hi with h | h
    · subst h; rw [hrk]; simpa using hv
    · rw [hvs i h, hrs _ (hneed i h)]; exact hI.pv i h
  · intro e he
    rw [hput e.1 fun hd => hO.dstT k e.1 hk (by simp [dstOf, ho, hd]) (hV e he)]
    exact hI.env e he
  · have hnk : ∀ j, j < n → k ∈ befOf use j → k ∈ befOf bef j := fun j hj hm => (hA.usub j hj k hm).elim (hO.nsub j hj k) (fun h => absurd h.1 (by omega))
    have hkal : alive (befOf abl) (k :: acc) k = true := alive_iff.2 fun j hj hm => by
      rcases List.mem_cons.1 hj with rfl | hj
      · have := hO.lt j hk j (hnk j hk (hA.asub j hk j hm)); omega
      · exact hkacc (hI.closed hO j hj k (hnk j (hI.lt j hj) (hA.asub j (hI.lt j hj) k hm)))
    have hvt : ∀ i ∈ acc ++ toks n t, (lkS B i).R (rs (befOf need i) (fun i => if i = k then v else vs i)) (if i = k then v else vs i) = (lkS B i).R (rs (befOf need i) vs) (vs i) := fun i hi => by
      rcases List.mem_append.1 hi with hi | hi
      · rw [hvs i hi, hrs _ (hneed i hi)]
      · have h1 := (mem_toks.1 hi).1
        have h2 : befOf need i = [] := by
          unfold befOf
          rw [List.getElem?_eq_none (by rw [hO.len]; exact h1)]; rfl
        rw [if_neg (by omega), h2]; rfl
    have h1 : (((k :: acc) ++ toks n t).filter (alive (befOf abl) (k :: acc))).map (fun i => (lkS B i).R (rs (befOf need i) (fun i => if i = k then v else vs i)) (if i = k then v else vs i)) =
        [(lkS B k).R (rs (befOf need k) vs) v] ++ ((acc ++ toks n t).filter (alive (befOf abl) (k :: acc))).map (fun i => (lkS B i).R (rs (befOf need i) vs) (vs i)) := by
      rw [List.cons_append, List.filter_cons_of_pos hkal, List.map_cons, if_pos rfl, hrk]
      refine congrArg _ (List.map_congr_left fun i hi => ?_)
      exact hvt i (List.mem_filter.1 hi).1
    rw [h1, List.append_assoc]
    refine hI.tr.call ?_ ht
    rw [resB_eq, List.append_nil, ← List.append_assoc, ← List.map_append]
    have hndt : (acc ++ toks n t).Nodup := List.nodup_append.2 ⟨hI.nodup, nodup_toks n t, fun i hi j hj e => by
      subst e
      have h1 := hI.lt i hi
      have h2 := (mem_toks.1 hj).1
      omega⟩
    refine sub_map ?_ fun i hi => ?_
    · rw [List.nodup_append]
      refine ⟨(hA.anodup k hk).filter _, hndt.filter _, fun i hi j hj e => ?_⟩
      subst e
      have h2 := (List.mem_filter.1 hj).2
      exact alive_iff.1 h2 k List.mem_cons_self (List.mem_filter.1 hi).1
    · rcases List.mem_append.1 hi with h2 | h2
      · exact List.mem_filter.2 (hI.used hO hA hk hkacc hbef i (hA.asub k hk i (List.mem_filter.1 h2).1))
      · obtain ⟨h3, h4⟩ := List.mem_filter.1 h2
        exact List.mem_filter.2 ⟨h3, alive_iff.2 fun j hj => alive_iff.1 h4 j (List.mem_cons_of_mem _ hj)⟩
/-- An operation that comes up. -/
theorem Inv.run {B : Sps} {listed : Array Bool} {acc : List Nat} {vs : Nat → Gh} {a : Act} {w : World} {k : Nat} {o : Oper} {K : Act → World → Prop} (hO : Ok l n N bef need ts) (hA : OkA n t bef need use abl lv) (hV : ∀ e ∈ V, e.1 ∈ ts) (hI : Inv N n t l V w0 L0 L need abl B listed acc vs a w)
    (ho : l[k]? = some o) (hk : k < n) (hr : k ∈ Region.ready .any l.toArray listed) (hob : Ob P l V w0 L0 L (befOf need) (befOf use) (befOf abl) B o k (lkS B k))
    (hK : ∀ v w', (lkS B k).P (rs (befOf need k) vs) v → Tr w (resB B (befOf need) vs (befOf abl k) []) w' [(lkS B k).R (rs (befOf need k) vs) v] → K (a.put o.dst ((lkS B k).val (rs (befOf need k) vs) v)) w') : wpOp P l.toArray Q k K a w := by
  obtain ⟨hun, o', ho', hall⟩ := mem_ready.1 hr
  rw [List.getElem?_toArray] at ho'
  have : o' = o := Option.some.inj (ho'.symm.trans ho)
  subst this
  have hkacc : k ∉ acc := fun h => by have := getD_false_of_true hun; rw [(hI.mem k).2 h] at this; cases this
  have hbef0 : ∀ i ∈ befOf bef k, i ∈ acc := fun i hi => (hI.mem i).1 (hI.before hO k hk (fun o'' ho'' e he hb => by
    have : o'' = o' := Option.some.inj (ho''.symm.trans ho)
    subst this; exact hall e he hb) i hi)
  have hbef : ∀ i ∈ befOf need k, i ∈ acc := fun i hi => hbef0 i (hO.nsub k hk i hi)
  have hE := hI.eqs hbef
  have hT := hI.res (hA.unodup k hk) (hI.used hO hA hk hkacc hbef0)
  have hF := hI.facts hbef
  have h1 := hob vs hF
  have hw : ∀ b, gstate l B (befOf need) vs (befOf need k) o' = some b → Region.wanted o' (yielded l.toArray a.tmps) = b := by
    intro b hb
    unfold gstate at hb
    cases hg : o'.guard with
    | none => simp only [hg] at hb; simp [Region.wanted, hg, ← Option.some.inj hb]
    | some jg =>
      obtain ⟨j, g⟩ := jg
      simp only [hg] at hb
      by_cases hc : ((befOf need k).contains j && (dstOf l j).isSome) = true
      · rw [hc] at hb
        simp only [Bool.and_eq_true] at hc
        have hjm : j ∈ befOf need k := by simpa using hc.1
        obtain ⟨t, ht⟩ := Option.isSome_iff_exists.1 hc.2
        have hval := hI.val j (hbef j hjm) t ht
        have htN : t < a.tmps.size := by rw [hI.tmps]; exact hO.dstN j t (by have := hO.lt k hk j (hO.nsub k hk j hjm); omega) ht
        simp only [Act.eval, Array.getD_eq_getD_getElem?, Array.getElem?_eq_getElem htN, Option.getD_some] at hval
        simp only [cond_true] at hb
        have hy : yielded l.toArray a.tmps j = (match (lkS B j).val (rs (befOf need j) vs) (vs j) with | .bool x => some x | _ => none) := by
          simp only [dstOf] at ht
          simp only [yielded, List.getElem?_toArray, ht, Option.bind_some, Array.getElem?_eq_getElem htN, hval]
          cases (lkS B j).val (rs (befOf need j) vs) (vs j) <;> rfl
        cases hvj : (lkS B j).val (rs (befOf need j) vs) (vs j) with
        | bool x =>
          simp only [hvj, Option.some.injEq] at hb hy
          simp [Region.wanted, hg, hy, ← hb]
        | tuple x =>
          simp only [hvj, Option.some.injEq] at hb hy
          simp [Region.wanted, hg, hy, ← hb]
        | _ => simp [hvj] at hb
      · have hc' : ((befOf need k).contains j && (dstOf l j).isSome) = false := by simpa using hc
        rw [hc'] at hb; simp at hb
  unfold wpOp
  simp only [List.getElem?_toArray, ho]
  cases hgs : gstate l B (befOf need) vs (befOf need k) o' with
  | none => rw [hgs] at h1; exact h1.elim
  | some b =>
    rw [hgs] at h1
    rw [hw b hgs]
    cases b with
    | true =>
      simp only [if_true]
      obtain ⟨dst, op, ty, pos, after, guard⟩ := o'
      exact .inl (wp_of_mov (h1 a.eval w dst pos after guard hE.op hT) hK)
    | false =>
      simp only [Bool.false_eq_true, if_false]
      obtain ⟨h2, h3⟩ : lkS B k = .det undef ∧ befOf abl k = [] := h1
      have h4 := hK gh0 w (by rw [h2]; trivial) (by rw [h2, h3]; exact Tr.refl_emp w)
      rw [h2] at h4
      exact h4
theorem Inv.any {B : Sps} (hO : Ok l n N bef need ts) (hA : OkA n t bef need use abl lv) (hV : ∀ e ∈ V, e.1 ∈ ts) (hob : ∀ k o, k < n → l[k]? = some o → Ob P l V w0 L0 L (befOf need) (befOf use) (befOf abl) B o k (lkS B k))
    (hfin : ∀ vs, Facts B (befOf need) vs (List.range n) → GL P l.toArray Q (l.drop n) N (envB l B (befOf need) vs (List.range n) V) w0 L0 (resB B (befOf need) vs lv L)) :
    ∀ (m : Nat) (listed : Array Bool) (acc : List Nat) (vs : Nat → Gh) (a : Act) (w : World) (fuel : Nat), (List.range n).countP (fun i => !listed.getD i false) = m → m + (l.length - n) ≤ fuel →
      Inv N n t l V w0 L0 L need abl B listed acc vs a w → wpAny P .any l.toArray Q fuel listed a w := by
  intro m
  induction m with
  | zero =>
    intro listed acc vs a w fuel hc hf hI
    have hall : ∀ i, i < n → listed.getD i false = true := fun i hi => by
      have := List.countP_eq_zero.1 hc i (List.mem_range.2 hi)
      simpa using this
    have hacc : ∀ i ∈ List.range n, i ∈ acc := fun i hi => (hI.mem i).1 (hall i (List.mem_range.1 hi))
    refine tail_run hO (l.length - n) n rfl (Nat.le_refl _) hO.le fuel listed a w (by omega) hI.size (fun i => ⟨fun h => ?_, hall i⟩) ?_
    · rcases Nat.lt_or_ge i n with h1 | h1
      · exact h1
      · rw [hI.calm i h1] at h; cases h
    · exact hfin vs (hI.facts hacc) a w (hI.eqs hacc) (hI.res hA.lnodup fun i hi => ⟨by
        rcases Nat.lt_or_ge i n with h1 | h1
        · exact List.mem_append_left _ (hacc i (List.mem_range.2 h1))
        · exact List.mem_append_right _ (mem_toks.2 ⟨h1, hA.llt i hi⟩), alive_iff.2 fun j hj => hA.live i hi j (hI.lt j hj)⟩)
  | succ m ih =>
    intro listed acc vs a w fuel hc hf hI
    obtain ⟨f, rfl⟩ : ∃ f, fuel = f + 1 := ⟨fuel - 1, by omega⟩
    obtain ⟨j, hjn, hju⟩ : ∃ j, j < n ∧ listed.getD j false = false := by
      have : 0 < (List.range n).countP (fun i => !listed.getD i false) := by omega
      obtain ⟨j, hj, hj2⟩ := List.countP_pos_iff.1 this
      exact ⟨j, List.mem_range.1 hj, by simpa using hj2⟩
    have hlen := hO.le
    have hleast : ∀ j, j < n → listed.getD j false = false → ∃ k, k ∈ Region.ready .any l.toArray listed := by
      intro j
      induction j using Nat.strongRecOn with
      | _ j ihj =>
        intro hj hu
        by_cases h : ∃ i, i < j ∧ listed.getD i false = false
        · obtain ⟨i, hi, hiu⟩ := h; exact ihj i hi (by omega) hiu
        · refine ⟨j, mem_ready.2 ⟨getD_false_of_lt (by rw [hI.size]; omega) hu, l[j]'(by omega), by simp, fun e he hb => ?_⟩⟩
          have := hO.back j _ (List.getElem?_eq_getElem (by omega)) e he hb
          cases hc : listed.getD e.on false with
          | true => rfl
          | false => exact absurd ⟨e.on, this, hc⟩ h
    obtain ⟨k0, hk0⟩ := hleast j hjn hju
    refine ⟨fun h0 => by rw [h0] at hk0; (exact absurd hk0 (by simp)), fun i hi => ?_⟩
    obtain ⟨h0, o, ho, hall⟩ := mem_ready.1 hi
    have ho' : l[i]? = some o := by simpa using ho
    have hil := (List.getElem?_eq_some_iff.1 ho').1
    have hin : i < n := by
      rcases Nat.lt_or_ge i n with h1 | h1
      · exact h1
      · exfalso
        have hdir : ∀ j, direct l i j = true → listed.getD j false = true := fun j hj => by
          obtain ⟨o', ho', e, he, hb, heq⟩ := direct_spec hj
          have : o' = o := Option.some.inj (ho'.symm.trans ‹l[i]? = some o›)
          subst this
          rw [← heq]; exact hall e he hb
        rcases hO.tail i h1 hil j (by omega) with h2 | ⟨q, hq, h2, h3, h4⟩
        · rw [hdir j h2] at hju; cases hju
        · have hql := hdir q h2
          have hqn : q < n := by
            rcases Nat.lt_or_ge q n with h | h
            · exact h
            · rw [hI.calm q h] at hql; cases hql
          have hqo : l[q]? = some (l[q]'(by omega)) := List.getElem?_eq_getElem (by omega)
          rcases h4 with h4 | h4 | h4
          · obtain ⟨o', ho', e, he, hb, heq⟩ := direct_spec h4
            have := hI.clo q o' ho' hql e he hb
            rw [heq, hju] at this; cases this
          · have := hI.before hO q hqn (fun o' ho' e he hb => hI.clo q o' ho' hql e he hb) j h4
            rw [hju] at this; cases this
          · omega
    refine hI.run hO hA hV ho' hin hi (hob i o hin ho') fun v w' hv ht => ?_
    have hiu := getD_false_of_true h0
    refine ih (listed.setIfInBounds i true) (i :: acc) (fun q => if q = i then v else vs q) _ w' f ?_ (by omega) (hI.step hO hA hV ho' hin hi hv ht)
    have h1 := countP_set (k := i) (f := fun q => !listed.getD q false) (g := fun q => !(listed.setIfInBounds i true).getD q false) (by simp [hiu]) (by simp [hI.size, hil])
      (fun q hq => by simp only [getD_set_ne false (Ne.symm hq)]) (l := List.range n) List.nodup_range (List.mem_range.2 hin)
    omega
/-- What is there from the start, and may be taken over. -/
def tokA : Nat → List Res → Sps
  | _, [] => []
  | n, r :: T => (n, .own (fun _ _ => undef) (fun _ _ => True) (fun _ _ => r)) :: tokA (n + 1) T
theorem tokA_lt : ∀ (T : List Res) (n i : Nat), i < n → lkS (tokA n T) i = .det undef
  | [], _, _, _ => rfl
  | r :: T, n, i, h => by
    have : Nat.beq n i = false := by
      cases hbe : Nat.beq n i with
      | false => rfl
      | true => have := Nat.eq_of_beq_eq_true hbe; omega
    simp only [tokA, lkS, this, cond_false]
    exact tokA_lt T (n + 1) i (by omega)
theorem tokA_get {r : Res} : ∀ (T : List Res) (n i : Nat) (x : Nat → Gh) (y : Gh), T[i]? = some r → (lkS (tokA n T) (n + i)).R x y = r
  | [], _, _, _, _, h => by simp at h
  | s :: T, n, 0, x, y, h => by
    simp at h
    subst h
    have : Nat.beq n (n + 0) = true := by simp
    simp only [tokA, lkS, this, cond_true]
    rfl
  | s :: T, n, i + 1, x, y, h => by
    have : Nat.beq n (n + (i + 1)) = false := by
      cases hbe : Nat.beq n (n + (i + 1)) with
      | false => rfl
      | true => have := Nat.eq_of_beq_eq_true hbe; omega
    simp only [tokA, lkS, this, cond_false]
    have h2 := tokA_get T (n + 1) i x y (by simpa using h)
    rw [show n + (i + 1) = n + 1 + i by omega]
    exact h2
theorem tok_map (T : List Res) (n : Nat) (B : Sps) (h : ∀ i, n ≤ i → lkS (tokA n T) i = lkS B i) (f : Nat → Nat → Gh) (g : Nat → Gh) : (toks n T.length).map (fun i => (lkS B i).R (f i) (g i)) = T := by
  apply List.ext_getElem?
  intro j
  unfold toks
  rw [List.map_map, List.getElem?_map]
  rcases Nat.lt_or_ge j T.length with hj | hj
  · rw [List.getElem?_range hj]
    simp only [Option.map_some, Function.comp]
    rw [← h (n + j) (by omega), tokA_get T n j _ _ (List.getElem?_eq_getElem hj), List.getElem?_eq_getElem hj]
  · rw [List.getElem?_eq_none (by simpa using hj), List.getElem?_eq_none hj]; rfl
theorem GC.drawn {id : Nat} (n : Nat) (T F : List Res) (bef need use abl : List (List Nat)) (lv ts : List Nat) (hm : P.follows .mixedOrders = true) (hB : okB l n N bef need ts = true) (hA : okA n T.length bef need use abl lv = true) (hk : K.keep U ts = some V) (hs : Sub (T ++ F) L)
    (h : DW P l V w0 L0 F (befOf need) (befOf use) (befOf abl) (fun B => ∀ vs, Facts B (befOf need) vs (List.range n) → GL P l.toArray Q (l.drop n) N (envB l B (befOf need) vs (List.range n) V) w0 L0 (resB B (befOf need) vs lv F)) (tokA n T) 0 l n) :
    GC P (.region id l.toArray true) Q N U w0 L0 L := by
  intro a w hE hT
  have hO := ok_of_B hB
  have hA := okA_spec hA
  have hnl : ∀ j, j < 0 + n → ∀ i ∈ befOf use j, i < j ∨ n ≤ i := fun j hj i hi => (hA.usub j (by omega) i hi).elim (fun h => .inl (hO.lt j (by omega) i (hO.nsub j (by omega) i h))) (fun h => .inr h.1)
  obtain ⟨B, hLk, hfin, hlen, hob⟩ := h.all (n := n) (by omega) (fun j hj i hi => .inl (hO.lt j (by omega) i (hO.nsub j (by omega) i hi))) hnl (fun j hj i hi => hnl j hj i (hA.asub j (by omega) i hi))
  have hke := keep_entries hk
  refine wp_region_any hm ?_
  refine Inv.any (t := T.length) hO hA (fun e he => (hke e he).2) (fun k o hk ho => ?_) hfin _ (Array.replicate l.length false) [] (fun _ => gh0) a _ _ rfl ?_ ?_
  · have := hob k o hk ho
    simpa using this
  · have h1 : (List.range n).countP (fun i => !(Array.replicate l.length false).getD i false) ≤ n := by
      have := List.countP_le_length (p := fun i => !(Array.replicate l.length false).getD i false) (l := List.range n)
      simpa using this
    have := hO.le
    simp only [List.size_toArray]
    omega
  · refine ⟨by simp, fun j oj hj hl => ?_, fun j hj => getD_rep _ _, fun i => ?_, List.nodup_nil, hE.size, hE.defers, fun i hi => by simp at hi, fun i hi => by simp at hi, fun e he => hE.eq _ _ (hke e he).1, ?_⟩
    · rw [getD_rep] at hl; cases hl
    · rw [getD_rep]; simp
    · have h1 : (toks n T.length).filter (alive (befOf abl) []) = toks n T.length := List.filter_eq_self.2 fun i _ => by simp [alive]
      rw [List.nil_append, h1, tok_map T n B (fun i hi => hLk i (.inr hi))]
      exact (hT.sub hs).drew
end
end Go.K.D

namespace Go.K.D
open Go Go.K
set_option linter.unusedVariables false
section
variable {P : Program} {l : List Oper} {V U : Env} {w0 : World} {L0 L : List Res} {nd us ab : Nat → List Nat} {Fin : Sps → Prop} {A : Sps} {k m : Nat} {op : Op} {ty : TypeId} {pos : String} {after : Array Edge} {os : List Oper} {b u a : List Nat}
theorem DW.ev {d : Option Tmp} (hb : nd k = b) (hu : us k = u) (ha : ab k = a) (val : (Nat → Gh) → Gh → Value) (Pv : (Nat → Gh) → Gh → Prop) (R : (Nat → Gh) → Gh → Res)
    (h : ∀ vs, Facts A nd vs b → EvM P (envB l A nd vs b V) w0 L0 (resB A nd vs u L) (resB A nd vs a []) op ty (val (rs b vs)) (Pv (rs b vs)) (R (rs b vs)))
    (hr : DW P l V w0 L0 L nd us ab Fin ((k, .own val Pv R) :: A) (k + 1) os m) : DW P l V w0 L0 L nd us ab Fin A k (⟨d, op, ty, pos, after, none⟩ :: os) (m + 1) := by
  subst hb hu ha
  exact .step (.own val Pv R) (fun vs hf => h vs hf) hr
theorem DW.ev0 {d : Option Tmp} {val : Gh → Value} {Pv : Gh → Prop} {R : Gh → Res} (hb : nd k = b) (hu : us k = u) (ha : ab k = a)
    (h : ∀ vs, Facts A nd vs b → EvM P (envB l A nd vs b V) w0 L0 (resB A nd vs u L) (resB A nd vs a []) op ty val Pv R)
    (hr : DW P l V w0 L0 L nd us ab Fin ((k, .own (fun _ => val) (fun _ => Pv) (fun _ => R)) :: A) (k + 1) os m) : DW P l V w0 L0 L nd us ab Fin A k (⟨d, op, ty, pos, after, none⟩ :: os) (m + 1) :=
  DW.ev hb hu ha (fun _ => val) (fun _ => Pv) (fun _ => R) h hr
theorem DW.det {d : Option Tmp} {x : Value} (hb : nd k = b) (hu : us k = u) (ha : ab k = []) (h : ∀ vs, Facts A nd vs b → Ev P (envB l A nd vs b V) w0 L0 (resB A nd vs u L) op ty (Is x) No)
    (hr : DW P l V w0 L0 L nd us ab Fin ((k, .det x) :: A) (k + 1) os m) : DW P l V w0 L0 L nd us ab Fin A k (⟨d, op, ty, pos, after, none⟩ :: os) (m + 1) := by
  subst hb hu
  refine .step (.det x) (fun vs hf => ?_) hr
  show EvM P _ w0 L0 _ (resB A nd vs (ab k) []) op ty (fun _ => x) (fun _ => True) (fun _ => emp)
  rw [ha]
  exact EvM.of (h vs hf)
/-- What is moved, of what an earlier operation owns. -/
theorem DW.mv {d : Option Tmp} {val : (Nat → Gh) → Value} (hb : nd k = b) (hu : us k = u) (ha : ab k = []) (h : ∀ vs, Facts A nd vs b → Ev P (envB l A nd vs b V) w0 L0 (resB A nd vs u L) op ty (Is (val (rs b vs))) No)
    (hr : DW P l V w0 L0 L nd us ab Fin ((k, .own (fun vs _ => val vs) (fun _ _ => True) (fun _ _ => emp)) :: A) (k + 1) os m) : DW P l V w0 L0 L nd us ab Fin A k (⟨d, op, ty, pos, after, none⟩ :: os) (m + 1) := by
  subst hb hu
  refine .step (.own (fun vs _ => val vs) (fun _ _ => True) (fun _ _ => emp)) (fun vs hf => ?_) hr
  show EvM P _ w0 L0 _ (resB A nd vs (ab k) []) op ty (fun _ => val (rs (nd k) vs)) (fun _ => True) (fun _ => emp)
  rw [ha]
  exact EvM.of (h vs hf)
theorem DW.want {d : Option Tmp} {g : Nat × Bool} (hb : nd k = b) (hg : ∀ vs, gstate l A nd vs b ⟨d, op, ty, pos, after, some g⟩ = some true)
    (hr : DW P l V w0 L0 L nd us ab Fin A k (⟨d, op, ty, pos, after, none⟩ :: os) m) : DW P l V w0 L0 L nd us ab Fin A k (⟨d, op, ty, pos, after, some g⟩ :: os) m := by
  subst hb
  cases hr with
  | step s h hr => exact .step s (fun vs hf => by rw [hg vs]; exact h vs hf) hr
  | fin h => exact .fin h
theorem DW.skip {d : Option Tmp} {g : Nat × Bool} (hb : nd k = b) (ha : ab k = []) (hg : ∀ vs, gstate l A nd vs b ⟨d, op, ty, pos, after, some g⟩ = some false)
    (hr : DW P l V w0 L0 L nd us ab Fin ((k, .det undef) :: A) (k + 1) os m) : DW P l V w0 L0 L nd us ab Fin A k (⟨d, op, ty, pos, after, some g⟩ :: os) (m + 1) := by
  subst hb
  exact .step (.det undef) (fun vs hf => by rw [hg vs]; exact ⟨rfl, ha⟩) hr
end
section
variable {P : Program} {ops : Array Oper} {Q : Exit → Act → World → Prop} {N : Nat} {U : Env} {w0 : World} {L0 L F lab : List Res} {ty : TypeId} {rest : List Oper} {pos : String} {after : Array Edge} {α : Type} {e : Enc α} {l m : List α} {a : Option Addr} {T E : TypeId} {x y : Operand}
theorem GL.evG {d : Tmp} {o : Op} {val : Gh → Value} {Pv : Gh → Prop} {R : Gh → Res} (h : EvM P U w0 L0 L lab o ty val Pv R) (hs : Sub (lab ++ F) L) (hd : Nat.ble (d + 1) N = true) (hr : ∀ g, Pv g → GL P ops Q rest N ((d, val g) :: U) w0 L0 (R g :: F)) :
    GL P ops Q (⟨some d, o, ty, pos, after, Option.none⟩ :: rest) N U w0 L0 L := by
  intro a w hE hT
  refine wpList_plain rfl fun K hK => ?_
  refine wp_of_mov (h a.eval w (some d) pos after Option.none hE.op hT) fun g w' hv ht => hK _ _ ?_
  exact hr g hv _ _ (hE.put (Nat.le_of_ble_eq_true hd) (val g)) ((hT.sub hs).call (Sub.refl _) ht)
/-- A call that takes over some of what there is. -/
theorem em_call {f : FuncId} {xs : List Operand} {vs : List Value} {tys : Array TypeId} {val : Gh → Value} {Pv : Gh → Prop} {R : Gh → Res} (hf : ∀ args w, (callFunc f args).run P w = .ok (.enter f args) w) (hx : opvs U xs = some vs)
    (h : ∀ w, Tr w0 L0 w L → Calls P f vs.toArray w fun e w' => ∃ g, e = .returned (val g) ∧ Pv g ∧ Tr w lab w' [R g]) : EvM P U w0 L0 L lab (.call ⟨.value (.func f), xs.toArray, tys⟩) ty val Pv R := by
  intro ρ w dst pos after guard hρ hT
  have h1 := run_call (P := P) (ρ := ρ) (w := w) (f := f) (xs := xs) (vs := vs) (tys := tys) (dst := dst) (guard := guard) (ty := ty) (pos := pos) (after := after) hf (opvs_spec hρ hx) (hρ _ _ rfl)
  rw [h1]
  exact ⟨rfl, h w hT⟩
theorem em_append {z : List Value} {bytes c c2 n2 n : Nat} {a2 : Option Addr} (hm : mkOf P T = some (E, z, bytes)) (hx : opv U x = some (.slice a n c)) [hp : InT L a c E e l] (hn : n = l.length) (hk : e.k = z.length) (hy : opv U y = some (.slice a2 n2 c2)) [h2 : Rd w0 L0 L a2 e m] (hn2 : n2 = m.length)
    (hb : (l.length + m.length) * bytes ≤ 140737488355328) (h63 : l.length + m.length ≤ 9223372036854775807) :
    EvM P U w0 L0 L [trow a c E e l] (.call ⟨.builtin .append, #[x, y], #[T, T]⟩) ty (fun g => .slice (g 0).1 (l ++ m).length (g 0).2) (fun _ => True) (fun g => trow (g 0).1 (g 0).2 E e (l ++ m)) := by
  intro ρ w dst pos after guard hρ hT
  have := K.em_append (P := P) (U := U) (w0 := w0) (L0 := L0) (L := L) (ty := ty) hm hx hn hk hy h2.sl (fun w hT => hT.ok _ hp.mem) hn2 hb h63 ρ w dst pos after guard hρ hT
  generalize (execOp ρ ⟨dst, _, ty, pos, after, guard⟩).run P w = r at *
  cases r with
  | ok n w' =>
    cases n <;> simp only [M.movUpon] at this
    case value v => obtain ⟨⟨a', c', rfl⟩, h⟩ := this; exact ⟨fun _ => (a', c'), rfl, trivial, h⟩
    case skip => obtain ⟨⟨a', c', h0⟩, h⟩ := this; rw [h0] at h; exact ⟨fun _ => (a', c'), h0, trivial, h⟩
    case enter f args => exact ⟨this.1, this.2.mono fun e w'' ⟨v, h1, ⟨a', c', h0⟩, h3⟩ => by subst h0; exact ⟨fun _ => (a', c'), h1, trivial, h3⟩⟩
  | halt x w' => exact this
theorem em_build {z : List Value} {bytes len : Nat} {parts : List (Nat × Operand)} {cs : List Value} (e : Enc α) (l : List α) (hm : mkOf P T = some (E, z, bytes)) (hl : Nat.ble (len * z.length) 16777216 = true)
    (hb : buildO U ((List.range len).map fun i => (i * z.length, z.length)) (zeros z len) parts = some cs) (he : cs = e.fl l) (hn : len = l.length) :
    EvM P U w0 L0 L [] (.buildSlice T len parts.toArray) ty (fun g => .slice (g 0).1 l.length (g 0).2) (fun _ => True) (fun g => trow (g 0).1 (g 0).2 E e l) := by
  subst hn he
  intro ρ w dst pos after guard hρ hT
  have := e_buildSlice (P := P) (U := U) (w0 := w0) (L0 := L0) (L := L) (ty := ty) hm hl hb ρ w dst pos after guard hρ hT
  have key : ∀ b w w', Tr w [] w' [cl b E (e.fl l)] → Tr w [] w' [trow (some ⟨b, 0, none⟩) l.length E e l] := fun b w w' h => h.cl_row (e.fl_length l)
  generalize (execOp ρ ⟨dst, _, ty, pos, after, guard⟩).run P w = r at *
  cases r with
  | ok n w' =>
    cases n <;> simp only [calmUpon] at this
    case value v => obtain ⟨⟨b, rfl⟩, h⟩ := this; exact ⟨fun _ => (some ⟨b, 0, none⟩, l.length), rfl, trivial, key b _ _ h⟩
    case skip => obtain ⟨⟨b, h0⟩, h⟩ := this; rw [h0] at h; exact ⟨fun _ => (some ⟨b, 0, none⟩, l.length), h0, trivial, key b _ _ h⟩
    case enter f args => exact ⟨this.1, this.2.mono fun e' w'' ⟨v, h1, ⟨b, h0⟩, h3⟩ => by subst h0; exact ⟨fun _ => (some ⟨b, 0, none⟩, l.length), h1, trivial, key b _ _ h3⟩⟩
  | halt x w' => exact this
/-- A part of a slice. -/
theorem em_part {op : Op} {lo hi c k : Nat} (h : Ev P U w0 L0 L op ty (Is (sliced a lo hi c k)) No) [hR : Rd w0 L0 L a e l] (hk : e.k = k) (h1 : lo ≤ hi) (h2 : hi ≤ l.length) (h3 : hi ≤ c) (hm : (l.take hi).drop lo = m) :
    EvM P U w0 L0 L [] op ty (fun g => .slice (g 0).1 m.length (c - lo)) (fun g => Part (g 0).1 a e l m ∧ m.length ≤ c - lo) (fun _ => emp) := by
  subst hk hm
  intro ρ w dst pos after guard hρ hT
  have := h ρ w dst pos after guard hρ hT
  have hl : ((l.take hi).drop lo).length = hi - lo := by rw [List.length_drop, List.length_take, Nat.min_eq_left h2]
  have hP := Part.of (a := a) (e := e) (l := l) h1 h2 h3
  have hv : sliced a lo hi c e.k = .slice (if c = lo then a else a.map (·.add (lo * e.k))) ((l.take hi).drop lo).length (c - lo) := by rw [hl]; rfl
  have hc : ((l.take hi).drop lo).length ≤ c - lo := by omega
  generalize (execOp ρ ⟨dst, op, ty, pos, after, guard⟩).run P w = r at *
  cases r with
  | ok n w' =>
    cases n <;> simp only [calmUpon] at this
    case value v => exact ⟨fun _ => (if c = lo then a else a.map (·.add (lo * e.k)), 0), this.1.trans hv, ⟨hP, hc⟩, this.2⟩
    case skip => exact ⟨fun _ => (if c = lo then a else a.map (·.add (lo * e.k)), 0), this.1.trans hv, ⟨hP, hc⟩, this.2⟩
    case enter f args => exact ⟨this.1, this.2.mono fun e' w'' ⟨v, h1, h0, h3⟩ => ⟨fun _ => (if c = lo then a else a.map (·.add (lo * e.k)), 0), by rw [h1]; exact congrArg _ (h0.trans hv), ⟨hP, hc⟩, h3⟩⟩
  | halt x w' => exact this
section
variable {z : Operand} {k n c : Nat} {ki kj km : IntKind}
theorem em_partL {j : Nat} (hf : slOf P T = some (E, k)) (hx : opv U x = some (.slice a n c)) (hy : opv U y = some (.int ki (j : Int))) [hR : Rd w0 L0 L a e l] (hk : e.k = k) (hn : n = l.length) (hj : j ≤ l.length) (hc : l.length ≤ c) :
    EvM P U w0 L0 L [] (.slice T x (some y) Option.none Option.none) ty (fun g => .slice (g 0).1 (l.drop j).length (c - j)) (fun g => Part (g 0).1 a e l (l.drop j) ∧ (l.drop j).length ≤ c - j) (fun _ => emp) := by
  subst hn
  exact em_part (e_slice_l hf hx hy (by omega) (by omega)) hk hj (Nat.le_refl _) hc (by rw [List.take_length])
theorem em_partH {j : Nat} (hf : slOf P T = some (E, k)) (hx : opv U x = some (.slice a n c)) (hy : opv U y = some (.int ki (j : Int))) [hR : Rd w0 L0 L a e l] (hk : e.k = k) (hn : n = l.length) (hj : j ≤ l.length) (hc : l.length ≤ c) :
    EvM P U w0 L0 L [] (.slice T x Option.none (some y) Option.none) ty (fun g => .slice (g 0).1 (l.take j).length c) (fun g => Part (g 0).1 a e l (l.take j) ∧ (l.take j).length ≤ c) (fun _ => emp) := by
  subst hn
  exact em_part (e_slice_h hf hx hy (by omega) (by omega)) hk (Nat.zero_le _) hj (by omega) rfl
theorem em_partLH {i j : Nat} (hf : slOf P T = some (E, k)) (hx : opv U x = some (.slice a n c)) (hy : opv U y = some (.int ki (i : Int))) (hz : opv U z = some (.int kj (j : Int))) [hR : Rd w0 L0 L a e l] (hk : e.k = k) (hn : n = l.length) (hi : i ≤ j) (hj : j ≤ l.length) (hc : l.length ≤ c) :
    EvM P U w0 L0 L [] (.slice T x (some y) (some z) Option.none) ty (fun g => .slice (g 0).1 ((l.take j).drop i).length (c - i)) (fun g => Part (g 0).1 a e l ((l.take j).drop i) ∧ ((l.take j).drop i).length ≤ c - i) (fun _ => emp) := by
  subst hn
  exact em_part (e_slice_lh hf hx hy hz (by omega) (by omega) (by omega)) hk hi hj (by omega) rfl
end
end
end Go.K.D
namespace Go.K.D
open Go Go.K
set_option linter.unusedVariables false
def tget : Value → Nat → Value
  | .tuple vs, i => vs[i]?.getD undef
  | _, _ => undef
section
variable {P : Program} {l : List Oper} {V U : Env} {w0 : World} {L0 L F : List Res} {nd us ab : Nat → List Nat} {Fin : Sps → Prop} {A : Sps} {k m : Nat} {op : Op} {ty : TypeId} {pos : String} {after : Array Edge} {os : List Oper} {b u a : List Nat}
/-- What is moved, or taken out, of what an earlier operation yields. -/
theorem DW.cp (f : Value → Value) (j : Nat) {d : Option Tmp} (hb : nd k = b) (hu : us k = u) (ha : ab k = []) (h : ∀ vs, Facts A nd vs b → Ev P (envB l A nd vs b V) w0 L0 (resB A nd vs u L) op ty (Is (f ((lkS A j).val (rs (nd j) (rs b vs)) (rs b vs j)))) No)
    (hr : DW P l V w0 L0 L nd us ab Fin ((k, .own (fun vs _ => f ((lkS A j).val (rs (nd j) vs) (vs j))) (fun _ _ => True) (fun _ _ => emp)) :: A) (k + 1) os m) : DW P l V w0 L0 L nd us ab Fin A k (⟨d, op, ty, pos, after, none⟩ :: os) (m + 1) :=
  DW.mv (val := fun vs => f ((lkS A j).val (rs (nd j) vs) (vs j))) hb hu ha h hr
end
section
variable {P : Program} {l : List Oper} {V U : Env} {w0 : World} {L0 L F F2 : List Res} {N : Nat} {Q : Exit → Act → World → Prop}
theorem GC.drawn0 {id : Nat} (n : Nat) (bef need use abl : List (List Nat)) (lv ts : List Nat) (hm : P.follows .mixedOrders = true) (hB : okB l n N bef need ts = true) (hA : okA n 0 bef need use abl lv = true) (hk : K.keep U ts = some V)
    (h : DW P l V w0 L0 L (befOf need) (befOf use) (befOf abl) (fun B => ∀ vs, Facts B (befOf need) vs (List.range n) → GL P l.toArray Q (l.drop n) N (envB l B (befOf need) vs (List.range n) V) w0 L0 (resB B (befOf need) vs lv L)) [] 0 l n) :
    GC P (.region id l.toArray true) Q N U w0 L0 L := GC.drawn n [] L bef need use abl lv ts hm hB hA hk (Sub.refl L) h
theorem GC.drawn1 {id : Nat} {a : Option Addr} {c k : Nat} {T : TypeId} {α : Type} {e : Enc α} {z : List α} (n : Nat) (bef need use abl : List (List Nat)) (lv ts : List Nat) (x : Operand) (hx : opv U x = some (.slice a k c)) [hp : PkT L a c T e z F] (hm : P.follows .mixedOrders = true) (hB : okB l n N bef need ts = true) (hA : okA n 1 bef need use abl lv = true) (hk : K.keep U ts = some V)
    (h : DW P l V w0 L0 F (befOf need) (befOf use) (befOf abl) (fun B => ∀ vs, Facts B (befOf need) vs (List.range n) → GL P l.toArray Q (l.drop n) N (envB l B (befOf need) vs (List.range n) V) w0 L0 (resB B (befOf need) vs lv F)) [(n, .own (fun _ _ => undef) (fun _ _ => True) (fun _ _ => trow a c T e z))] 0 l n) :
    GC P (.region id l.toArray true) Q N U w0 L0 L := GC.drawn n [trow a c T e z] F bef need use abl lv ts hm hB hA hk hp.out h
end
section
variable {P : Program} {ops : Array Oper} {Q : Exit → Act → World → Prop} {N : Nat} {U : Env} {w0 : World} {L0 L L' : List Res}
theorem GL.resE {ol : List Oper} (h : L = L') (hr : GL P ops Q ol N U w0 L0 L') : GL P ops Q ol N U w0 L0 L := by subst h; exact hr
end
end Go.K.D

namespace Go.K
open Go
set_option linter.unusedVariables false
section
variable {w0 w : World} {L0 L lc F : List Res} {α : Type} {e : Enc α} {l m : List α} {b : Nat} {T : TypeId}
instance Rd.arr : Rd w0 L0 (cl b T (e.fl l) :: L) (some ⟨b, 0, none⟩) e l := ⟨fun w hT => Sl.of_block (hT.ok _ List.mem_cons_self) (e.fl_length l)⟩
class InA (F : List Res) (b : Nat) (T : outParam TypeId) {α : outParam Type} (e : outParam (Enc α)) (l : outParam (List α)) : Prop where
  mem : cl b T (e.fl l) ∈ F
instance InA.tail {r : Res} [h : InA F b T e l] : InA (r :: F) b T e l := ⟨List.mem_cons_of_mem _ h.mem⟩
instance InA.head : InA (cl b T (e.fl l) :: F) b T e l := ⟨List.mem_cons_self⟩
instance RdC.arr [h : InA F b T e l] : RdC w0 L0 lc F (some ⟨b, 0, none⟩) e l := ⟨fun w hT => ⟨Sl.of_block (hT.ok _ (List.mem_append_right _ h.mem)) (e.fl_length l), fun hl r hr hf => by
  obtain ⟨i, hi⟩ := List.getElem?_of_mem hr
  obtain ⟨j, hj⟩ := List.getElem?_of_mem h.mem
  have hil : i < lc.length := (List.getElem?_eq_some_iff.1 hi).1
  exact hT.disj i (lc.length + j) r _ (by omega) (by rw [List.getElem?_append_left hil]; exact hi) (by rw [List.getElem?_append_right (by omega)]; simpa using hj) b hf rfl⟩⟩
theorem Part.pre {a : Option Addr} {i : Nat} (hi : i ≤ l.length) : Part a a e l (l.take i) := ⟨fun w h => by
  have := h.takeH hi
  rw [e.fl_take] at this
  rw [List.length_take, Nat.min_eq_left hi]
  exact this, fun hm => ⟨rfl, fun h => by subst h; simp at hm⟩⟩
end
namespace D
section
variable {P : Program} {U : Env} {w0 : World} {L0 L : List Res} {ty : TypeId} {α : Type} {e : Enc α} {l : List α} {T E : TypeId} {x y : Operand}
/-- An array's first elements. -/
theorem em_arrH {n k b j : Nat} {kd : IntKind} (hf : arrOf P T = some (n, E, k)) (hx : opv U x = some (.pointer (some ⟨b, 0, none⟩))) (hy : opv U y = some (.int kd (j : Int))) [hR : Rd w0 L0 L (some ⟨b, 0, none⟩) e l] (hn : j ≤ n) (hj : j ≤ l.length) :
    EvM P U w0 L0 L [] (.slice T x Option.none (some y) Option.none) ty (fun g => .slice (g 0).1 (l.take j).length n) (fun g => Part (g 0).1 (some ⟨b, 0, none⟩) e l (l.take j)) (fun _ => emp) := by
  intro ρ w dst pos after guard hρ hT
  have := e_arrH (P := P) (U := U) (w0 := w0) (L0 := L0) (L := L) (ty := ty) hf hx hy (by omega) (by omega) ρ w dst pos after guard hρ hT
  have hl : (l.take j).length = j := by rw [List.length_take, Nat.min_eq_left hj]
  rw [Int.toNat_natCast] at this
  generalize (execOp ρ ⟨dst, _, ty, pos, after, guard⟩).run P w = r at *
  cases r with
  | ok n w' =>
    cases n <;> simp only [calmUpon] at this
    case value v => exact ⟨fun _ => (some ⟨b, 0, none⟩, 0), this.1.trans (by rw [hl]), Part.pre hj, this.2⟩
    case skip => exact ⟨fun _ => (some ⟨b, 0, none⟩, 0), this.1.trans (by rw [hl]), Part.pre hj, this.2⟩
    case enter f args => exact ⟨this.1, this.2.mono fun e' w'' ⟨v, h1, h0, h3⟩ => ⟨fun _ => (some ⟨b, 0, none⟩, 0), by rw [h1]; exact congrArg _ (h0.trans (by rw [hl])), Part.pre hj, h3⟩⟩
  | halt x w' => exact this
end
end D
end Go.K
/-! ### What is only read -/
namespace Go.K
open Go
set_option linter.unusedVariables false
def tro (a : Option Addr) {α : Type} (e : Enc α) (l : List α) : Res where
  fp b := ∃ p, a = some p ∧ b = p.block
  ok h := (a = none → l = []) ∧ ∀ p, a = some p → (l ≠ [] → p = ⟨p.block, p.off, none⟩) ∧ ∃ cs T fr, h[p.block]? = some (.cells cs T fr) ∧ ∀ j v, (e.fl l)[j]? = some v → cs[p.off + j]? = some v
  loc h h' e w := ⟨w.1, fun p hp => ⟨(w.2 p hp).1, by
    obtain ⟨cs, T, fr, h1, h2⟩ := (w.2 p hp).2
    exact ⟨cs, T, fr, by rw [e p.block ⟨p, hp, rfl⟩]; exact h1, h2⟩⟩⟩
  ins h k c e := by
    obtain ⟨p, hp, rfl⟩ := e
    obtain ⟨cs, T, fr, h1, _⟩ := (k.2 p hp).2
    exact (Array.getElem?_eq_some_iff.1 h1).1
section
variable {w0 w : World} {L0 L lc F : List Res} {α : Type} {e : Enc α} {l m : List α} {b : Nat} {T : TypeId} {a a' : Option Addr}
theorem tro_sl (h : (tro a e l).ok w.heap) : Sl w e.k a l.length (e.fl l) := by
  cases l with
  | nil => exact Sl.empty a rfl w
  | cons x l =>
    cases a with
    | none => exact absurd (h.1 rfl) (by simp)
    | some p =>
      obtain ⟨h1, cs, T, fr, h2, h3⟩ := h.2 p rfl
      have h4 := h1 (by simp)
      refine ⟨e.fl_length _, fun _ => congrArg some h4, fun j v hj => ?_⟩
      have h5 := h3 j v hj
      show w.cell? ⟨p.block, p.off + j, none⟩ = some v
      simp only [World.cell?, h2]
      simpa using h5
theorem tro_fp (h : (tro a e l).ok w.heap) (hl : l ≠ []) : (tro a e l).fp (bk a) := by
  cases a with
  | none => exact absurd (h.1 rfl) hl
  | some p => exact ⟨p, rfl, rfl⟩
instance Rd.ro : Rd w0 L0 (tro a e l :: L) a e l := ⟨fun w hT => tro_sl (hT.ok _ List.mem_cons_self)⟩
class InO (F : List Res) (a : Option Addr) {α : outParam Type} (e : outParam (Enc α)) (l : outParam (List α)) : Prop where
  mem : tro a e l ∈ F
instance InO.tail {r : Res} [h : InO F a e l] : InO (r :: F) a e l := ⟨List.mem_cons_of_mem _ h.mem⟩
instance InO.head : InO (tro a e l :: F) a e l := ⟨List.mem_cons_self⟩
instance RdC.ro [h : InO F a e l] : RdC w0 L0 lc F a e l := ⟨fun w hT => ⟨tro_sl (hT.ok _ (List.mem_append_right _ h.mem)), fun hl r hr hf => by
  obtain ⟨i, hi⟩ := List.getElem?_of_mem hr
  obtain ⟨j, hj⟩ := List.getElem?_of_mem h.mem
  have hil : i < lc.length := (List.getElem?_eq_some_iff.1 hi).1
  exact hT.disj i (lc.length + j) r _ (by omega) (by rw [List.getElem?_append_left hil]; exact hi) (by rw [List.getElem?_append_right (by omega)]; simpa using hj) _ hf (tro_fp (hT.ok _ (List.mem_append_right _ h.mem)) hl)⟩⟩
/-- One resource seen as less. -/
theorem Tr.weaken {r s : Res} (h : Tr w0 L0 w (r :: F)) (hf : ∀ b, s.fp b → r.fp b) (ho : r.ok w.heap → s.ok w.heap) (hw : s.wild = false := by rfl) : Tr w0 L0 w (s :: F) := by
  refine ⟨h.os, h.tape, h.output, fun hn => ⟨(h.ahead hn).1, fun r hr => by
    rcases List.mem_cons.1 hr with rfl | h2
    · exact hw
    · exact (h.ahead hn).2 r (List.mem_cons_of_mem _ h2)⟩, h.size, h.frame, (h.disj.tail).cons fun t ht b hb hb2 => h.disj.head ht b (hf b hb) hb2, fun x hx => ?_, fun x hx b hb => ?_⟩
  · rcases List.mem_cons.1 hx with rfl | hx
    · exact ho (h.ok _ List.mem_cons_self)
    · exact h.ok x (List.mem_cons_of_mem _ hx)
  · rcases List.mem_cons.1 hx with rfl | hx
    · exact h.new r List.mem_cons_self b (hf b hb)
    · exact h.new x (List.mem_cons_of_mem _ hx) b hb
theorem Tr.ro_row {c : Nat} (h : Tr w0 L0 w (trow a c T e l :: F)) : Tr w0 L0 w (tro a e l :: F) := h.weaken (fun b hb => hb) fun ho => ⟨fun ha => by
  have h1 := congrArg List.length (ho.1 ha).1
  rw [e.fl_length, List.length_nil] at h1
  rcases Nat.eq_zero_or_pos l.length with h0 | h0
  · exact List.length_eq_zero_iff.1 h0
  · have := Nat.mul_pos h0 e.pos; omega, fun p hp => by
  obtain ⟨h1, junk, h2, h3⟩ := ho.2 p hp
  refine ⟨fun _ => by rw [h1], _, _, _, h2, fun j v hj => ?_⟩
  have h4 : p.off = 0 := by rw [h1]
  rw [h4, Nat.zero_add, List.getElem?_toArray, List.getElem?_append_left (List.getElem?_eq_some_iff.1 hj).1]
  exact hj⟩
theorem Tr.ro_arr (h : Tr w0 L0 w (cl b T (e.fl l) :: F)) : Tr w0 L0 w (tro (some ⟨b, 0, none⟩) e l :: F) := h.weaken (fun c ⟨p, hp, hb⟩ => by cases hp; exact hb) fun ho => ⟨fun ha => absurd ha (by simp), fun p hp => by
  cases hp
  refine ⟨fun _ => rfl, _, _, _, ho, fun j v hj => ?_⟩
  rw [Nat.zero_add, List.getElem?_toArray]
  exact hj⟩
theorem Tr.ro_nil (e : Enc α) (hT : Tr w0 L0 w L) : Tr w0 L0 w (tro none e ([] : List α) :: L) :=
  ⟨hT.os, hT.tape, hT.output, fun hn => ⟨(hT.ahead hn).1, fun r hr => by
    rcases List.mem_cons.1 hr with rfl | h2
    · rfl
    · exact (hT.ahead hn).2 r h2⟩, hT.size, hT.frame, hT.disj.cons (fun s _ b ⟨p, hp, _⟩ _ => by simp at hp), fun r hr => by
    rcases List.mem_cons.1 hr with rfl | h2
    · exact ⟨fun _ => rfl, fun p hp => by simp at hp⟩
    · exact hT.ok r h2, fun r hr b hb => by
    rcases List.mem_cons.1 hr with rfl | h2
    · obtain ⟨p, hp, _⟩ := hb; simp at hp
    · exact hT.new r h2 b hb⟩
/-- A part of what is only read. -/
theorem Tr.ro_part (hp : Part a' a e l m) (hb : bk a' = bk a ∨ m = []) (hn : a' = none → m = []) (hs : a ≠ none) (h : Tr w0 L0 w (tro a e l :: F)) (hm : m ≠ []) : Tr w0 L0 w (tro a' e m :: F) := by
  have h0 := hp.sl w (tro_sl (h.ok _ List.mem_cons_self))
  obtain ⟨hb2, _⟩ := hp.blk hm
  refine h.weaken (fun c ⟨p, hpp, hc⟩ => ?_) fun ho => ⟨hn, fun p hpp => ?_⟩
  · cases ha : a with
    | none => exact absurd ha hs
    | some q =>
      refine ⟨q, rfl, ?_⟩
      rw [hpp, ha] at hb2
      rw [hc]; exact hb2
  · have hl : 0 < m.length := List.length_pos_iff.2 hm
    have hbase := h0.base hl
    have hp3 : p = ⟨p.block, p.off, none⟩ := by rw [hpp] at hbase; exact Option.some.inj hbase
    cases ha : a with
    | none => exact absurd ha hs
    | some q =>
      obtain ⟨_, cs, T, fr, h2, _⟩ := ho.2 q ha
      have hq : q.block = p.block := by rw [hpp, ha] at hb2; exact hb2.symm
      rw [hq] at h2
      refine ⟨fun _ => hp3, cs, T, fr, h2, fun j v hj => ?_⟩
      have h5 := h0.cell j v hj
      rw [hpp] at h5
      have h6 : w.cell? ⟨p.block, p.off + j, none⟩ = some v := h5
      simp only [World.cell?, h2] at h6
      simpa using h6
end
section
variable {P : Program} {ops : Array Oper} {Q : Exit → Act → World → Prop} {N : Nat} {U : Env} {w0 : World} {L0 F : List Res} {α : Type} {e : Enc α} {l : List α} {b c : Nat} {T : TypeId} {a : Option Addr}
theorem GL.ro_row {ol : List Oper} (h : GL P ops Q ol N U w0 L0 (tro a e l :: F)) : GL P ops Q ol N U w0 L0 (trow a c T e l :: F) := fun aa w hE hT => h aa w hE hT.ro_row
theorem GC.ro_row {code : Code} (h : GC P code Q N U w0 L0 (tro a e l :: F)) : GC P code Q N U w0 L0 (trow a c T e l :: F) := fun aa w hE hT => h aa w hE hT.ro_row
theorem GC.ro_nil {code : Code} (e : Enc α) (h : GC P code Q N U w0 L0 (tro none e ([] : List α) :: F)) : GC P code Q N U w0 L0 F := fun aa w hE hT => h aa w hE (hT.ro_nil e)
end
end Go.K
/-! ### Clearing a part of a row -/
namespace Go.K
open Go
set_option linter.unusedVariables false
section
variable {P : Program} {ops : Array Oper} {Q : Exit → Act → World → Prop} {N : Nat} {U : Env} {w0 : World} {L0 L : List Res} {ty : TypeId} {rest : List Oper} {pos : String} {after : Array Edge} {x : Operand}
theorem run_clear_row {w : World} {T B R : TypeId} {z : Value} {bytes : Nat} (hm : mkOf P T = some (B, [z], bytes)) (h1 : z.oneCell' = true) {b o n c : Nat} {cs : List Value} (hb : w.heap[b]? = some (.cells cs.toArray R (0, 0))) (hfit : o + n ≤ cs.length) (hn : 0 < n) :
    (Builtin.clear_ #[T] ty #[.slice (some ⟨b, o, none⟩) n c]).run P w = .ok (.tuple #[]) (w.setRow b (cs.take o ++ List.replicate n z ++ cs.drop (o + n)).toArray) := by
  obtain ⟨it, zv, hu, hi, hz, hzc, hsz, hpos, hby⟩ := mkOf_spec hm
  have hzv : ∀ w, (zeroValue B).run P w = .ok zv w := fun w => by simp [zeroValue, typeInfo, hi, hz]
  have hcl : (Builtin.zeroCells zv.cells n).toList = List.replicate n z := by
    rw [hzc]
    simp [Builtin.zeroCells]
    apply List.ext_getElem
    · simp
    · intro i h1 h2
      simp [Nat.mod_one]
  have hst := run_storeCells_at P b o R (List.replicate n z) 0 cs.toArray w hb (by simpa using hfit) (by intro v hv; rw [List.eq_of_mem_replicate hv]; exact h1)
  obtain ⟨m, rfl⟩ : ∃ m, n = m + 1 := ⟨n - 1, by omega⟩
  simp only [Nat.add_zero, List.length_replicate] at hst
  simp [Builtin.clear_, run_underlying hu, hzv, hcl, hst]
theorem GL.clearB {T B R : TypeId} {z : Value} {bytes : Nat} {b o n c : Nat} {cs cs' : List Value} {L' : List Res} (hm : mkOf P T = some (B, [z], bytes)) (h1 : z.oneCell' = true) (hx : opv U x = some (.slice (some ⟨b, o, none⟩) n c)) [hh : HasC L b R cs] (hfit : o + n ≤ cs.length) (hn : 0 < n)
    (hcs : cs' = cs.take o ++ List.replicate n z ++ cs.drop (o + n)) [hset : SetC L b R cs cs' L'] (hr : GL P ops Q rest N U w0 L0 L') : GL P ops Q (⟨Option.none, .call ⟨.builtin .clear, #[x], #[T]⟩, ty, pos, after, Option.none⟩ :: rest) N U w0 L0 L := by
  intro aa w hE hT
  refine wpList_plain rfl fun K hK => ?_
  have h3 := run_clear_row (P := P) (ty := ty) (c := c) hm h1 (hT.at (b := b)) hfit hn
  have h5 : (execOp aa.eval ⟨Option.none, .call ⟨.builtin .clear, #[x], #[T]⟩, ty, pos, after, Option.none⟩).run P w = ((Builtin.clear_ #[T] ty #[aa.eval x]).run P w).andThen fun v w' => .ok (.value v) w' := by
    simp [execOp, go_sem]
  unfold Oper.wp
  rw [h5, hE.op _ _ hx, h3]
  subst hcs
  exact hK _ _ (hr _ _ hE hT.setRow)
end
end Go.K
