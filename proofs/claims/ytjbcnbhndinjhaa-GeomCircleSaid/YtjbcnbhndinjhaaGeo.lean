/- What the functions of the layout of a device give, for all numbers of the kind int: their contracts. -/
import Derived.Test.YtjbcnbhndinjhaaRows
import Derived.Test.YtjbcnbhndinjhaaKb
namespace Go.Proofs.Ytjbcnbhndinjhaa
open Go Go.K
set_option linter.unusedVariables false
set_option linter.unusedSimpArgs false
attribute [local irreducible] Calls Ev GL GC GQ GR Code.wp
/-! ### What the layout of a device is, in numbers -/
def roomOf (a : Int) : Int := if 1 ≤ a ∧ a ≤ 64 then 57 * a else 0
def fitsB (a b c : Int) : Bool := decide (b ≤ a ∧ a ≤ c)
def rightB (a b c : Int) : Bool := decide (4 ≤ a ∧ a ≤ 8 ∧ 1 ≤ b ∧ b ≤ 64 ∧ 64 ≤ c ∧ c ≤ 3600 ∧ c ≤ 57 * b)
def dummy0 : Nat := 0
def ofB (a b c n : Int) : Int := if rightB a b c then n else 0
def sizeP (a b c : Int) : Int := if rightB a b c then 2 + a * b else 0
def firstP (a b c x : Int) : Int := if rightB a b c = true ∧ 0 ≤ x ∧ x < a then 2 + x * b else 0
def roomP (a b c : Int) : Int := if rightB a b c then 57 * b else 0
def budgetP (a b c : Int) : Int := if rightB a b c then max 0 ((a - 3) * (57 * b - c) - 57 * a) else 0
theorem right_iff (a b c : Int) : rightB a b c = true ↔ 4 ≤ a ∧ a ≤ 8 ∧ 1 ≤ b ∧ b ≤ 64 ∧ 64 ≤ c ∧ c ≤ 3600 ∧ c ≤ 57 * b := by unfold rightB; simp
theorem right_fits (a b c : Int) : rightB a b c = (fitsB a 4 8 && fitsB b 1 64 && fitsB c 64 (min 3600 (roomOf b))) := by
  rw [Bool.eq_iff_iff, right_iff]
  simp only [fitsB, Bool.and_eq_true, decide_eq_true_eq]
  unfold roomOf
  constructor
  · intro h; rw [if_pos (by omega)]; omega
  · intro h
    have := h.1.2
    rw [if_pos this] at h; omega
theorem room_in (b : Int) (h1 : 1 ≤ b) (h2 : b ≤ 64) : roomOf b = 57 * b := by unfold roomOf; rw [if_pos ⟨h1, h2⟩]
theorem mul_bd {a b : Int} (h1 : 0 ≤ a) (h2 : a ≤ 8) (h3 : 0 ≤ b) (h4 : b ≤ 64) : 0 ≤ a * b ∧ a * b ≤ 512 := by
  refine ⟨Int.mul_nonneg h1 h3, ?_⟩
  have := Int.mul_le_mul h2 h4 h3 (by omega : (0 : Int) ≤ 8)
  omega
theorem size_eq (a b c : Int) : ofB a b c (IntKind.i64.wrap (2 + IntKind.i64.wrap (a * b))) = sizeP a b c := by
  unfold ofB sizeP
  by_cases h : rightB a b c = true
  · rw [if_pos h, if_pos h]
    rw [right_iff] at h
    have := mul_bd (a := a) (b := b) (by omega) (by omega) (by omega) (by omega)
    rw [wrap_i64 (a := a * b) (by omega) (by omega), wrap_i64 (by omega) (by omega)]
  · rw [if_neg h, if_neg h]
theorem first_eq (a b c x : Int) (h : 0 ≤ x ∧ x < a) : ofB a b c (IntKind.i64.wrap (2 + IntKind.i64.wrap (x * b))) = firstP a b c x := by
  unfold ofB firstP
  by_cases hr : rightB a b c = true
  · rw [if_pos hr, if_pos ⟨hr, h⟩]
    rw [right_iff] at hr
    have := mul_bd (a := x) (b := b) (by omega) (by omega) (by omega) (by omega)
    rw [wrap_i64 (a := x * b) (by omega) (by omega), wrap_i64 (by omega) (by omega)]
  · rw [if_neg hr, if_neg (fun h => hr h.1)]
theorem first_out (a b c x : Int) (h : ¬ (0 ≤ x ∧ x < a)) : firstP a b c x = 0 := by unfold firstP; rw [if_neg (fun k => h k.2)]
theorem room_eq (a b c : Int) : ofB a b c (roomOf b) = roomP a b c := by
  unfold ofB roomP
  by_cases h : rightB a b c = true
  · rw [if_pos h, if_pos h]; rw [right_iff] at h; exact room_in b (by omega) (by omega)
  · rw [if_neg h, if_neg h]
theorem budget_bd {a b c : Int} (h : rightB a b c = true) : 0 ≤ (a - 3) * (57 * b - c) ∧ (a - 3) * (57 * b - c) ≤ 18240 := by
  rw [right_iff] at h
  refine ⟨Int.mul_nonneg (by omega) (by omega), ?_⟩
  have := Int.mul_le_mul (show a - 3 ≤ 5 by omega) (show 57 * b - c ≤ 3648 by omega) (by omega) (by omega : (0 : Int) ≤ 5)
  omega
theorem budget_eq (a b c : Int) : ofB a b c (max 0 (IntKind.i64.wrap (IntKind.i64.wrap (IntKind.i64.wrap (a - 3) * IntKind.i64.wrap (roomP a b c - c)) - IntKind.i64.wrap (57 * a)))) = budgetP a b c := by
  unfold ofB budgetP
  by_cases h : rightB a b c = true
  · rw [if_pos h, if_pos h]
    have hb := budget_bd h
    unfold roomP
    rw [if_pos h]
    rw [right_iff] at h
    rw [wrap_i64 (a := a - 3) (by omega) (by omega), wrap_i64 (a := 57 * b - c) (by omega) (by omega), wrap_i64 (a := 57 * a) (by omega) (by omega), wrap_i64 (a := (a - 3) * (57 * b - c)) (by omega) (by omega), wrap_i64 (by omega) (by omega)]
  · rw [if_neg h, if_neg h]
theorem fits_no {x a : Int} (h : (!fitsB x 0 (a - 1)) = true) : ¬ (0 ≤ x ∧ x < a) := by unfold fitsB at h; simp at h; omega
theorem fits_yes {x a : Int} (h : (!fitsB x 0 (a - 1)) = false) : 0 ≤ x ∧ x < a := by unfold fitsB at h; simp at h; omega
theorem wrong_of {a b c n : Int} (h : a < 4) : ofB a b c n = 0 := by
  unfold ofB; rw [if_neg (by rw [right_iff]; omega)]
theorem wrong_first {a b c n : Int} (h : a < 4) : firstP a b c n = 0 := by
  unfold firstP; rw [if_neg (by rw [right_iff]; omega)]
def I64 (a : Int) : Prop := -9223372036854775808 ≤ a ∧ a ≤ 9223372036854775807
theorem size_y {a b c : Int} (h : rightB a b c = true) : IntKind.i64.wrap (2 + IntKind.i64.wrap (a * b)) = sizeP a b c := by rw [← size_eq]; unfold ofB; rw [if_pos h]
theorem size_n {a b c : Int} (h : rightB a b c = false) : sizeP a b c = 0 := by unfold sizeP; rw [if_neg (by rw [h]; simp)]
theorem first_y {a b c x : Int} (h : rightB a b c = true) (hx : 0 ≤ x) (hx2 : x < a) : IntKind.i64.wrap (2 + IntKind.i64.wrap (x * b)) = firstP a b c x := by rw [← first_eq a b c x ⟨hx, hx2⟩]; unfold ofB; rw [if_pos h]
theorem first_n {a b c x : Int} (h : rightB a b c = false) : firstP a b c x = 0 := by unfold firstP; rw [if_neg (by rw [h]; simp)]
theorem room_y {a b c : Int} (h : rightB a b c = true) : roomOf b = roomP a b c := by rw [← room_eq]; unfold ofB; rw [if_pos h]
theorem room_n {a b c : Int} (h : rightB a b c = false) : roomP a b c = 0 := by unfold roomP; rw [if_neg (by rw [h]; simp)]
theorem budget_y {a b c : Int} (h : rightB a b c = true) : max 0 (IntKind.i64.wrap (IntKind.i64.wrap (IntKind.i64.wrap (a - 3) * IntKind.i64.wrap (roomP a b c - c)) - IntKind.i64.wrap (57 * a))) = budgetP a b c := by rw [← budget_eq]; unfold ofB; rw [if_pos h]
theorem budget_n {a b c : Int} (h : rightB a b c = false) : budgetP a b c = 0 := by unfold budgetP; rw [if_neg (by rw [h]; simp)]
theorem ret_right {a b c : Int} {r : Bool} (h : (4 ≤ a ∧ a ≤ 8 ∧ 1 ≤ b ∧ b ≤ 64 ∧ 64 ≤ c ∧ c ≤ 3600 ∧ c ≤ 57 * b) ↔ r = true) : Ending.returned (.bool r) = .returned (.bool (rightB a b c)) := by
  have : rightB a b c = r := by rw [Bool.eq_iff_iff, right_iff, h]
  rw [this]
theorem not_t {b : Bool} (h : (!b) = true) : b = false := by simpa using h
theorem not_f {b : Bool} (h : (!b) = false) : b = true := by simpa using h
attribute [irreducible] fitsB rightB roomOf ofB sizeP firstP roomP budgetP
/-- A table's value, whose extents are new. -/
def tabV (b : Nat) (n : Nat) : Value := .agg #[.int .i64 1, .int .i64 (-1), .slice (some ⟨b, 0, none⟩) n n]
def tabR (n : Nat) : Value → Res
  | .agg #[_, _, .slice (some p) _ _] => cl p.block 45 (zeros [.int .i64 0, .int .i64 0] n)
  | _ => emp
def tab0 : Value := .agg #[.int .i64 0, .int .i64 0, .slice none 0 0]
/-- An extent. -/
structure XExt where
  seq : Int
  len : Int
def encE (x : XExt) : List Value := [.int .i64 x.seq, .int .i64 x.len]
theorem encE_len (x : XExt) : (encE x).length = 2 := rfl
theorem eqExt (a b c d : Int) (w : World) : (Op.equalIn 10000 45 (.agg #[.int .i64 a, .int .i64 b]) (.agg #[.int .i64 c, .int .i64 d])).run Try.prog w = .ok (decide (a = c ∧ b = d)) w := by
  by_cases h1 : a = c <;> by_cases h2 : b = d <;> simp [go_sem, h1, h2]
theorem eqgExt : Try.prog.eqGuardType Try.prog.depth 45 = false := by kernel_rfl
theorem zeros_exts (n : Nat) : zeros [.int .i64 0, .int .i64 0] n = (List.replicate n (XExt.mk 0 0)).flatMap encE := by
  induction n with
  | zero => rfl
  | succ n ih => simp [zeros, List.replicate_succ, encE, ih]
theorem take_full {l : List XExt} {n : Nat} (h : l.length ≤ n) : l.take n = l := List.take_of_length_le h
theorem ext_ne {a b : List XExt} {i : Nat} {x y : XExt} (ha : a[i]? = some x) (hb : b[i]? = some y) (h : ¬ (x.seq = y.seq ∧ x.len = y.len)) : a ≠ b := by
  intro e; subst e
  rw [ha] at hb
  have := Option.some.inj hb
  subst this
  exact h ⟨rfl, rfl⟩
theorem ext_eq {x y : XExt} (h : x.seq = y.seq ∧ x.len = y.len) : x = y := by cases x; cases y; simp_all

theorem ret_no {p : Prop} [Decidable p] (h : p → False) : Ending.returned (.bool false) = .returned (.bool (decide p)) := by rw [decide_eq_false h]
theorem ret_yes {p : Prop} [Decidable p] (h : p) : Ending.returned (.bool true) = .returned (.bool (decide p)) := by rw [decide_eq_true h]
theorem ret_iff {p q : Prop} [Decidable p] [Decidable q] (h : p ↔ q) : Ending.returned (.bool (decide p)) = .returned (.bool (decide q)) := by
  have : decide p = decide q := by rw [Bool.eq_iff_iff]; simpa using h
  rw [this]
instance : DecidableEq XExt := fun x y => if h : x.seq = y.seq ∧ x.len = y.len then isTrue (ext_eq h) else isFalse (fun e => h (by subst e; exact ⟨rfl, rfl⟩))
/-! ### When a table is right -/
def extOk (e : XExt) : Prop := 0 ≤ e.seq ∧ e.seq ≤ 2147483648 ∧ 0 ≤ e.len ∧ e.len ≤ 3776 ∧ (e.seq = 0 → e.len = 0)
instance (e : XExt) : Decidable (extOk e) := by unfold extOk; infer_instance
def Unl (y x : XExt) : Prop := x.seq ≠ 0 → y.seq ≠ x.seq
instance (y x : XExt) : Decidable (Unl y x) := by unfold Unl; infer_instance
def openOk (o : Int) (l : List XExt) : Prop := o < 0 ∨ match l[o.toNat]? with
  | some x => x.seq ≠ 0 ∧ x.len = 0
  | none => False
instance (o : Int) (l : List XExt) : Decidable (openOk o l) := by
  unfold openOk
  cases l[o.toNat]? <;> infer_instance
def tRight (g o : Int) (l : List XExt) : Prop := 1 ≤ g ∧ g ≤ 2147483648 ∧ 4 ≤ l.length ∧ l.length ≤ 8 ∧ -1 ≤ o ∧ o < l.length ∧ (∀ x ∈ l, extOk x) ∧ l.Pairwise Unl ∧ openOk o l
instance (g o : Int) (l : List XExt) : Decidable (tRight g o l) := by unfold tRight; infer_instance
structure Upto (l : List XExt) (i : Nat) : Prop where
  ok : ∀ x ∈ l.take i, extOk x
  un : (l.take i).Pairwise Unl
theorem Upto.zero (l : List XExt) : Upto l 0 := ⟨by simp, by simp⟩
theorem Upto.next {l : List XExt} {i : Nat} {x : XExt} (h : Upto l i) (hx : l[i]? = some x) (ho : extOk x) (hu : ∀ y ∈ l.take i, Unl y x) : Upto l (i + 1) := by
  have e : l.take (i + 1) = l.take i ++ [x] := by rw [List.take_add_one, hx]; rfl
  refine ⟨?_, ?_⟩
  · rw [e]; intro y hy
    rcases List.mem_append.1 hy with h1 | h1
    · exact h.ok y h1
    · simp at h1; subst h1; exact ho
  · rw [e, List.pairwise_append]
    exact ⟨h.un, by simp, fun y hy z hz => by simp at hz; subst hz; exact hu y hy⟩
theorem Upto.bad {l : List XExt} {i : Nat} {x : XExt} (hx : l[i]? = some x) (ho : ¬ extOk x) : ¬ ∀ x ∈ l, extOk x := fun h => ho (h x (List.mem_of_getElem? hx))
theorem unl_bad {l : List XExt} {i k : Nat} {x y : XExt} (hx : l[i]? = some x) (hy : l[k]? = some y) (hk : k < i) (h0 : x.seq ≠ 0) (he : y.seq = x.seq) : ¬ l.Pairwise Unl := by
  intro h
  have hil := (List.getElem?_eq_some_iff.1 hx)
  have hkl := (List.getElem?_eq_some_iff.1 hy)
  obtain ⟨hil, rfl⟩ := hil
  obtain ⟨hkl, rfl⟩ := hkl
  exact (List.pairwise_iff_getElem.1 h k i hkl hil hk) h0 he
theorem take_snoc {l : List XExt} {i : Nat} {x : XExt} (hx : l[i]? = some x) {p : XExt → Prop} (h : ∀ y ∈ l.take i, p y) (hp : p x) : ∀ y ∈ l.take (i + 1), p y := by
  rw [List.take_add_one, hx]
  intro y hy
  rcases List.mem_append.1 hy with h1 | h1
  · exact h y h1
  · simp at h1; subst h1; exact hp
theorem Upto.all {l : List XExt} {i : Nat} (h : Upto l i) (hi : l.length ≤ i) : (∀ x ∈ l, extOk x) ∧ l.Pairwise Unl := by
  have := h.ok; have h2 := h.un
  rw [List.take_of_length_le hi] at this h2
  exact ⟨this, h2⟩

/- turntable/tape.Room -/
set_option maxHeartbeats 1000000 in
set_option maxRecDepth 100000 in
theorem room_any (a : Int) (w : World) :
    Calls Try.prog 23 #[.int .i64 a] w fun e w' => e = .returned (.int .i64 (roomOf a)) ∧ Tr w [] w' [] := by
  refine K.enter0 (args := [_]) Try.func23 rfl Try.ntmps23 rfl ?_
  refine K.GC.seq ?_
  refine K.GC.region ?_
  refine K.GL.det (K.e_assign rfl) rfl ?_
  refine K.GL.nil ?_
  refine K.GQ.go ?_
  refine K.GC.seq ?_
  refine K.GC.seq ?_
  refine K.GC.region ?_
  refine K.GL.det (K.e_move rfl) rfl ?_
  first | refine K.GL.det ((K.e_lt rfl rfl).yes (by first | omega | assumption | decide +kernel)) rfl ?_ | refine K.GL.det ((K.e_lt rfl rfl).no (by first | omega | assumption | decide +kernel)) rfl ?_ | refine K.GL.det (K.e_lt rfl rfl) rfl ?_
  refine K.GL.det (K.e_move rfl) rfl ?_
  first | refine K.GL.splitB 5 rfl (fun h1 => ?_) (fun h1 => ?_) | skip
  all_goals first | exact absurd h1 (by decide) | replace h1 := of_decide_eq_true h1 | replace h1 := of_decide_eq_false h1 | skip
  all_goals
    first | (refine K.GL.want 5 rfl rfl rfl ?_; first | refine K.GL.det (K.e_move rfl) rfl ?_) | refine K.GL.skip 5 rfl rfl rfl rfl ?_ | refine K.GL.skipU 5 rfl rfl rfl rfl ?_
    first | (refine K.GL.want 5 rfl rfl rfl ?_; first | refine K.GL.det ((K.e_gt rfl rfl).yes (by first | omega | assumption | decide +kernel)) rfl ?_ | refine K.GL.det ((K.e_gt rfl rfl).no (by first | omega | assumption | decide +kernel)) rfl ?_ | refine K.GL.det (K.e_gt rfl rfl) rfl ?_) | refine K.GL.skip 5 rfl rfl rfl rfl ?_ | refine K.GL.skipU 5 rfl rfl rfl rfl ?_
    first | refine K.GL.det (K.e_pick_t rfl rfl) rfl ?_ | refine K.GL.det (K.e_pick_f rfl rfl) rfl ?_
    refine K.GL.nil ?_
    refine K.GQ.go ?_
    refine K.GC.condB rfl (fun h2 => ?_) (fun h2 => ?_)
    · first
      | exact absurd h2 (by decide)
      | try replace h2 := of_decide_eq_true h2
        refine K.GC.seq ?_
        refine K.GC.region ?_
        refine K.GL.det (K.e_assign rfl) rfl ?_
        refine K.GL.nil ?_
        refine K.GQ.go ?_
        refine K.GC.ret ?_
        refine K.GQ.then_ret ?_
        refine K.GQ.ret1 Try.results23 rfl (fun w hT => ?_)
        exact ⟨by unfold roomOf; simp; omega, hT.nil⟩
    · first
      | exact absurd h2 (by decide)
      | try replace h2 := of_decide_eq_false h2
        refine K.GC.skip ?_
        refine K.GQ.go ?_
        refine K.GC.seq ?_
        refine K.GC.region ?_
        refine K.GL.det (K.e_move rfl) rfl ?_
        first | refine K.GL.det (K.e_mul rfl rfl ⟨by omega, by omega⟩) rfl ?_ | refine K.GL.det (K.e_mulw rfl rfl) rfl ?_
        refine K.GL.det (K.e_assign rfl) rfl ?_
        refine K.GL.nil ?_
        refine K.GQ.go ?_
        refine K.GC.ret ?_
        refine K.GQ.ret1 Try.results23 rfl (fun w hT => ?_)
        exact ⟨by unfold roomOf; simp; omega, hT.nil⟩
theorem arr41 : K.arrOf Try.prog 41 = some (3, 3, 1) := by kernel_rfl
/- (turntable/geom.bound).fits -/
set_option maxHeartbeats 1000000 in
set_option maxRecDepth 100000 in
theorem fits_any (a b c : Int) (w : World) :
    Calls Try.prog 24 #[.agg #[.int .i64 a, .int .i64 b, .int .i64 c]] w fun e w' => e = .returned (.bool (fitsB a b c)) ∧ Tr w [] w' [] := by
  refine K.enter0 (args := [_]) Try.func24 rfl Try.ntmps24 rfl ?_
  refine K.GC.seq ?_
  refine K.GC.region ?_
  refine K.GL.box rfl rfl rfl (fun b1 => ?_)
  refine K.GL.det (K.e_assign rfl) rfl ?_
  refine K.GL.nil ?_
  refine K.GQ.go ?_
  refine K.GC.seq ?_
  refine K.GC.region ?_
  refine K.GL.det (K.e_indexAddrA arr41 rfl rfl (by omega) (by omega)) rfl ?_
  first | refine K.GL.det (K.e_load Try.isAgg3 rfl rfl) rfl ?_ | refine K.GL.det (K.e_load0 Try.isAgg3 rfl (by assumption)) rfl ?_
  refine K.GL.det (K.e_indexAddrA arr41 rfl rfl (by omega) (by omega)) rfl ?_
  first | refine K.GL.det (K.e_load Try.isAgg3 rfl rfl) rfl ?_ | refine K.GL.det (K.e_load0 Try.isAgg3 rfl (by assumption)) rfl ?_
  first | refine K.GL.det ((K.e_le rfl rfl).yes (by first | omega | assumption | decide +kernel)) rfl ?_ | refine K.GL.det ((K.e_le rfl rfl).no (by first | omega | assumption | decide +kernel)) rfl ?_ | refine K.GL.det (K.e_le rfl rfl) rfl ?_
  refine K.GL.det (K.e_move rfl) rfl ?_
  first | refine K.GL.splitB 8 rfl (fun h1 => ?_) (fun h1 => ?_) | skip
  all_goals first | exact absurd h1 (by decide) | replace h1 := of_decide_eq_true h1 | replace h1 := of_decide_eq_false h1 | skip
  all_goals
    first | (refine K.GL.want 8 rfl rfl rfl ?_; first | refine K.GL.det (K.e_indexAddrA arr41 rfl rfl (by omega) (by omega)) rfl ?_) | refine K.GL.skip 8 rfl rfl rfl rfl ?_ | refine K.GL.skipU 8 rfl rfl rfl rfl ?_
    first | (refine K.GL.want 8 rfl rfl rfl ?_; first | refine K.GL.det (K.e_load Try.isAgg3 rfl rfl) rfl ?_ | refine K.GL.det (K.e_load0 Try.isAgg3 rfl (by assumption)) rfl ?_) | refine K.GL.skip 8 rfl rfl rfl rfl ?_ | refine K.GL.skipU 8 rfl rfl rfl rfl ?_
    first | (refine K.GL.want 8 rfl rfl rfl ?_; first | refine K.GL.det (K.e_indexAddrA arr41 rfl rfl (by omega) (by omega)) rfl ?_) | refine K.GL.skip 8 rfl rfl rfl rfl ?_ | refine K.GL.skipU 8 rfl rfl rfl rfl ?_
    first | (refine K.GL.want 8 rfl rfl rfl ?_; first | refine K.GL.det (K.e_load Try.isAgg3 rfl rfl) rfl ?_ | refine K.GL.det (K.e_load0 Try.isAgg3 rfl (by assumption)) rfl ?_) | refine K.GL.skip 8 rfl rfl rfl rfl ?_ | refine K.GL.skipU 8 rfl rfl rfl rfl ?_
    first | (refine K.GL.want 8 rfl rfl rfl ?_; first | refine K.GL.det ((K.e_le rfl rfl).yes (by first | omega | assumption | decide +kernel)) rfl ?_ | refine K.GL.det ((K.e_le rfl rfl).no (by first | omega | assumption | decide +kernel)) rfl ?_ | refine K.GL.det (K.e_le rfl rfl) rfl ?_) | refine K.GL.skip 8 rfl rfl rfl rfl ?_ | refine K.GL.skipU 8 rfl rfl rfl rfl ?_
    first | refine K.GL.det (K.e_pick_t rfl rfl) rfl ?_ | refine K.GL.det (K.e_pick_f rfl rfl) rfl ?_
    refine K.GL.det (K.e_assign rfl) rfl ?_
    refine K.GL.nil ?_
    refine K.GQ.go ?_
    refine K.GC.ret ?_
    refine K.GQ.ret1 Try.results24 rfl (fun w hT => ?_)
    exact ⟨by unfold fitsB; simp; omega, hT.nil⟩
theorem arr43 : K.arrOf Try.prog 43 = some (3, 41, 3) := by kernel_rfl
theorem fo23_0 : K.fieldOff Try.prog 23 0 = some (3, 0, 1) := by kernel_rfl
theorem fo23_1 : K.fieldOff Try.prog 23 1 = some (3, 1, 1) := by kernel_rfl
theorem fo23_2 : K.fieldOff Try.prog 23 2 = some (3, 2, 1) := by kernel_rfl
theorem lay41 : K.layout Try.prog 41 = some ([.int .i64 0, .int .i64 0, .int .i64 0], [(0, 1), (1, 1), (2, 1)]) := by kernel_rfl
theorem lay43 : K.layout Try.prog 43 = some ([.int .i64 0, .int .i64 0, .int .i64 0, .int .i64 0, .int .i64 0, .int .i64 0, .int .i64 0, .int .i64 0, .int .i64 0], [(0, 3), (3, 3), (6, 3)]) := by kernel_rfl
/- turntable/geom.Right -/
set_option maxHeartbeats 1000000 in
set_option maxRecDepth 100000 in
theorem right_any (a b c : Int) (w : World) :
    Calls Try.prog 9 #[.agg #[.int .i64 a, .int .i64 b, .int .i64 c]] w fun e w' => e = .returned (.bool (rightB a b c)) ∧ Tr w [] w' [] := by
  refine K.enter0 (args := [_]) Try.func9 rfl Try.ntmps9 rfl ?_
  refine K.GC.seq ?_
  refine K.GC.region ?_
  refine K.GL.box rfl rfl rfl (fun b1 => ?_)
  refine K.GL.det (K.e_assign rfl) rfl ?_
  refine K.GL.nil ?_
  refine K.GQ.go ?_
  refine K.GC.seq ?_
  refine K.GC.seq ?_
  refine K.GC.drawn 15 [[], [0], [0, 1], [], [3], [3, 4], [], [6], [], [8], [8, 9], [8, 9, 10], [6, 7, 8, 9, 10, 11], [0, 1, 2, 3, 4, 5, 6, 7, 8, 9, 10, 11, 12], []] [[], [0], [1], [], [3], [4], [], [6], [], [8], [9], [10], [7, 11], [2, 5, 12], []] [1, 2, 4, 20, 21, 22, 23, 24, 25] (by kernel_rfl) (by kernel_rfl) rfl ?_
  refine K.DW.det rfl (fun vs => K.e_fieldAddr fo23_0 rfl) ?_
  first | refine K.DW.det rfl (fun vs => K.e_load Try.isAgg3 rfl rfl) ?_ | refine K.DW.det rfl (fun vs => K.e_load0 Try.isAgg3 rfl (by assumption)) ?_
  refine K.DW.det rfl (fun vs => K.e_build lay41 rfl) ?_
  refine K.DW.det rfl (fun vs => K.e_fieldAddr fo23_1 rfl) ?_
  first | refine K.DW.det rfl (fun vs => K.e_load Try.isAgg3 rfl rfl) ?_ | refine K.DW.det rfl (fun vs => K.e_load0 Try.isAgg3 rfl (by assumption)) ?_
  refine K.DW.det rfl (fun vs => K.e_build lay41 rfl) ?_
  refine K.DW.det rfl (fun vs => K.e_fieldAddr fo23_2 rfl) ?_
  first | refine K.DW.det rfl (fun vs => K.e_load Try.isAgg3 rfl rfl) ?_ | refine K.DW.det rfl (fun vs => K.e_load0 Try.isAgg3 rfl (by assumption)) ?_
  refine K.DW.det rfl (fun vs => K.e_fieldAddr fo23_1 rfl) ?_
  first | refine K.DW.det rfl (fun vs => K.e_load Try.isAgg3 rfl rfl) ?_ | refine K.DW.det rfl (fun vs => K.e_load0 Try.isAgg3 rfl (by assumption)) ?_
  refine K.DW.det rfl (fun vs => K.e_call1 Try.call23 rfl (fun w hT => room_any _ w)) ?_
  refine K.DW.det rfl (fun vs => K.e_min rfl rfl) ?_
  refine K.DW.det rfl (fun vs => K.e_build lay41 rfl) ?_
  refine K.DW.det rfl (fun vs => K.e_build lay43 rfl) ?_
  refine K.DW.det rfl (fun vs => K.e_move rfl) ?_
  refine K.DW.fin0 rfl (fun vs => ?_)
  refine K.GL.keep [2, 4, 18, 19, 20, 21, 22, 23, 24, 25] rfl ?_
  clear vs
  refine K.GL.nil ?_
  refine K.GQ.go ?_
  refine K.GC.block ?_
  refine K.GC.rounds 4 ?_
  refine K.GR.keep [2, 4, 18, 19, 20, 21, 22, 23, 24, 25] rfl ?_
  refine K.GR.succ ?_
  refine K.GC.seq ?_
  refine K.GC.region ?_
  first | refine K.GL.det ((K.e_lt rfl rfl).yes (by first | omega | assumption | decide +kernel)) rfl ?_ | refine K.GL.det ((K.e_lt rfl rfl).no (by first | omega | assumption | decide +kernel)) rfl ?_ | refine K.GL.det (K.e_lt rfl rfl) rfl ?_
  refine K.GL.nil ?_
  refine K.GQ.go ?_
  refine K.GC.seq ?_
  refine K.GC.condB rfl (fun h1 => ?_) (fun h1 => ?_)
  · first
    | exact absurd h1 (by decide)
    | try replace h1 := of_decide_eq_true h1
      refine K.GC.skip ?_
      refine K.GQ.go ?_
      refine K.GC.seq ?_
      refine K.GC.block ?_
      refine K.GC.seq ?_
      refine K.GC.region ?_
      refine K.GL.det (K.e_indexAs arr43 Try.isAgg41 rfl rfl (by omega) (by omega) rfl) rfl ?_
      refine K.GL.alloc Try.zeroValue41 rfl rfl (fun b4 => ?_)
      refine K.GL.store rfl rfl rfl Try.sizeOf41 rfl rfl ?_
      refine K.GL.nil ?_
      refine K.GQ.go ?_
      refine K.GC.seq ?_
      refine K.GC.region ?_
      refine K.GL.det (K.e_loads Try.isAgg41 Try.sizeOf41 rfl rfl) rfl ?_
      refine K.GL.det (K.e_call1 Try.call24 rfl (fun w hT => fits_any _ _ _ w)) rfl ?_
      first | refine K.GL.det (K.e_notp rfl) rfl ?_ | refine K.GL.det (K.e_not rfl) rfl ?_
      refine K.GL.nil ?_
      refine K.GQ.go ?_
      refine K.GC.condB rfl (fun h2 => ?_) (fun h2 => ?_)
      · first
        | exact absurd h2 (by decide)
        | try replace h2 := of_decide_eq_true h2
          refine K.GC.seq ?_
          refine K.GC.region ?_
          refine K.GL.det (K.e_assign rfl) rfl ?_
          refine K.GL.nil ?_
          refine K.GQ.go ?_
          refine K.GC.ret ?_
          refine K.GQ.block_ret ?_
          refine K.GQ.then_ret ?_
          refine K.GQ.then_ret ?_
          refine K.GQ.block_ret ?_
          refine K.GQ.then_ret ?_
          refine K.GQ.ret1 Try.results9 rfl (fun w hT => ?_)
          exact ⟨by rw [right_fits]; simp_all, hT.nil⟩
      · first
        | exact absurd h2 (by decide)
        | try replace h2 := of_decide_eq_false h2
          refine K.GC.skip ?_
          refine K.GQ.block_normal ?_
          refine K.GQ.go ?_
          refine K.GC.region ?_
          first | refine K.GL.det (K.e_add rfl rfl ⟨by omega, by omega⟩) rfl ?_ | refine K.GL.det (K.e_addw rfl rfl) rfl ?_
          refine K.GL.det (K.e_move rfl) rfl ?_
          refine K.GL.nil ?_
          refine K.GQ.again ?_
          refine K.GR.keep [2, 4, 18, 19, 20, 21, 22, 23, 24, 25] rfl ?_
          refine K.GR.succ ?_
          refine K.GC.seq ?_
          refine K.GC.region ?_
          first | refine K.GL.det ((K.e_lt rfl rfl).yes (by first | omega | assumption | decide +kernel)) rfl ?_ | refine K.GL.det ((K.e_lt rfl rfl).no (by first | omega | assumption | decide +kernel)) rfl ?_ | refine K.GL.det (K.e_lt rfl rfl) rfl ?_
          refine K.GL.nil ?_
          refine K.GQ.go ?_
          refine K.GC.seq ?_
          refine K.GC.condB rfl (fun h3 => ?_) (fun h3 => ?_)
          · first
            | exact absurd h3 (by decide)
            | try replace h3 := of_decide_eq_true h3
              refine K.GC.skip ?_
              refine K.GQ.go ?_
              refine K.GC.seq ?_
              refine K.GC.block ?_
              refine K.GC.seq ?_
              refine K.GC.region ?_
              refine K.GL.det (K.e_indexAs arr43 Try.isAgg41 rfl rfl (by omega) (by omega) rfl) rfl ?_
              refine K.GL.alloc Try.zeroValue41 rfl rfl (fun b4 => ?_)
              refine K.GL.store rfl rfl rfl Try.sizeOf41 rfl rfl ?_
              refine K.GL.nil ?_
              refine K.GQ.go ?_
              refine K.GC.seq ?_
              refine K.GC.region ?_
              refine K.GL.det (K.e_loads Try.isAgg41 Try.sizeOf41 rfl rfl) rfl ?_
              refine K.GL.det (K.e_call1 Try.call24 rfl (fun w hT => fits_any _ _ _ w)) rfl ?_
              first | refine K.GL.det (K.e_notp rfl) rfl ?_ | refine K.GL.det (K.e_not rfl) rfl ?_
              refine K.GL.nil ?_
              refine K.GQ.go ?_
              refine K.GC.condB rfl (fun h4 => ?_) (fun h4 => ?_)
              · first
                | exact absurd h4 (by decide)
                | try replace h4 := of_decide_eq_true h4
                  refine K.GC.seq ?_
                  refine K.GC.region ?_
                  refine K.GL.det (K.e_assign rfl) rfl ?_
                  refine K.GL.nil ?_
                  refine K.GQ.go ?_
                  refine K.GC.ret ?_
                  refine K.GQ.block_ret ?_
                  refine K.GQ.then_ret ?_
                  refine K.GQ.then_ret ?_
                  refine K.GQ.block_ret ?_
                  refine K.GQ.then_ret ?_
                  refine K.GQ.ret1 Try.results9 rfl (fun w hT => ?_)
                  exact ⟨by rw [right_fits]; simp_all, hT.nil⟩
              · first
                | exact absurd h4 (by decide)
                | try replace h4 := of_decide_eq_false h4
                  refine K.GC.skip ?_
                  refine K.GQ.block_normal ?_
                  refine K.GQ.go ?_
                  refine K.GC.region ?_
                  first | refine K.GL.det (K.e_add rfl rfl ⟨by omega, by omega⟩) rfl ?_ | refine K.GL.det (K.e_addw rfl rfl) rfl ?_
                  refine K.GL.det (K.e_move rfl) rfl ?_
                  refine K.GL.nil ?_
                  refine K.GQ.again ?_
                  refine K.GR.keep [2, 4, 18, 19, 20, 21, 22, 23, 24, 25] rfl ?_
                  refine K.GR.succ ?_
                  refine K.GC.seq ?_
                  refine K.GC.region ?_
                  first | refine K.GL.det ((K.e_lt rfl rfl).yes (by first | omega | assumption | decide +kernel)) rfl ?_ | refine K.GL.det ((K.e_lt rfl rfl).no (by first | omega | assumption | decide +kernel)) rfl ?_ | refine K.GL.det (K.e_lt rfl rfl) rfl ?_
                  refine K.GL.nil ?_
                  refine K.GQ.go ?_
                  refine K.GC.seq ?_
                  refine K.GC.condB rfl (fun h5 => ?_) (fun h5 => ?_)
                  · first
                    | exact absurd h5 (by decide)
                    | try replace h5 := of_decide_eq_true h5
                      refine K.GC.skip ?_
                      refine K.GQ.go ?_
                      refine K.GC.seq ?_
                      refine K.GC.block ?_
                      refine K.GC.seq ?_
                      refine K.GC.region ?_
                      refine K.GL.det (K.e_indexAs arr43 Try.isAgg41 rfl rfl (by omega) (by omega) rfl) rfl ?_
                      refine K.GL.alloc Try.zeroValue41 rfl rfl (fun b4 => ?_)
                      refine K.GL.store rfl rfl rfl Try.sizeOf41 rfl rfl ?_
                      refine K.GL.nil ?_
                      refine K.GQ.go ?_
                      refine K.GC.seq ?_
                      refine K.GC.region ?_
                      refine K.GL.det (K.e_loads Try.isAgg41 Try.sizeOf41 rfl rfl) rfl ?_
                      refine K.GL.det (K.e_call1 Try.call24 rfl (fun w hT => fits_any _ _ _ w)) rfl ?_
                      first | refine K.GL.det (K.e_notp rfl) rfl ?_ | refine K.GL.det (K.e_not rfl) rfl ?_
                      refine K.GL.nil ?_
                      refine K.GQ.go ?_
                      refine K.GC.condB rfl (fun h6 => ?_) (fun h6 => ?_)
                      · first
                        | exact absurd h6 (by decide)
                        | try replace h6 := of_decide_eq_true h6
                          refine K.GC.seq ?_
                          refine K.GC.region ?_
                          refine K.GL.det (K.e_assign rfl) rfl ?_
                          refine K.GL.nil ?_
                          refine K.GQ.go ?_
                          refine K.GC.ret ?_
                          refine K.GQ.block_ret ?_
                          refine K.GQ.then_ret ?_
                          refine K.GQ.then_ret ?_
                          refine K.GQ.block_ret ?_
                          refine K.GQ.then_ret ?_
                          refine K.GQ.ret1 Try.results9 rfl (fun w hT => ?_)
                          exact ⟨by rw [right_fits]; simp_all, hT.nil⟩
                      · first
                        | exact absurd h6 (by decide)
                        | try replace h6 := of_decide_eq_false h6
                          refine K.GC.skip ?_
                          refine K.GQ.block_normal ?_
                          refine K.GQ.go ?_
                          refine K.GC.region ?_
                          first | refine K.GL.det (K.e_add rfl rfl ⟨by omega, by omega⟩) rfl ?_ | refine K.GL.det (K.e_addw rfl rfl) rfl ?_
                          refine K.GL.det (K.e_move rfl) rfl ?_
                          refine K.GL.nil ?_
                          refine K.GQ.again ?_
                          refine K.GR.keep [2, 4, 18, 19, 20, 21, 22, 23, 24, 25] rfl ?_
                          refine K.GR.succ ?_
                          refine K.GC.seq ?_
                          refine K.GC.region ?_
                          first | refine K.GL.det ((K.e_lt rfl rfl).yes (by first | omega | assumption | decide +kernel)) rfl ?_ | refine K.GL.det ((K.e_lt rfl rfl).no (by first | omega | assumption | decide +kernel)) rfl ?_ | refine K.GL.det (K.e_lt rfl rfl) rfl ?_
                          refine K.GL.nil ?_
                          refine K.GQ.go ?_
                          refine K.GC.seq ?_
                          refine K.GC.condB rfl (fun h7 => ?_) (fun h7 => ?_)
                          · first
                            | exact absurd h7 (by decide)
                            | try replace h7 := of_decide_eq_true h7
                              refine K.GC.skip ?_
                              refine K.GQ.go ?_
                              refine K.GC.seq ?_
                              refine K.GC.block ?_
                              refine K.GC.seq ?_
                              refine K.GC.region ?_
                              refine K.GL.det (K.e_indexAs arr43 Try.isAgg41 rfl rfl (by omega) (by omega) rfl) rfl ?_
                              refine K.GL.alloc Try.zeroValue41 rfl rfl (fun b4 => ?_)
                              refine K.GL.store rfl rfl rfl Try.sizeOf41 rfl rfl ?_
                              refine K.GL.nil ?_
                              refine K.GQ.go ?_
                              refine K.GC.seq ?_
                              refine K.GC.region ?_
                              refine K.GL.det (K.e_loads Try.isAgg41 Try.sizeOf41 rfl rfl) rfl ?_
                              refine K.GL.det (K.e_call1 Try.call24 rfl (fun w hT => fits_any _ _ _ w)) rfl ?_
                              first | refine K.GL.det (K.e_notp rfl) rfl ?_ | refine K.GL.det (K.e_not rfl) rfl ?_
                              refine K.GL.nil ?_
                              refine K.GQ.go ?_
                              refine K.GC.condB rfl (fun h8 => ?_) (fun h8 => ?_)
                              · first
                                | exact absurd h8 (by decide)
                                | try replace h8 := of_decide_eq_true h8
                                  refine K.GC.seq ?_
                                  refine K.GC.region ?_
                                  refine K.GL.det (K.e_assign rfl) rfl ?_
                                  refine K.GL.nil ?_
                                  refine K.GQ.go ?_
                                  refine K.GC.ret ?_
                                  refine K.GQ.block_ret ?_
                                  refine K.GQ.then_ret ?_
                                  refine K.GQ.then_ret ?_
                                  refine K.GQ.block_ret ?_
                                  refine K.GQ.then_ret ?_
                                  refine K.GQ.ret1 Try.results9 rfl (fun w hT => ?_)
                                  exact ⟨by rw [right_fits]; simp_all, hT.nil⟩
                              · first
                                | exact absurd h8 (by decide)
                                | try replace h8 := of_decide_eq_false h8
                                  refine K.GC.skip ?_
                                  refine K.GQ.block_normal ?_
                                  refine K.GQ.go ?_
                                  refine K.GC.region ?_
                                  first | refine K.GL.det (K.e_add rfl rfl ⟨by omega, by omega⟩) rfl ?_ | refine K.GL.det (K.e_addw rfl rfl) rfl ?_
                                  refine K.GL.det (K.e_move rfl) rfl ?_
                                  refine K.GL.nil ?_
                                  refine K.GQ.again ?_
                                  exfalso; omega
                          · first
                            | exact absurd h7 (by decide)
                            | try replace h7 := of_decide_eq_false h7
                              refine K.GC.exit ?_
                              refine K.GQ.then_exit ?_
                              refine K.GQ.then_exit ?_
                              refine K.GQ.block_hit ?_
                              refine K.GQ.go ?_
                              refine K.GC.seq ?_
                              refine K.GC.region ?_
                              refine K.GL.det (K.e_assign rfl) rfl ?_
                              refine K.GL.nil ?_
                              refine K.GQ.go ?_
                              refine K.GC.ret ?_
                              refine K.GQ.ret1 Try.results9 rfl (fun w hT => ?_)
                              exact ⟨by rw [right_fits]; simp_all, hT.nil⟩
                  · first
                    | exact absurd h5 (by decide)
                    | try replace h5 := of_decide_eq_false h5
                      refine K.GC.exit ?_
                      refine K.GQ.then_exit ?_
                      refine K.GQ.then_exit ?_
                      refine K.GQ.block_hit ?_
                      refine K.GQ.go ?_
                      refine K.GC.seq ?_
                      refine K.GC.region ?_
                      refine K.GL.det (K.e_assign rfl) rfl ?_
                      refine K.GL.nil ?_
                      refine K.GQ.go ?_
                      refine K.GC.ret ?_
                      refine K.GQ.ret1 Try.results9 rfl (fun w hT => ?_)
                      exact ⟨by rw [right_fits]; simp_all, hT.nil⟩
          · first
            | exact absurd h3 (by decide)
            | try replace h3 := of_decide_eq_false h3
              refine K.GC.exit ?_
              refine K.GQ.then_exit ?_
              refine K.GQ.then_exit ?_
              refine K.GQ.block_hit ?_
              refine K.GQ.go ?_
              refine K.GC.seq ?_
              refine K.GC.region ?_
              refine K.GL.det (K.e_assign rfl) rfl ?_
              refine K.GL.nil ?_
              refine K.GQ.go ?_
              refine K.GC.ret ?_
              refine K.GQ.ret1 Try.results9 rfl (fun w hT => ?_)
              exact ⟨by rw [right_fits]; simp_all, hT.nil⟩
  · first
    | exact absurd h1 (by decide)
    | try replace h1 := of_decide_eq_false h1
      refine K.GC.exit ?_
      refine K.GQ.then_exit ?_
      refine K.GQ.then_exit ?_
      refine K.GQ.block_hit ?_
      refine K.GQ.go ?_
      refine K.GC.seq ?_
      refine K.GC.region ?_
      refine K.GL.det (K.e_assign rfl) rfl ?_
      refine K.GL.nil ?_
      refine K.GQ.go ?_
      refine K.GC.ret ?_
      refine K.GQ.ret1 Try.results9 rfl (fun w hT => ?_)
      exact ⟨by rw [right_fits]; simp_all, hT.nil⟩
/- turntable/geom.of -/
set_option maxHeartbeats 1000000 in
set_option maxRecDepth 100000 in
theorem of_any (a b c n : Int) (w : World) :
    Calls Try.prog 26 #[.agg #[.int .i64 a, .int .i64 b, .int .i64 c], .int .i64 n] w fun e w' => e = .returned (.int .i64 (ofB a b c n)) ∧ Tr w [] w' [] := by
  refine K.enter0 (args := [_, _]) Try.func26 rfl Try.ntmps26 rfl ?_
  refine K.GC.seq ?_
  refine K.GC.region ?_
  refine K.GL.box rfl rfl rfl (fun b2 => ?_)
  refine K.GL.det (K.e_assign rfl) rfl ?_
  refine K.GL.nil ?_
  refine K.GQ.go ?_
  refine K.GC.seq ?_
  refine K.GC.seq ?_
  refine K.GC.region ?_
  refine K.GL.det (K.e_loads Try.isAgg23 Try.sizeOf23 rfl rfl) rfl ?_
  refine K.GL.det (K.e_call1 Try.call9 rfl (fun w hT => right_any _ _ _ w)) rfl ?_
  first | refine K.GL.det (K.e_notp rfl) rfl ?_ | refine K.GL.det (K.e_not rfl) rfl ?_
  refine K.GL.nil ?_
  refine K.GQ.go ?_
  refine K.GC.condB rfl (fun h1 => ?_) (fun h1 => ?_)
  · first
    | exact absurd h1 (by decide)
    | try replace h1 := of_decide_eq_true h1
      refine K.GC.seq ?_
      refine K.GC.region ?_
      refine K.GL.det (K.e_assign rfl) rfl ?_
      refine K.GL.nil ?_
      refine K.GQ.go ?_
      refine K.GC.ret ?_
      refine K.GQ.then_ret ?_
      refine K.GQ.ret1 Try.results26 rfl (fun w hT => ?_)
      exact ⟨by unfold ofB; simp_all, hT.nil⟩
  · first
    | exact absurd h1 (by decide)
    | try replace h1 := of_decide_eq_false h1
      refine K.GC.skip ?_
      refine K.GQ.go ?_
      refine K.GC.seq ?_
      refine K.GC.region ?_
      refine K.GL.det (K.e_move rfl) rfl ?_
      refine K.GL.det (K.e_assign rfl) rfl ?_
      refine K.GL.nil ?_
      refine K.GQ.go ?_
      refine K.GC.ret ?_
      refine K.GQ.ret1 Try.results26 rfl (fun w hT => ?_)
      exact ⟨by unfold ofB; simp_all, hT.nil⟩
/- turntable/geom.Size -/
set_option maxHeartbeats 1000000 in
set_option maxRecDepth 100000 in
theorem size_any (a b c : Int) (w : World) :
    Calls Try.prog 11 #[.agg #[.int .i64 a, .int .i64 b, .int .i64 c]] w fun e w' => e = .returned (.int .i64 (sizeP a b c)) ∧ Tr w [] w' [] := by
  refine K.enter0 (args := [_]) Try.func11 rfl Try.ntmps11 rfl ?_
  refine K.GC.seq ?_
  refine K.GC.region ?_
  refine K.GL.box rfl rfl rfl (fun b1 => ?_)
  refine K.GL.det (K.e_assign rfl) rfl ?_
  refine K.GL.nil ?_
  refine K.GQ.go ?_
  refine K.GC.seq ?_
  refine K.GC.region ?_
  refine K.GL.det (K.e_loads Try.isAgg23 Try.sizeOf23 rfl rfl) rfl ?_
  refine K.GL.det (K.e_fieldAddr fo23_0 rfl) rfl ?_
  first | refine K.GL.det (K.e_load Try.isAgg3 rfl rfl) rfl ?_ | refine K.GL.det (K.e_load0 Try.isAgg3 rfl (by assumption)) rfl ?_
  refine K.GL.det (K.e_fieldAddr fo23_1 rfl) rfl ?_
  first | refine K.GL.det (K.e_load Try.isAgg3 rfl rfl) rfl ?_ | refine K.GL.det (K.e_load0 Try.isAgg3 rfl (by assumption)) rfl ?_
  first | refine K.GL.det (K.e_mul rfl rfl ⟨by omega, by omega⟩) rfl ?_ | refine K.GL.det (K.e_mulw rfl rfl) rfl ?_
  first | refine K.GL.det (K.e_add rfl rfl ⟨by omega, by omega⟩) rfl ?_ | refine K.GL.det (K.e_addw rfl rfl) rfl ?_
  refine K.GL.det (K.e_call1 Try.call26 rfl (fun w hT => of_any _ _ _ _ w)) rfl ?_
  refine K.GL.det (K.e_assign rfl) rfl ?_
  refine K.GL.nil ?_
  refine K.GQ.go ?_
  refine K.GC.ret ?_
  refine K.GQ.ret1 Try.results11 rfl (fun w hT => ?_)
  exact ⟨by rw [size_eq], hT.nil⟩
/- turntable/geom.First -/
set_option maxHeartbeats 1000000 in
set_option maxRecDepth 100000 in
theorem first_any (a b c x : Int) (w : World) (hi : I64 a) :
    Calls Try.prog 13 #[.agg #[.int .i64 a, .int .i64 b, .int .i64 c], .int .i64 x] w fun e w' => e = .returned (.int .i64 (firstP a b c x)) ∧ Tr w [] w' [] := by
  obtain ⟨hi1, hi2⟩ := hi
  rcases (by omega : a < 4 ∨ 4 ≤ a) with ha | ha
  all_goals
  refine K.enter0 (args := [_, _]) Try.func13 rfl Try.ntmps13 rfl ?_
  refine K.GC.seq ?_
  refine K.GC.region ?_
  refine K.GL.box rfl rfl rfl (fun b2 => ?_)
  refine K.GL.det (K.e_assign rfl) rfl ?_
  refine K.GL.nil ?_
  refine K.GQ.go ?_
  refine K.GC.seq ?_
  refine K.GC.seq ?_
  refine K.GC.region ?_
  refine K.GL.det (K.e_move rfl) rfl ?_
  refine K.GL.det (K.e_fieldAddr fo23_0 rfl) rfl ?_
  first | refine K.GL.det (K.e_load Try.isAgg3 rfl rfl) rfl ?_ | refine K.GL.det (K.e_load0 Try.isAgg3 rfl (by assumption)) rfl ?_
  first | refine K.GL.det (K.e_sub rfl rfl ⟨by omega, by omega⟩) rfl ?_ | refine K.GL.det (K.e_subw rfl rfl) rfl ?_
  refine K.GL.det (K.e_build lay41 rfl) rfl ?_
  refine K.GL.alloc Try.zeroValue41 rfl rfl (fun b5 => ?_)
  refine K.GL.store rfl rfl rfl Try.sizeOf41 rfl rfl ?_
  refine K.GL.nil ?_
  refine K.GQ.go ?_
  refine K.GC.seq ?_
  refine K.GC.region ?_
  refine K.GL.det (K.e_loads Try.isAgg41 Try.sizeOf41 rfl rfl) rfl ?_
  refine K.GL.det (K.e_call1 Try.call24 rfl (fun w hT => fits_any _ _ _ w)) rfl ?_
  first | refine K.GL.det (K.e_notp rfl) rfl ?_ | refine K.GL.det (K.e_not rfl) rfl ?_
  refine K.GL.nil ?_
  refine K.GQ.go ?_
  refine K.GC.condB rfl (fun h1 => ?_) (fun h1 => ?_)
  · first
    | exact absurd h1 (by decide)
    | try replace h1 := of_decide_eq_true h1
      refine K.GC.seq ?_
      refine K.GC.region ?_
      refine K.GL.det (K.e_assign rfl) rfl ?_
      refine K.GL.nil ?_
      refine K.GQ.go ?_
      refine K.GC.ret ?_
      refine K.GQ.then_ret ?_
      refine K.GQ.ret1 Try.results13 rfl (fun w hT => ?_)
      first | exact ⟨by rw [first_eq _ _ _ _ (fits_yes ‹_›)], hT.nil⟩ | exact ⟨by rw [first_out _ _ _ _ (fits_no ‹_›)], hT.nil⟩ | exact ⟨by rw [wrong_of ‹_›, wrong_first ‹_›], hT.nil⟩ | exact ⟨by rw [wrong_first ‹_›], hT.nil⟩
  · first
    | exact absurd h1 (by decide)
    | try replace h1 := of_decide_eq_false h1
      refine K.GC.skip ?_
      refine K.GQ.go ?_
      refine K.GC.seq ?_
      refine K.GC.region ?_
      refine K.GL.det (K.e_loads Try.isAgg23 Try.sizeOf23 rfl rfl) rfl ?_
      refine K.GL.det (K.e_move rfl) rfl ?_
      refine K.GL.det (K.e_fieldAddr fo23_1 rfl) rfl ?_
      first | refine K.GL.det (K.e_load Try.isAgg3 rfl rfl) rfl ?_ | refine K.GL.det (K.e_load0 Try.isAgg3 rfl (by assumption)) rfl ?_
      first | refine K.GL.det (K.e_mul rfl rfl ⟨by omega, by omega⟩) rfl ?_ | refine K.GL.det (K.e_mulw rfl rfl) rfl ?_
      first | refine K.GL.det (K.e_add rfl rfl ⟨by omega, by omega⟩) rfl ?_ | refine K.GL.det (K.e_addw rfl rfl) rfl ?_
      refine K.GL.det (K.e_call1 Try.call26 rfl (fun w hT => of_any _ _ _ _ w)) rfl ?_
      refine K.GL.det (K.e_assign rfl) rfl ?_
      refine K.GL.nil ?_
      refine K.GQ.go ?_
      refine K.GC.ret ?_
      refine K.GQ.ret1 Try.results13 rfl (fun w hT => ?_)
      first | exact ⟨by rw [first_eq _ _ _ _ (fits_yes ‹_›)], hT.nil⟩ | exact ⟨by rw [first_out _ _ _ _ (fits_no ‹_›)], hT.nil⟩ | exact ⟨by rw [wrong_of ‹_›, wrong_first ‹_›], hT.nil⟩ | exact ⟨by rw [wrong_first ‹_›], hT.nil⟩
/- turntable/geom.Room -/
set_option maxHeartbeats 1000000 in
set_option maxRecDepth 100000 in
theorem groom_any (a b c : Int) (w : World) :
    Calls Try.prog 15 #[.agg #[.int .i64 a, .int .i64 b, .int .i64 c]] w fun e w' => e = .returned (.int .i64 (roomP a b c)) ∧ Tr w [] w' [] := by
  refine K.enter0 (args := [_]) Try.func15 rfl Try.ntmps15 rfl ?_
  refine K.GC.seq ?_
  refine K.GC.region ?_
  refine K.GL.box rfl rfl rfl (fun b1 => ?_)
  refine K.GL.det (K.e_assign rfl) rfl ?_
  refine K.GL.nil ?_
  refine K.GQ.go ?_
  refine K.GC.seq ?_
  refine K.GC.drawn 6 [[], [], [1], [1, 2], [0, 1, 2, 3], [0, 1, 2, 3, 4]] [[], [], [1], [2], [0, 3], [4]] [1] (by kernel_rfl) (by kernel_rfl) rfl ?_
  refine K.DW.det rfl (fun vs => K.e_loads Try.isAgg23 Try.sizeOf23 rfl rfl) ?_
  refine K.DW.det rfl (fun vs => K.e_fieldAddr fo23_1 rfl) ?_
  first | refine K.DW.det rfl (fun vs => K.e_load Try.isAgg3 rfl rfl) ?_ | refine K.DW.det rfl (fun vs => K.e_load0 Try.isAgg3 rfl (by assumption)) ?_
  refine K.DW.det rfl (fun vs => K.e_call1 Try.call23 rfl (fun w hT => room_any _ w)) ?_
  refine K.DW.det rfl (fun vs => K.e_call1 Try.call26 rfl (fun w hT => of_any _ _ _ _ w)) ?_
  refine K.DW.det rfl (fun vs => K.e_assign rfl) ?_
  refine K.DW.fin0 rfl (fun vs => ?_)
  refine K.GL.keep [2] rfl ?_
  clear vs
  refine K.GL.nil ?_
  refine K.GQ.go ?_
  refine K.GC.ret ?_
  refine K.GQ.ret1 Try.results15 rfl (fun w hT => ?_)
  exact ⟨by rw [room_eq], hT.nil⟩
/- turntable/geom.Budget -/
set_option maxHeartbeats 1000000 in
set_option maxRecDepth 100000 in
theorem budget_any (a b c : Int) (w : World) :
    Calls Try.prog 17 #[.agg #[.int .i64 a, .int .i64 b, .int .i64 c]] w fun e w' => e = .returned (.int .i64 (budgetP a b c)) ∧ Tr w [] w' [] := by
  refine K.enter0 (args := [_]) Try.func17 rfl Try.ntmps17 rfl ?_
  refine K.GC.seq ?_
  refine K.GC.region ?_
  refine K.GL.box rfl rfl rfl (fun b1 => ?_)
  refine K.GL.det (K.e_assign rfl) rfl ?_
  refine K.GL.nil ?_
  refine K.GQ.go ?_
  refine K.GC.seq ?_
  refine K.GC.drawn 18 [[], [], [1], [1, 2], [], [4], [], [6], [4, 5, 6, 7], [1, 2, 3, 4, 5, 6, 7, 8], [4, 5], [], [11], [4, 5, 10, 11, 12], [1, 2, 3, 4, 5, 6, 7, 8, 9, 10, 11, 12, 13], [1, 2, 3, 4, 5, 6, 7, 8, 9, 10, 11, 12, 13, 14], [0, 1, 2, 3, 4, 5, 6, 7, 8, 9, 10, 11, 12, 13, 14, 15], [0, 1, 2, 3, 4, 5, 6, 7, 8, 9, 10, 11, 12, 13, 14, 15, 16]] [[], [], [1], [2], [], [4], [], [6], [5, 7], [3, 8], [], [], [11], [10, 12], [9, 13], [14], [0, 15], [16]] [1] (by kernel_rfl) (by kernel_rfl) rfl ?_
  refine K.DW.det rfl (fun vs => K.e_loads Try.isAgg23 Try.sizeOf23 rfl rfl) ?_
  refine K.DW.det rfl (fun vs => K.e_fieldAddr fo23_0 rfl) ?_
  first | refine K.DW.det rfl (fun vs => K.e_load Try.isAgg3 rfl rfl) ?_ | refine K.DW.det rfl (fun vs => K.e_load0 Try.isAgg3 rfl (by assumption)) ?_
  refine K.DW.det rfl (fun vs => K.e_subw rfl rfl) ?_
  refine K.DW.det rfl (fun vs => K.e_loads Try.isAgg23 Try.sizeOf23 rfl rfl) ?_
  refine K.DW.det rfl (fun vs => K.e_call1 Try.call15 rfl (fun w hT => groom_any _ _ _ w)) ?_
  refine K.DW.det rfl (fun vs => K.e_fieldAddr fo23_2 rfl) ?_
  first | refine K.DW.det rfl (fun vs => K.e_load Try.isAgg3 rfl rfl) ?_ | refine K.DW.det rfl (fun vs => K.e_load0 Try.isAgg3 rfl (by assumption)) ?_
  refine K.DW.det rfl (fun vs => K.e_subw rfl rfl) ?_
  refine K.DW.det rfl (fun vs => K.e_mulw rfl rfl) ?_
  refine K.DW.det rfl (fun vs => K.Ev.cast_int (b := 57) (K.e_call1 Try.call23 rfl (fun w hT => room_any _ w)) (by decide +kernel)) ?_
  refine K.DW.det rfl (fun vs => K.e_fieldAddr fo23_0 rfl) ?_
  first | refine K.DW.det rfl (fun vs => K.e_load Try.isAgg3 rfl rfl) ?_ | refine K.DW.det rfl (fun vs => K.e_load0 Try.isAgg3 rfl (by assumption)) ?_
  refine K.DW.det rfl (fun vs => K.e_mulw rfl rfl) ?_
  refine K.DW.det rfl (fun vs => K.e_subw rfl rfl) ?_
  refine K.DW.det rfl (fun vs => K.e_max rfl rfl) ?_
  refine K.DW.det rfl (fun vs => K.e_call1 Try.call26 rfl (fun w hT => of_any _ _ _ _ w)) ?_
  refine K.DW.det rfl (fun vs => K.e_assign rfl) ?_
  refine K.DW.fin0 rfl (fun vs => ?_)
  refine K.GL.keep [2] rfl ?_
  clear vs
  refine K.GL.nil ?_
  refine K.GQ.go ?_
  refine K.GC.ret ?_
  refine K.GQ.ret1 Try.results17 rfl (fun w hT => ?_)
  exact ⟨by rw [← budget_eq], hT.nil⟩
theorem lay31 : K.layout Try.prog 31 = some ([.int .i64 0, .int .i64 0, .slice none 0 0], [(0, 1), (1, 1), (2, 1)]) := by kernel_rfl
theorem mk29 : K.mkOf Try.prog 29 = some (45, [.int .i64 0, .int .i64 0], 16) := by kernel_rfl
/- turntable/geom.Blank -/
set_option maxHeartbeats 1000000 in
set_option maxRecDepth 100000 in
theorem blank_yes (a b c : Int) (w : World) (hr : rightB a b c = true) :
    Calls Try.prog 20 #[.agg #[.int .i64 a, .int .i64 b, .int .i64 c]] w fun e w' => ∃ v, e = .returned v ∧ (∃ bl, v = tabV bl a.toNat) ∧ Tr w [] w' [tabR a.toNat v] := by
  have hb := (right_iff a b c).1 hr
  refine K.enter0 (args := [_]) Try.func20 rfl Try.ntmps20 rfl ?_
  refine K.GC.seq ?_
  refine K.GC.region ?_
  refine K.GL.box rfl rfl rfl (fun b1 => ?_)
  refine K.GL.alloc Try.zeroValue31 rfl rfl (fun b2 => ?_)
  refine K.GL.nil ?_
  refine K.GQ.go ?_
  refine K.GC.seq ?_
  refine K.GC.seq ?_
  refine K.GC.region ?_
  refine K.GL.det (K.e_loads Try.isAgg23 Try.sizeOf23 rfl rfl) rfl ?_
  refine K.GL.det (K.e_call1 Try.call9 rfl (fun w hT => right_any _ _ _ w)) rfl ?_
  first | refine K.GL.det ((K.e_not rfl).cast_bool (b := false) (by rw [hr]; rfl)) rfl ?_ | refine K.GL.det ((K.e_not rfl).cast_bool (b := true) (by rw [hr]; rfl)) rfl ?_ | refine K.GL.det (K.e_notp rfl) rfl ?_ | refine K.GL.det (K.e_not rfl) rfl ?_
  refine K.GL.nil ?_
  refine K.GQ.go ?_
  refine K.GC.condB rfl (fun h1 => ?_) (fun h1 => ?_)
  · first
    | exact absurd h1 (by decide)
    | try replace h1 := of_decide_eq_true h1
      refine K.GC.seq ?_
      refine K.GC.region ?_
      refine K.GL.det (K.e_build lay31 rfl) rfl ?_
      refine K.GL.store rfl rfl rfl Try.sizeOf31 rfl rfl ?_
      refine K.GL.nil ?_
      refine K.GQ.go ?_
      refine K.GC.ret ?_
      refine K.GQ.then_ret ?_
      refine K.GQ.retc Try.results20 Try.isAgg31 Try.sizeOf31 rfl rfl (fun w hT => ?_)
      exact ⟨_, rfl, ⟨_, rfl⟩, hT.sub (K.Sub.pick1 (k := 0) rfl)⟩
  · first
    | exact absurd h1 (by decide)
    | try replace h1 := of_decide_eq_false h1
      refine K.GC.skip ?_
      refine K.GQ.go ?_
      refine K.GC.seq ?_
      refine K.GC.region ?_
      refine K.GL.det (K.e_fieldAddr fo23_0 rfl) rfl ?_
      first | refine K.GL.det (K.e_load Try.isAgg3 rfl rfl) rfl ?_ | refine K.GL.det (K.e_load0 Try.isAgg3 rfl (by assumption)) rfl ?_
      refine K.GL.make mk29 rfl rfl (by omega) (by omega) (by omega) (by omega) rfl (fun b9 => ?_)
      refine K.GL.det (K.e_build lay31 rfl) rfl ?_
      refine K.GL.store rfl rfl rfl Try.sizeOf31 rfl rfl ?_
      refine K.GL.nil ?_
      refine K.GQ.go ?_
      refine K.GC.ret ?_
      refine K.GQ.retc Try.results20 Try.isAgg31 Try.sizeOf31 rfl rfl (fun w hT => ?_)
      exact ⟨_, rfl, ⟨_, rfl⟩, hT.sub (K.Sub.pick1 (k := 0) rfl)⟩
/- turntable/geom.Blank -/
set_option maxHeartbeats 1000000 in
set_option maxRecDepth 100000 in
theorem blank_no (a b c : Int) (w : World) (hr : rightB a b c = false) :
    Calls Try.prog 20 #[.agg #[.int .i64 a, .int .i64 b, .int .i64 c]] w fun e w' => e = .returned tab0 ∧ Tr w [] w' [] := by
  refine K.enter0 (args := [_]) Try.func20 rfl Try.ntmps20 rfl ?_
  refine K.GC.seq ?_
  refine K.GC.region ?_
  refine K.GL.box rfl rfl rfl (fun b1 => ?_)
  refine K.GL.alloc Try.zeroValue31 rfl rfl (fun b2 => ?_)
  refine K.GL.nil ?_
  refine K.GQ.go ?_
  refine K.GC.seq ?_
  refine K.GC.seq ?_
  refine K.GC.region ?_
  refine K.GL.det (K.e_loads Try.isAgg23 Try.sizeOf23 rfl rfl) rfl ?_
  refine K.GL.det (K.e_call1 Try.call9 rfl (fun w hT => right_any _ _ _ w)) rfl ?_
  first | refine K.GL.det ((K.e_not rfl).cast_bool (b := false) (by rw [hr]; rfl)) rfl ?_ | refine K.GL.det ((K.e_not rfl).cast_bool (b := true) (by rw [hr]; rfl)) rfl ?_ | refine K.GL.det (K.e_notp rfl) rfl ?_ | refine K.GL.det (K.e_not rfl) rfl ?_
  refine K.GL.nil ?_
  refine K.GQ.go ?_
  refine K.GC.condB rfl (fun h1 => ?_) (fun h1 => ?_)
  · first
    | exact absurd h1 (by decide)
    | try replace h1 := of_decide_eq_true h1
      refine K.GC.seq ?_
      refine K.GC.region ?_
      refine K.GL.det (K.e_build lay31 rfl) rfl ?_
      refine K.GL.store rfl rfl rfl Try.sizeOf31 rfl rfl ?_
      refine K.GL.nil ?_
      refine K.GQ.go ?_
      refine K.GC.ret ?_
      refine K.GQ.then_ret ?_
      refine K.GQ.retc Try.results20 Try.isAgg31 Try.sizeOf31 rfl rfl (fun w hT => ?_)
      exact ⟨rfl, hT.nil⟩
  · first
    | exact absurd h1 (by decide)
    | try replace h1 := of_decide_eq_false h1
      refine K.GC.skip ?_
      refine K.GQ.go ?_
      refine K.GC.seq ?_
      refine K.GC.region ?_
      refine K.GL.det (K.e_fieldAddr fo23_0 rfl) rfl ?_
      first | refine K.GL.det (K.e_load Try.isAgg3 rfl rfl) rfl ?_ | refine K.GL.det (K.e_load0 Try.isAgg3 rfl (by assumption)) rfl ?_
      refine K.GL.make mk29 rfl rfl (by omega) (by omega) (by omega) (by omega) rfl (fun b9 => ?_)
      refine K.GL.det (K.e_build lay31 rfl) rfl ?_
      refine K.GL.store rfl rfl rfl Try.sizeOf31 rfl rfl ?_
      refine K.GL.nil ?_
      refine K.GQ.go ?_
      refine K.GC.ret ?_
      refine K.GQ.retc Try.results20 Try.isAgg31 Try.sizeOf31 rfl rfl (fun w hT => ?_)
      exact ⟨rfl, hT.nil⟩
/- turntable/turntableref11.Room -/
set_option maxHeartbeats 1000000 in
set_option maxRecDepth 100000 in
theorem rroom_any (a : Int) (w : World) :
    Calls Try.prog 25 #[.int .i64 a] w fun e w' => e = .returned (.int .i64 (roomOf a)) ∧ Tr w [] w' [] := by
  refine K.enter0 (args := [_]) Try.func25 rfl Try.ntmps25 rfl ?_
  refine K.GC.seq ?_
  refine K.GC.region ?_
  refine K.GL.det (K.e_assign rfl) rfl ?_
  refine K.GL.nil ?_
  refine K.GQ.go ?_
  refine K.GC.seq ?_
  refine K.GC.seq ?_
  refine K.GC.region ?_
  refine K.GL.det (K.e_move rfl) rfl ?_
  first | refine K.GL.det ((K.e_lt rfl rfl).yes (by first | omega | assumption | decide +kernel)) rfl ?_ | refine K.GL.det ((K.e_lt rfl rfl).no (by first | omega | assumption | decide +kernel)) rfl ?_ | refine K.GL.det (K.e_lt rfl rfl) rfl ?_
  refine K.GL.det (K.e_move rfl) rfl ?_
  first | refine K.GL.splitB 5 rfl (fun h1 => ?_) (fun h1 => ?_) | skip
  all_goals first | exact absurd h1 (by decide) | replace h1 := of_decide_eq_true h1 | replace h1 := of_decide_eq_false h1 | skip
  all_goals
    first | (refine K.GL.want 5 rfl rfl rfl ?_; first | refine K.GL.det (K.e_move rfl) rfl ?_) | refine K.GL.skip 5 rfl rfl rfl rfl ?_ | refine K.GL.skipU 5 rfl rfl rfl rfl ?_
    first | (refine K.GL.want 5 rfl rfl rfl ?_; first | refine K.GL.det ((K.e_gt rfl rfl).yes (by first | omega | assumption | decide +kernel)) rfl ?_ | refine K.GL.det ((K.e_gt rfl rfl).no (by first | omega | assumption | decide +kernel)) rfl ?_ | refine K.GL.det (K.e_gt rfl rfl) rfl ?_) | refine K.GL.skip 5 rfl rfl rfl rfl ?_ | refine K.GL.skipU 5 rfl rfl rfl rfl ?_
    first | refine K.GL.det (K.e_pick_t rfl rfl) rfl ?_ | refine K.GL.det (K.e_pick_f rfl rfl) rfl ?_
    refine K.GL.nil ?_
    refine K.GQ.go ?_
    refine K.GC.condB rfl (fun h2 => ?_) (fun h2 => ?_)
    · first
      | exact absurd h2 (by decide)
      | try replace h2 := of_decide_eq_true h2
        refine K.GC.seq ?_
        refine K.GC.region ?_
        refine K.GL.det (K.e_assign rfl) rfl ?_
        refine K.GL.nil ?_
        refine K.GQ.go ?_
        refine K.GC.ret ?_
        refine K.GQ.then_ret ?_
        refine K.GQ.ret1 Try.results25 rfl (fun w hT => ?_)
        exact ⟨by unfold roomOf; simp; omega, hT.nil⟩
    · first
      | exact absurd h2 (by decide)
      | try replace h2 := of_decide_eq_false h2
        refine K.GC.skip ?_
        refine K.GQ.go ?_
        refine K.GC.seq ?_
        refine K.GC.region ?_
        refine K.GL.det (K.e_move rfl) rfl ?_
        first | refine K.GL.det (K.e_mul rfl rfl ⟨by omega, by omega⟩) rfl ?_ | refine K.GL.det (K.e_mulw rfl rfl) rfl ?_
        refine K.GL.det (K.e_assign rfl) rfl ?_
        refine K.GL.nil ?_
        refine K.GQ.go ?_
        refine K.GC.ret ?_
        refine K.GQ.ret1 Try.results25 rfl (fun w hT => ?_)
        exact ⟨by unfold roomOf; simp; omega, hT.nil⟩
/- turntable/turntableref17.Right -/
set_option maxHeartbeats 1000000 in
set_option maxRecDepth 100000 in
theorem rright_any (a b c : Int) (w : World) :
    Calls Try.prog 10 #[.agg #[.int .i64 a, .int .i64 b, .int .i64 c]] w fun e w' => e = .returned (.bool (rightB a b c)) ∧ Tr w [] w' [] := by
  refine K.enter0 (args := [_]) Try.func10 rfl Try.ntmps10 rfl ?_
  refine K.GC.seq ?_
  refine K.GC.region ?_
  refine K.GL.box rfl rfl rfl (fun b1 => ?_)
  refine K.GL.det (K.e_assign rfl) rfl ?_
  refine K.GL.nil ?_
  refine K.GQ.go ?_
  refine K.GC.seq ?_
  refine K.GC.drawn 37 [[], [0], [0, 1], [0, 1, 2], [0, 1, 2, 3], [0, 1, 2, 3, 4], [0, 1, 2, 3, 4, 5], [0, 1, 2, 3, 4, 5, 6], [0, 1, 2, 3, 4, 5, 6, 7], [0, 1, 2, 3, 4, 5, 6, 7, 8], [0, 1, 2, 3, 4, 5, 6, 7, 8, 9], [0, 1, 2, 3, 4, 5, 6, 7, 8, 9, 10], [0, 1, 2, 3, 4, 5, 6, 7, 8, 9, 10, 11], [0, 1, 2, 3, 4, 5, 6, 7, 8, 9, 10, 11, 12], [0, 1, 2, 3, 4, 5, 6, 7, 8, 9, 10, 11, 12, 13], [0, 1, 2, 3, 4, 5, 6, 7, 8, 9, 10, 11, 12, 13, 14], [0, 1, 2, 3, 4, 5, 6, 7, 8, 9, 10, 11, 12, 13, 14, 15], [0, 1, 2, 3, 4, 5, 6, 7, 8, 9, 10, 11, 12, 13, 14, 15, 16], [0, 1, 2, 3, 4, 5, 6, 7, 8, 9, 10, 11, 12, 13, 14, 15, 16, 17], [0, 1, 2, 3, 4, 5, 6, 7, 8, 9, 10, 11, 12, 13, 14, 15, 16, 17, 18], [0, 1, 2, 3, 4, 5, 6, 7, 8, 9, 10, 11, 12, 13, 14, 15, 16, 17, 18, 19], [0, 1, 2, 3, 4, 5, 6, 7, 8, 9, 10, 11, 12, 13, 14, 15, 16, 17, 18, 19, 20], [0, 1, 2, 3, 4, 5, 6, 7, 8, 9, 10, 11, 12, 13, 14, 15, 16, 17, 18, 19, 20, 21], [0, 1, 2, 3, 4, 5, 6, 7, 8, 9, 10, 11, 12, 13, 14, 15, 16, 17, 18, 19, 20, 21, 22], [0, 1, 2, 3, 4, 5, 6, 7, 8, 9, 10, 11, 12, 13, 14, 15, 16, 17, 18, 19, 20, 21, 22, 23], [0, 1, 2, 3, 4, 5, 6, 7, 8, 9, 10, 11, 12, 13, 14, 15, 16, 17, 18, 19, 20, 21, 22, 23, 24], [0, 1, 2, 3, 4, 5, 6, 7, 8, 9, 10, 11, 12, 13, 14, 15, 16, 17, 18, 19, 20, 21, 22, 23], [0, 1, 2, 3, 4, 5, 6, 7, 8, 9, 10, 11, 12, 13, 14, 15, 16, 17, 18, 19, 20, 21, 22, 23, 26], [0, 1, 2, 3, 4, 5, 6, 7, 8, 9, 10, 11, 12, 13, 14, 15, 16, 17, 18, 19, 20, 21, 22, 23, 26, 27], [0, 1, 2, 3, 4, 5, 6, 7, 8, 9, 10, 11, 12, 13, 14, 15, 16, 17, 18, 19, 20, 21, 22, 23, 24, 25, 26, 27, 28], [0, 1, 2, 3, 4, 5, 6, 7, 8, 9, 10, 11, 12, 13, 14, 15, 16, 17, 18, 19, 20, 21, 22, 23, 24, 25, 26, 27, 28, 29], [0, 1, 2, 3, 4, 5, 6, 7, 8, 9, 10, 11, 12, 13, 14, 15, 16, 17, 18, 19, 20, 21, 22, 23, 24, 25, 26, 27, 28, 29, 30], [0, 1, 2, 3, 4, 5, 6, 7, 8, 9, 10, 11, 12, 13, 14, 15, 16, 17, 18, 19, 20, 21, 22, 23, 24, 25, 26, 27, 28, 29, 30, 31], [0, 1, 2, 3, 4, 5, 6, 7, 8, 9, 10, 11, 12, 13, 14, 15, 16, 17, 18, 19, 20, 21, 22, 23, 24, 25, 26, 27, 28, 29, 30, 31, 32], [0, 1, 2, 3, 4, 5, 6, 7, 8, 9, 10, 11, 12, 13, 14, 15, 16, 17, 18, 19, 20, 21, 22, 23, 24, 25, 26, 27, 28, 29, 30, 31, 32, 33], [0, 1, 2, 3, 4, 5, 6, 7, 8, 9, 10, 11, 12, 13, 14, 15, 16, 17, 18, 19, 20, 21, 22, 23, 24, 25, 26, 27, 28, 29, 30, 31, 32, 33, 34], [0, 1, 2, 3, 4, 5, 6, 7, 8, 9, 10, 11, 12, 13, 14, 15, 16, 17, 18, 19, 20, 21, 22, 23, 24, 25, 26, 27, 28, 29, 30, 31, 32, 33, 34, 35]] [[], [0], [1], [2], [3], [3, 4], [3, 5], [3, 6], [7], [8], [8, 9], [8, 10], [8, 11], [12], [13], [13, 14], [13, 15], [13, 16], [17], [18], [18, 19], [18, 20], [18, 21], [22], [23], [23, 24], [23], [23, 26], [23, 27], [23, 25, 28], [23, 29], [30], [31], [31, 32], [31, 33], [31, 34], [35]] [1] (by kernel_rfl) (by kernel_rfl) rfl ?_
  rcases (by omega : a < 4 ∨ (4 ≤ a ∧ 8 < a) ∨ (4 ≤ a ∧ a ≤ 8 ∧ b < 1) ∨ (4 ≤ a ∧ a ≤ 8 ∧ 1 ≤ b ∧ 64 < b) ∨ (4 ≤ a ∧ a ≤ 8 ∧ 1 ≤ b ∧ b ≤ 64 ∧ c < 64) ∨ (4 ≤ a ∧ a ≤ 8 ∧ 1 ≤ b ∧ b ≤ 64 ∧ 64 ≤ c ∧ 57 * b < c) ∨ (4 ≤ a ∧ a ≤ 8 ∧ 1 ≤ b ∧ b ≤ 64 ∧ 64 ≤ c ∧ c ≤ 57 * b ∧ 3600 < c) ∨ (4 ≤ a ∧ a ≤ 8 ∧ 1 ≤ b ∧ b ≤ 64 ∧ 64 ≤ c ∧ c ≤ 57 * b ∧ c ≤ 3600)) with h | h | h | h | h | h | h | h
  all_goals try have hq := room_in b (by omega) (by omega)
  all_goals
    refine K.DW.det rfl (fun vs => K.e_fieldAddr fo23_0 rfl) ?_
    first | refine K.DW.det rfl (fun vs => K.e_load Try.isAgg3 rfl rfl) ?_ | refine K.DW.det rfl (fun vs => K.e_load0 Try.isAgg3 rfl (by assumption)) ?_
    first | refine K.DW.det rfl (fun vs => (K.e_ge rfl rfl).yes (by first | omega | assumption | decide +kernel)) ?_ | refine K.DW.det rfl (fun vs => (K.e_ge rfl rfl).no (by first | omega | assumption | decide +kernel)) ?_ | refine K.DW.det rfl (fun vs => K.e_ge rfl rfl) ?_
    refine K.DW.det rfl (fun vs => K.e_move rfl) ?_
    first | (refine K.DW.want (fun _ => rfl) ?_; first | refine K.DW.det rfl (fun vs => K.e_fieldAddr fo23_0 rfl) ?_) | refine K.DW.skip (fun _ => rfl) ?_
    first | (refine K.DW.want (fun _ => rfl) ?_; first | refine K.DW.det rfl (fun vs => K.e_load Try.isAgg3 rfl rfl) ?_ | refine K.DW.det rfl (fun vs => K.e_load0 Try.isAgg3 rfl (by assumption)) ?_) | refine K.DW.skip (fun _ => rfl) ?_
    first | (refine K.DW.want (fun _ => rfl) ?_; first | refine K.DW.det rfl (fun vs => (K.e_le rfl rfl).yes (by first | omega | assumption | decide +kernel)) ?_ | refine K.DW.det rfl (fun vs => (K.e_le rfl rfl).no (by first | omega | assumption | decide +kernel)) ?_ | refine K.DW.det rfl (fun vs => K.e_le rfl rfl) ?_) | refine K.DW.skip (fun _ => rfl) ?_
    first | refine K.DW.det rfl (fun vs => K.e_pick_t rfl rfl) ?_ | refine K.DW.det rfl (fun vs => K.e_pick_f rfl rfl) ?_
    refine K.DW.det rfl (fun vs => K.e_move rfl) ?_
    first | (refine K.DW.want (fun _ => rfl) ?_; first | refine K.DW.det rfl (fun vs => K.e_fieldAddr fo23_1 rfl) ?_) | refine K.DW.skip (fun _ => rfl) ?_
    first | (refine K.DW.want (fun _ => rfl) ?_; first | refine K.DW.det rfl (fun vs => K.e_load Try.isAgg3 rfl rfl) ?_ | refine K.DW.det rfl (fun vs => K.e_load0 Try.isAgg3 rfl (by assumption)) ?_) | refine K.DW.skip (fun _ => rfl) ?_
    first | (refine K.DW.want (fun _ => rfl) ?_; first | refine K.DW.det rfl (fun vs => (K.e_ge rfl rfl).yes (by first | omega | assumption | decide +kernel)) ?_ | refine K.DW.det rfl (fun vs => (K.e_ge rfl rfl).no (by first | omega | assumption | decide +kernel)) ?_ | refine K.DW.det rfl (fun vs => K.e_ge rfl rfl) ?_) | refine K.DW.skip (fun _ => rfl) ?_
    first | refine K.DW.det rfl (fun vs => K.e_pick_t rfl rfl) ?_ | refine K.DW.det rfl (fun vs => K.e_pick_f rfl rfl) ?_
    refine K.DW.det rfl (fun vs => K.e_move rfl) ?_
    first | (refine K.DW.want (fun _ => rfl) ?_; first | refine K.DW.det rfl (fun vs => K.e_fieldAddr fo23_1 rfl) ?_) | refine K.DW.skip (fun _ => rfl) ?_
    first | (refine K.DW.want (fun _ => rfl) ?_; first | refine K.DW.det rfl (fun vs => K.e_load Try.isAgg3 rfl rfl) ?_ | refine K.DW.det rfl (fun vs => K.e_load0 Try.isAgg3 rfl (by assumption)) ?_) | refine K.DW.skip (fun _ => rfl) ?_
    first | (refine K.DW.want (fun _ => rfl) ?_; first | refine K.DW.det rfl (fun vs => (K.e_le rfl rfl).yes (by first | omega | assumption | decide +kernel)) ?_ | refine K.DW.det rfl (fun vs => (K.e_le rfl rfl).no (by first | omega | assumption | decide +kernel)) ?_ | refine K.DW.det rfl (fun vs => K.e_le rfl rfl) ?_) | refine K.DW.skip (fun _ => rfl) ?_
    first | refine K.DW.det rfl (fun vs => K.e_pick_t rfl rfl) ?_ | refine K.DW.det rfl (fun vs => K.e_pick_f rfl rfl) ?_
    refine K.DW.det rfl (fun vs => K.e_move rfl) ?_
    first | (refine K.DW.want (fun _ => rfl) ?_; first | refine K.DW.det rfl (fun vs => K.e_fieldAddr fo23_2 rfl) ?_) | refine K.DW.skip (fun _ => rfl) ?_
    first | (refine K.DW.want (fun _ => rfl) ?_; first | refine K.DW.det rfl (fun vs => K.e_load Try.isAgg3 rfl rfl) ?_ | refine K.DW.det rfl (fun vs => K.e_load0 Try.isAgg3 rfl (by assumption)) ?_) | refine K.DW.skip (fun _ => rfl) ?_
    first | (refine K.DW.want (fun _ => rfl) ?_; first | refine K.DW.det rfl (fun vs => (K.e_ge rfl rfl).yes (by first | omega | assumption | decide +kernel)) ?_ | refine K.DW.det rfl (fun vs => (K.e_ge rfl rfl).no (by first | omega | assumption | decide +kernel)) ?_ | refine K.DW.det rfl (fun vs => K.e_ge rfl rfl) ?_) | refine K.DW.skip (fun _ => rfl) ?_
    first | refine K.DW.det rfl (fun vs => K.e_pick_t rfl rfl) ?_ | refine K.DW.det rfl (fun vs => K.e_pick_f rfl rfl) ?_
    refine K.DW.det rfl (fun vs => K.e_move rfl) ?_
    first | (refine K.DW.want (fun _ => rfl) ?_; first | refine K.DW.det rfl (fun vs => K.e_fieldAddr fo23_2 rfl) ?_) | refine K.DW.skip (fun _ => rfl) ?_
    first | (refine K.DW.want (fun _ => rfl) ?_; first | refine K.DW.det rfl (fun vs => K.e_load Try.isAgg3 rfl rfl) ?_ | refine K.DW.det rfl (fun vs => K.e_load0 Try.isAgg3 rfl (by assumption)) ?_) | refine K.DW.skip (fun _ => rfl) ?_
    first | (refine K.DW.want (fun _ => rfl) ?_; first | refine K.DW.det rfl (fun vs => K.e_fieldAddr fo23_1 rfl) ?_) | refine K.DW.skip (fun _ => rfl) ?_
    first | (refine K.DW.want (fun _ => rfl) ?_; first | refine K.DW.det rfl (fun vs => K.e_load Try.isAgg3 rfl rfl) ?_ | refine K.DW.det rfl (fun vs => K.e_load0 Try.isAgg3 rfl (by assumption)) ?_) | refine K.DW.skip (fun _ => rfl) ?_
    first | (refine K.DW.want (fun _ => rfl) ?_; first | refine K.DW.det rfl (fun vs => K.e_call1 Try.call25 rfl (fun w hT => rroom_any _ w)) ?_) | refine K.DW.skip (fun _ => rfl) ?_
    first | (refine K.DW.want (fun _ => rfl) ?_; first | refine K.DW.det rfl (fun vs => (K.e_le rfl rfl).yes (by first | omega | assumption | decide +kernel)) ?_ | refine K.DW.det rfl (fun vs => (K.e_le rfl rfl).no (by first | omega | assumption | decide +kernel)) ?_ | refine K.DW.det rfl (fun vs => K.e_le rfl rfl) ?_) | refine K.DW.skip (fun _ => rfl) ?_
    first | refine K.DW.det rfl (fun vs => K.e_pick_t rfl rfl) ?_ | refine K.DW.det rfl (fun vs => K.e_pick_f rfl rfl) ?_
    refine K.DW.det rfl (fun vs => K.e_move rfl) ?_
    first | (refine K.DW.want (fun _ => rfl) ?_; first | refine K.DW.det rfl (fun vs => K.e_fieldAddr fo23_2 rfl) ?_) | refine K.DW.skip (fun _ => rfl) ?_
    first | (refine K.DW.want (fun _ => rfl) ?_; first | refine K.DW.det rfl (fun vs => K.e_load Try.isAgg3 rfl rfl) ?_ | refine K.DW.det rfl (fun vs => K.e_load0 Try.isAgg3 rfl (by assumption)) ?_) | refine K.DW.skip (fun _ => rfl) ?_
    first | (refine K.DW.want (fun _ => rfl) ?_; first | refine K.DW.det rfl (fun vs => (K.e_le rfl rfl).yes (by first | omega | assumption | decide +kernel)) ?_ | refine K.DW.det rfl (fun vs => (K.e_le rfl rfl).no (by first | omega | assumption | decide +kernel)) ?_ | refine K.DW.det rfl (fun vs => K.e_le rfl rfl) ?_) | refine K.DW.skip (fun _ => rfl) ?_
    first | refine K.DW.det rfl (fun vs => K.e_pick_t rfl rfl) ?_ | refine K.DW.det rfl (fun vs => K.e_pick_f rfl rfl) ?_
    refine K.DW.det rfl (fun vs => K.e_assign rfl) ?_
    refine K.DW.fin0 rfl (fun vs => ?_)
    refine K.GL.keep [2] rfl ?_
    clear vs
    refine K.GL.nil ?_
    refine K.GQ.go ?_
    refine K.GC.ret ?_
    refine K.GQ.ret1 Try.results10 rfl (fun w hT => ?_)
    exact ⟨ret_right (by simp; omega), hT.nil⟩
/- turntable/turntableref17.Size -/
set_option maxHeartbeats 1000000 in
set_option maxRecDepth 100000 in
theorem rsize_any (a b c : Int) (w : World) :
    Calls Try.prog 12 #[.agg #[.int .i64 a, .int .i64 b, .int .i64 c]] w fun e w' => e = .returned (.int .i64 (sizeP a b c)) ∧ Tr w [] w' [] := by
  refine K.enter0 (args := [_]) Try.func12 rfl Try.ntmps12 rfl ?_
  refine K.GC.seq ?_
  refine K.GC.region ?_
  refine K.GL.box rfl rfl rfl (fun b1 => ?_)
  refine K.GL.det (K.e_assign rfl) rfl ?_
  refine K.GL.nil ?_
  refine K.GQ.go ?_
  refine K.GC.seq ?_
  refine K.GC.seq ?_
  refine K.GC.region ?_
  refine K.GL.det (K.e_loads Try.isAgg23 Try.sizeOf23 rfl rfl) rfl ?_
  refine K.GL.det (K.e_call1 Try.call10 rfl (fun w hT => rright_any _ _ _ w)) rfl ?_
  first | refine K.GL.det (K.e_notp rfl) rfl ?_ | refine K.GL.det (K.e_not rfl) rfl ?_
  refine K.GL.nil ?_
  refine K.GQ.go ?_
  refine K.GC.condB rfl (fun h1 => ?_) (fun h1 => ?_)
  · first
    | exact absurd h1 (by decide)
    | try replace h1 := of_decide_eq_true h1
      refine K.GC.seq ?_
      refine K.GC.region ?_
      refine K.GL.det (K.e_assign rfl) rfl ?_
      refine K.GL.nil ?_
      refine K.GQ.go ?_
      refine K.GC.ret ?_
      refine K.GQ.then_ret ?_
      refine K.GQ.ret1 Try.results12 rfl (fun w hT => ?_)
      first | exact ⟨by rw [size_y (not_f ‹_›)], hT.nil⟩ | exact ⟨by rw [size_n (not_t ‹_›)], hT.nil⟩
  · first
    | exact absurd h1 (by decide)
    | try replace h1 := of_decide_eq_false h1
      refine K.GC.skip ?_
      refine K.GQ.go ?_
      refine K.GC.seq ?_
      refine K.GC.region ?_
      refine K.GL.det (K.e_fieldAddr fo23_0 rfl) rfl ?_
      first | refine K.GL.det (K.e_load Try.isAgg3 rfl rfl) rfl ?_ | refine K.GL.det (K.e_load0 Try.isAgg3 rfl (by assumption)) rfl ?_
      refine K.GL.det (K.e_fieldAddr fo23_1 rfl) rfl ?_
      first | refine K.GL.det (K.e_load Try.isAgg3 rfl rfl) rfl ?_ | refine K.GL.det (K.e_load0 Try.isAgg3 rfl (by assumption)) rfl ?_
      first | refine K.GL.det (K.e_mul rfl rfl ⟨by omega, by omega⟩) rfl ?_ | refine K.GL.det (K.e_mulw rfl rfl) rfl ?_
      first | refine K.GL.det (K.e_add rfl rfl ⟨by omega, by omega⟩) rfl ?_ | refine K.GL.det (K.e_addw rfl rfl) rfl ?_
      refine K.GL.det (K.e_assign rfl) rfl ?_
      refine K.GL.nil ?_
      refine K.GQ.go ?_
      refine K.GC.ret ?_
      refine K.GQ.ret1 Try.results12 rfl (fun w hT => ?_)
      first | exact ⟨by rw [size_y (not_f ‹_›)], hT.nil⟩ | exact ⟨by rw [size_n (not_t ‹_›)], hT.nil⟩
/- turntable/turntableref17.First -/
set_option maxHeartbeats 1000000 in
set_option maxRecDepth 100000 in
theorem rfirst_any (a b c x : Int) (w : World) :
    Calls Try.prog 14 #[.agg #[.int .i64 a, .int .i64 b, .int .i64 c], .int .i64 x] w fun e w' => e = .returned (.int .i64 (firstP a b c x)) ∧ Tr w [] w' [] := by
  refine K.enter0 (args := [_, _]) Try.func14 rfl Try.ntmps14 rfl ?_
  refine K.GC.seq ?_
  refine K.GC.region ?_
  refine K.GL.box rfl rfl rfl (fun b2 => ?_)
  refine K.GL.det (K.e_assign rfl) rfl ?_
  refine K.GL.nil ?_
  refine K.GQ.go ?_
  refine K.GC.seq ?_
  refine K.GC.seq ?_
  refine K.GC.region ?_
  refine K.GL.det (K.e_loads Try.isAgg23 Try.sizeOf23 rfl rfl) rfl ?_
  refine K.GL.det (K.e_call1 Try.call10 rfl (fun w hT => rright_any _ _ _ w)) rfl ?_
  first | refine K.GL.det (K.e_notp rfl) rfl ?_ | refine K.GL.det (K.e_not rfl) rfl ?_
  refine K.GL.det (K.e_move rfl) rfl ?_
  first | refine K.GL.splitB 8 rfl (fun h1 => ?_) (fun h1 => ?_) | skip
  all_goals first | exact absurd h1 (by decide) | replace h1 := of_decide_eq_true h1 | replace h1 := of_decide_eq_false h1 | skip
  all_goals
    first | (refine K.GL.want 8 rfl rfl rfl ?_; first | refine K.GL.det (K.e_move rfl) rfl ?_) | refine K.GL.skip 8 rfl rfl rfl rfl ?_ | refine K.GL.skipU 8 rfl rfl rfl rfl ?_
    first | (refine K.GL.want 8 rfl rfl rfl ?_; first | refine K.GL.det ((K.e_lt rfl rfl).yes (by first | omega | assumption | decide +kernel)) rfl ?_ | refine K.GL.det ((K.e_lt rfl rfl).no (by first | omega | assumption | decide +kernel)) rfl ?_ | refine K.GL.det (K.e_lt rfl rfl) rfl ?_) | refine K.GL.skip 8 rfl rfl rfl rfl ?_ | refine K.GL.skipU 8 rfl rfl rfl rfl ?_
    first | refine K.GL.det (K.e_pick_t rfl rfl) rfl ?_ | refine K.GL.det (K.e_pick_f rfl rfl) rfl ?_
    refine K.GL.det (K.e_move rfl) rfl ?_
    first | refine K.GL.splitB 12 rfl (fun h2 => ?_) (fun h2 => ?_) | skip
    all_goals first | exact absurd h2 (by decide) | replace h2 := of_decide_eq_true h2 | replace h2 := of_decide_eq_false h2 | skip
    all_goals
      first | (refine K.GL.want 12 rfl rfl rfl ?_; first | refine K.GL.det (K.e_move rfl) rfl ?_) | refine K.GL.skip 12 rfl rfl rfl rfl ?_ | refine K.GL.skipU 12 rfl rfl rfl rfl ?_
      first | (refine K.GL.want 12 rfl rfl rfl ?_; first | refine K.GL.det (K.e_fieldAddr fo23_0 rfl) rfl ?_) | refine K.GL.skip 12 rfl rfl rfl rfl ?_ | refine K.GL.skipU 12 rfl rfl rfl rfl ?_
      first | (refine K.GL.want 12 rfl rfl rfl ?_; first | refine K.GL.det (K.e_load Try.isAgg3 rfl rfl) rfl ?_ | refine K.GL.det (K.e_load0 Try.isAgg3 rfl (by assumption)) rfl ?_) | refine K.GL.skip 12 rfl rfl rfl rfl ?_ | refine K.GL.skipU 12 rfl rfl rfl rfl ?_
      first | (refine K.GL.want 12 rfl rfl rfl ?_; first | refine K.GL.det ((K.e_ge rfl rfl).yes (by first | omega | assumption | decide +kernel)) rfl ?_ | refine K.GL.det ((K.e_ge rfl rfl).no (by first | omega | assumption | decide +kernel)) rfl ?_ | refine K.GL.det (K.e_ge rfl rfl) rfl ?_) | refine K.GL.skip 12 rfl rfl rfl rfl ?_ | refine K.GL.skipU 12 rfl rfl rfl rfl ?_
      first | refine K.GL.det (K.e_pick_t rfl rfl) rfl ?_ | refine K.GL.det (K.e_pick_f rfl rfl) rfl ?_
      refine K.GL.nil ?_
      refine K.GQ.go ?_
      refine K.GC.condB rfl (fun h3 => ?_) (fun h3 => ?_)
      · first
        | exact absurd h3 (by decide)
        | try replace h3 := of_decide_eq_true h3
          refine K.GC.seq ?_
          refine K.GC.region ?_
          refine K.GL.det (K.e_assign rfl) rfl ?_
          refine K.GL.nil ?_
          refine K.GQ.go ?_
          refine K.GC.ret ?_
          refine K.GQ.then_ret ?_
          refine K.GQ.ret1 Try.results14 rfl (fun w hT => ?_)
          first | exact ⟨by rw [first_y (not_f ‹_›) (by omega) (by omega)], hT.nil⟩ | exact ⟨by rw [first_n (not_t ‹_›)], hT.nil⟩ | exact ⟨by rw [first_out]; omega, hT.nil⟩
      · first
        | exact absurd h3 (by decide)
        | try replace h3 := of_decide_eq_false h3
          refine K.GC.skip ?_
          refine K.GQ.go ?_
          refine K.GC.seq ?_
          refine K.GC.region ?_
          refine K.GL.det (K.e_move rfl) rfl ?_
          refine K.GL.det (K.e_fieldAddr fo23_1 rfl) rfl ?_
          first | refine K.GL.det (K.e_load Try.isAgg3 rfl rfl) rfl ?_ | refine K.GL.det (K.e_load0 Try.isAgg3 rfl (by assumption)) rfl ?_
          first | refine K.GL.det (K.e_mul rfl rfl ⟨by omega, by omega⟩) rfl ?_ | refine K.GL.det (K.e_mulw rfl rfl) rfl ?_
          first | refine K.GL.det (K.e_add rfl rfl ⟨by omega, by omega⟩) rfl ?_ | refine K.GL.det (K.e_addw rfl rfl) rfl ?_
          refine K.GL.det (K.e_assign rfl) rfl ?_
          refine K.GL.nil ?_
          refine K.GQ.go ?_
          refine K.GC.ret ?_
          refine K.GQ.ret1 Try.results14 rfl (fun w hT => ?_)
          first | exact ⟨by rw [first_y (not_f ‹_›) (by omega) (by omega)], hT.nil⟩ | exact ⟨by rw [first_n (not_t ‹_›)], hT.nil⟩ | exact ⟨by rw [first_out]; omega, hT.nil⟩
/- turntable/turntableref17.Room -/
set_option maxHeartbeats 1000000 in
set_option maxRecDepth 100000 in
theorem rgroom_any (a b c : Int) (w : World) :
    Calls Try.prog 16 #[.agg #[.int .i64 a, .int .i64 b, .int .i64 c]] w fun e w' => e = .returned (.int .i64 (roomP a b c)) ∧ Tr w [] w' [] := by
  refine K.enter0 (args := [_]) Try.func16 rfl Try.ntmps16 rfl ?_
  refine K.GC.seq ?_
  refine K.GC.region ?_
  refine K.GL.box rfl rfl rfl (fun b1 => ?_)
  refine K.GL.det (K.e_assign rfl) rfl ?_
  refine K.GL.nil ?_
  refine K.GQ.go ?_
  refine K.GC.seq ?_
  refine K.GC.seq ?_
  refine K.GC.region ?_
  refine K.GL.det (K.e_loads Try.isAgg23 Try.sizeOf23 rfl rfl) rfl ?_
  refine K.GL.det (K.e_call1 Try.call10 rfl (fun w hT => rright_any _ _ _ w)) rfl ?_
  first | refine K.GL.det (K.e_notp rfl) rfl ?_ | refine K.GL.det (K.e_not rfl) rfl ?_
  refine K.GL.nil ?_
  refine K.GQ.go ?_
  refine K.GC.condB rfl (fun h1 => ?_) (fun h1 => ?_)
  · first
    | exact absurd h1 (by decide)
    | try replace h1 := of_decide_eq_true h1
      refine K.GC.seq ?_
      refine K.GC.region ?_
      refine K.GL.det (K.e_assign rfl) rfl ?_
      refine K.GL.nil ?_
      refine K.GQ.go ?_
      refine K.GC.ret ?_
      refine K.GQ.then_ret ?_
      refine K.GQ.ret1 Try.results16 rfl (fun w hT => ?_)
      first | exact ⟨by rw [room_y (not_f ‹_›)], hT.nil⟩ | exact ⟨by rw [room_n (not_t ‹_›)], hT.nil⟩
  · first
    | exact absurd h1 (by decide)
    | try replace h1 := of_decide_eq_false h1
      refine K.GC.skip ?_
      refine K.GQ.go ?_
      refine K.GC.seq ?_
      refine K.GC.region ?_
      refine K.GL.det (K.e_fieldAddr fo23_1 rfl) rfl ?_
      first | refine K.GL.det (K.e_load Try.isAgg3 rfl rfl) rfl ?_ | refine K.GL.det (K.e_load0 Try.isAgg3 rfl (by assumption)) rfl ?_
      refine K.GL.det (K.e_call1 Try.call25 rfl (fun w hT => rroom_any _ w)) rfl ?_
      refine K.GL.det (K.e_assign rfl) rfl ?_
      refine K.GL.nil ?_
      refine K.GQ.go ?_
      refine K.GC.ret ?_
      refine K.GQ.ret1 Try.results16 rfl (fun w hT => ?_)
      first | exact ⟨by rw [room_y (not_f ‹_›)], hT.nil⟩ | exact ⟨by rw [room_n (not_t ‹_›)], hT.nil⟩
/- turntable/turntableref17.Budget -/
set_option maxHeartbeats 1000000 in
set_option maxRecDepth 100000 in
theorem rbudget_any (a b c : Int) (w : World) :
    Calls Try.prog 18 #[.agg #[.int .i64 a, .int .i64 b, .int .i64 c]] w fun e w' => e = .returned (.int .i64 (budgetP a b c)) ∧ Tr w [] w' [] := by
  refine K.enter0 (args := [_]) Try.func18 rfl Try.ntmps18 rfl ?_
  refine K.GC.seq ?_
  refine K.GC.region ?_
  refine K.GL.box rfl rfl rfl (fun b1 => ?_)
  refine K.GL.det (K.e_assign rfl) rfl ?_
  refine K.GL.nil ?_
  refine K.GQ.go ?_
  refine K.GC.seq ?_
  refine K.GC.seq ?_
  refine K.GC.region ?_
  refine K.GL.det (K.e_loads Try.isAgg23 Try.sizeOf23 rfl rfl) rfl ?_
  refine K.GL.det (K.e_call1 Try.call10 rfl (fun w hT => rright_any _ _ _ w)) rfl ?_
  first | refine K.GL.det (K.e_notp rfl) rfl ?_ | refine K.GL.det (K.e_not rfl) rfl ?_
  refine K.GL.nil ?_
  refine K.GQ.go ?_
  refine K.GC.condB rfl (fun h1 => ?_) (fun h1 => ?_)
  · first
    | exact absurd h1 (by decide)
    | try replace h1 := of_decide_eq_true h1
      refine K.GC.seq ?_
      refine K.GC.region ?_
      refine K.GL.det (K.e_assign rfl) rfl ?_
      refine K.GL.nil ?_
      refine K.GQ.go ?_
      refine K.GC.ret ?_
      refine K.GQ.then_ret ?_
      refine K.GQ.ret1 Try.results18 rfl (fun w hT => ?_)
      first | exact ⟨by rw [budget_y (not_f ‹_›)], hT.nil⟩ | exact ⟨by rw [budget_n (not_t ‹_›)], hT.nil⟩
  · first
    | exact absurd h1 (by decide)
    | try replace h1 := of_decide_eq_false h1
      refine K.GC.skip ?_
      refine K.GQ.go ?_
      refine K.GC.seq ?_
      refine K.GC.drawn 15 [[], [0], [0, 1], [], [3], [], [5], [3, 4, 5, 6], [0, 1, 2, 3, 4, 5, 6, 7], [], [9], [9, 10], [0, 1, 2, 3, 4, 5, 6, 7, 8, 9, 10, 11], [0, 1, 2, 3, 4, 5, 6, 7, 8, 9, 10, 11, 12], [0, 1, 2, 3, 4, 5, 6, 7, 8, 9, 10, 11, 12, 13]] [[], [0], [1], [], [3], [], [5], [4, 6], [2, 7], [], [9], [10], [8, 11], [12], [13]] [1] (by kernel_rfl) (by kernel_rfl) rfl ?_
      refine K.DW.det rfl (fun vs => K.e_fieldAddr fo23_0 rfl) ?_
      first | refine K.DW.det rfl (fun vs => K.e_load Try.isAgg3 rfl rfl) ?_ | refine K.DW.det rfl (fun vs => K.e_load0 Try.isAgg3 rfl (by assumption)) ?_
      refine K.DW.det rfl (fun vs => K.e_subw rfl rfl) ?_
      refine K.DW.det rfl (fun vs => K.e_loads Try.isAgg23 Try.sizeOf23 rfl rfl) ?_
      refine K.DW.det rfl (fun vs => K.e_call1 Try.call16 rfl (fun w hT => rgroom_any _ _ _ w)) ?_
      refine K.DW.det rfl (fun vs => K.e_fieldAddr fo23_2 rfl) ?_
      first | refine K.DW.det rfl (fun vs => K.e_load Try.isAgg3 rfl rfl) ?_ | refine K.DW.det rfl (fun vs => K.e_load0 Try.isAgg3 rfl (by assumption)) ?_
      refine K.DW.det rfl (fun vs => K.e_subw rfl rfl) ?_
      refine K.DW.det rfl (fun vs => K.e_mulw rfl rfl) ?_
      refine K.DW.det rfl (fun vs => K.e_fieldAddr fo23_0 rfl) ?_
      first | refine K.DW.det rfl (fun vs => K.e_load Try.isAgg3 rfl rfl) ?_ | refine K.DW.det rfl (fun vs => K.e_load0 Try.isAgg3 rfl (by assumption)) ?_
      refine K.DW.det rfl (fun vs => K.e_mulw rfl rfl) ?_
      refine K.DW.det rfl (fun vs => K.e_subw rfl rfl) ?_
      refine K.DW.det rfl (fun vs => K.e_max rfl rfl) ?_
      refine K.DW.det rfl (fun vs => K.e_assign rfl) ?_
      refine K.DW.fin0 rfl (fun vs => ?_)
      refine K.GL.keep [2] rfl ?_
      clear vs
      refine K.GL.nil ?_
      refine K.GQ.go ?_
      refine K.GC.ret ?_
      refine K.GQ.ret1 Try.results18 rfl (fun w hT => ?_)
      first | exact ⟨by rw [budget_y (not_f ‹_›)], hT.nil⟩ | exact ⟨by rw [budget_n (not_t ‹_›)], hT.nil⟩
/- turntable/turntableref17.Blank -/
set_option maxHeartbeats 1000000 in
set_option maxRecDepth 100000 in
theorem rblank_yes (a b c : Int) (w : World) (hr : rightB a b c = true) :
    Calls Try.prog 21 #[.agg #[.int .i64 a, .int .i64 b, .int .i64 c]] w fun e w' => ∃ v, e = .returned v ∧ (∃ bl, v = tabV bl a.toNat) ∧ Tr w [] w' [tabR a.toNat v] := by
  have hb := (right_iff a b c).1 hr
  refine K.enter0 (args := [_]) Try.func21 rfl Try.ntmps21 rfl ?_
  refine K.GC.seq ?_
  refine K.GC.region ?_
  refine K.GL.box rfl rfl rfl (fun b1 => ?_)
  refine K.GL.alloc Try.zeroValue31 rfl rfl (fun b2 => ?_)
  refine K.GL.nil ?_
  refine K.GQ.go ?_
  refine K.GC.seq ?_
  refine K.GC.seq ?_
  refine K.GC.region ?_
  refine K.GL.det (K.e_loads Try.isAgg23 Try.sizeOf23 rfl rfl) rfl ?_
  refine K.GL.det (K.e_call1 Try.call10 rfl (fun w hT => rright_any _ _ _ w)) rfl ?_
  first | refine K.GL.det ((K.e_not rfl).cast_bool (b := false) (by rw [hr]; rfl)) rfl ?_ | refine K.GL.det ((K.e_not rfl).cast_bool (b := true) (by rw [hr]; rfl)) rfl ?_ | refine K.GL.det (K.e_notp rfl) rfl ?_ | refine K.GL.det (K.e_not rfl) rfl ?_
  refine K.GL.nil ?_
  refine K.GQ.go ?_
  refine K.GC.condB rfl (fun h1 => ?_) (fun h1 => ?_)
  · first
    | exact absurd h1 (by decide)
    | try replace h1 := of_decide_eq_true h1
      refine K.GC.seq ?_
      refine K.GC.region ?_
      refine K.GL.det (K.e_build lay31 rfl) rfl ?_
      refine K.GL.store rfl rfl rfl Try.sizeOf31 rfl rfl ?_
      refine K.GL.nil ?_
      refine K.GQ.go ?_
      refine K.GC.ret ?_
      refine K.GQ.then_ret ?_
      refine K.GQ.retc Try.results21 Try.isAgg31 Try.sizeOf31 rfl rfl (fun w hT => ?_)
      exact ⟨_, rfl, ⟨_, rfl⟩, hT.sub (K.Sub.pick1 (k := 0) rfl)⟩
  · first
    | exact absurd h1 (by decide)
    | try replace h1 := of_decide_eq_false h1
      refine K.GC.skip ?_
      refine K.GQ.go ?_
      refine K.GC.seq ?_
      refine K.GC.region ?_
      refine K.GL.det (K.e_fieldAddr fo23_0 rfl) rfl ?_
      first | refine K.GL.det (K.e_load Try.isAgg3 rfl rfl) rfl ?_ | refine K.GL.det (K.e_load0 Try.isAgg3 rfl (by assumption)) rfl ?_
      refine K.GL.make mk29 rfl rfl (by omega) (by omega) (by omega) (by omega) rfl (fun b9 => ?_)
      refine K.GL.det (K.e_build lay31 rfl) rfl ?_
      refine K.GL.store rfl rfl rfl Try.sizeOf31 rfl rfl ?_
      refine K.GL.nil ?_
      refine K.GQ.go ?_
      refine K.GC.ret ?_
      refine K.GQ.retc Try.results21 Try.isAgg31 Try.sizeOf31 rfl rfl (fun w hT => ?_)
      exact ⟨_, rfl, ⟨_, rfl⟩, hT.sub (K.Sub.pick1 (k := 0) rfl)⟩
/- turntable/turntableref17.Blank -/
set_option maxHeartbeats 1000000 in
set_option maxRecDepth 100000 in
theorem rblank_no (a b c : Int) (w : World) (hr : rightB a b c = false) :
    Calls Try.prog 21 #[.agg #[.int .i64 a, .int .i64 b, .int .i64 c]] w fun e w' => e = .returned tab0 ∧ Tr w [] w' [] := by
  refine K.enter0 (args := [_]) Try.func21 rfl Try.ntmps21 rfl ?_
  refine K.GC.seq ?_
  refine K.GC.region ?_
  refine K.GL.box rfl rfl rfl (fun b1 => ?_)
  refine K.GL.alloc Try.zeroValue31 rfl rfl (fun b2 => ?_)
  refine K.GL.nil ?_
  refine K.GQ.go ?_
  refine K.GC.seq ?_
  refine K.GC.seq ?_
  refine K.GC.region ?_
  refine K.GL.det (K.e_loads Try.isAgg23 Try.sizeOf23 rfl rfl) rfl ?_
  refine K.GL.det (K.e_call1 Try.call10 rfl (fun w hT => rright_any _ _ _ w)) rfl ?_
  first | refine K.GL.det ((K.e_not rfl).cast_bool (b := false) (by rw [hr]; rfl)) rfl ?_ | refine K.GL.det ((K.e_not rfl).cast_bool (b := true) (by rw [hr]; rfl)) rfl ?_ | refine K.GL.det (K.e_notp rfl) rfl ?_ | refine K.GL.det (K.e_not rfl) rfl ?_
  refine K.GL.nil ?_
  refine K.GQ.go ?_
  refine K.GC.condB rfl (fun h1 => ?_) (fun h1 => ?_)
  · first
    | exact absurd h1 (by decide)
    | try replace h1 := of_decide_eq_true h1
      refine K.GC.seq ?_
      refine K.GC.region ?_
      refine K.GL.det (K.e_build lay31 rfl) rfl ?_
      refine K.GL.store rfl rfl rfl Try.sizeOf31 rfl rfl ?_
      refine K.GL.nil ?_
      refine K.GQ.go ?_
      refine K.GC.ret ?_
      refine K.GQ.then_ret ?_
      refine K.GQ.retc Try.results21 Try.isAgg31 Try.sizeOf31 rfl rfl (fun w hT => ?_)
      exact ⟨rfl, hT.nil⟩
  · first
    | exact absurd h1 (by decide)
    | try replace h1 := of_decide_eq_false h1
      refine K.GC.skip ?_
      refine K.GQ.go ?_
      refine K.GC.seq ?_
      refine K.GC.region ?_
      refine K.GL.det (K.e_fieldAddr fo23_0 rfl) rfl ?_
      first | refine K.GL.det (K.e_load Try.isAgg3 rfl rfl) rfl ?_ | refine K.GL.det (K.e_load0 Try.isAgg3 rfl (by assumption)) rfl ?_
      refine K.GL.make mk29 rfl rfl (by omega) (by omega) (by omega) (by omega) rfl (fun b9 => ?_)
      refine K.GL.det (K.e_build lay31 rfl) rfl ?_
      refine K.GL.store rfl rfl rfl Try.sizeOf31 rfl rfl ?_
      refine K.GL.nil ?_
      refine K.GQ.go ?_
      refine K.GC.ret ?_
      refine K.GQ.retc Try.results21 Try.isAgg31 Try.sizeOf31 rfl rfl (fun w hT => ?_)
      exact ⟨rfl, hT.nil⟩
theorem fo31_0 : K.fieldOff Try.prog 31 0 = some (2, 0, 1) := by kernel_rfl
theorem fo31_1 : K.fieldOff Try.prog 31 1 = some (3, 1, 1) := by kernel_rfl
theorem fo31_2 : K.fieldOff Try.prog 31 2 = some (29, 2, 1) := by kernel_rfl
theorem sl29 : K.slOf Try.prog 29 = some (45, 2) := by kernel_rfl
/- turntable/turntableref09.Same -/
set_option maxHeartbeats 1000000 in
set_option maxRecDepth 100000 in
theorem same_any (ga oa gb ob : Int) (ba bb : Option Addr) (na ca nb cb : Nat) (xa xb : List XExt) (w : World) (hA : Sl w 2 ba na (xa.flatMap encE)) (hB : Sl w 2 bb nb (xb.flatMap encE)) (hn : na ≤ 9223372036854775807) :
    Calls Try.prog 19 #[.agg #[.int .i64 ga, .int .i64 oa, .slice ba na ca], .agg #[.int .i64 gb, .int .i64 ob, .slice bb nb cb]] w fun e w' => e = .returned (.bool (decide (ga = gb ∧ oa = ob ∧ xa = xb))) ∧ Tr w [] w' [] := by
  have la := hA.count (by omega) encE_len
  have lb := hB.count (by omega) encE_len
  refine K.enter0 (args := [_, _]) Try.func19 rfl Try.ntmps19 rfl ?_
  refine K.GC.seq ?_
  refine K.GC.region ?_
  refine K.GL.box rfl rfl rfl (fun b2 => ?_)
  refine K.GL.box rfl rfl rfl (fun b3 => ?_)
  refine K.GL.det (K.e_assign rfl) rfl ?_
  refine K.GL.nil ?_
  refine K.GQ.go ?_
  refine K.GC.seq ?_
  refine K.GC.seq ?_
  refine K.GC.region ?_
  refine K.GL.det (K.e_fieldAddr fo31_0 rfl) rfl ?_
  first | refine K.GL.det (K.e_load Try.isAgg2 rfl rfl) rfl ?_ | refine K.GL.det (K.e_load0 Try.isAgg2 rfl (by assumption)) rfl ?_
  refine K.GL.det (K.e_fieldAddr fo31_0 rfl) rfl ?_
  first | refine K.GL.det (K.e_load Try.isAgg2 rfl rfl) rfl ?_ | refine K.GL.det (K.e_load0 Try.isAgg2 rfl (by assumption)) rfl ?_
  first | refine K.GL.det ((K.e_ne rfl rfl).yes (by first | omega | assumption | decide +kernel)) rfl ?_ | refine K.GL.det ((K.e_ne rfl rfl).no (by first | omega | assumption | decide +kernel)) rfl ?_ | refine K.GL.det (K.e_ne rfl rfl) rfl ?_
  refine K.GL.det (K.e_move rfl) rfl ?_
  first | refine K.GL.splitB 11 rfl (fun h1 => ?_) (fun h1 => ?_) | skip
  all_goals first | exact absurd h1 (by decide) | replace h1 := of_decide_eq_true h1 | replace h1 := of_decide_eq_false h1 | skip
  all_goals
    first | (refine K.GL.want 11 rfl rfl rfl ?_; first | refine K.GL.det (K.e_fieldAddr fo31_1 rfl) rfl ?_) | refine K.GL.skip 11 rfl rfl rfl rfl ?_ | refine K.GL.skipU 11 rfl rfl rfl rfl ?_
    first | (refine K.GL.want 11 rfl rfl rfl ?_; first | refine K.GL.det (K.e_load Try.isAgg3 rfl rfl) rfl ?_ | refine K.GL.det (K.e_load0 Try.isAgg3 rfl (by assumption)) rfl ?_) | refine K.GL.skip 11 rfl rfl rfl rfl ?_ | refine K.GL.skipU 11 rfl rfl rfl rfl ?_
    first | (refine K.GL.want 11 rfl rfl rfl ?_; first | refine K.GL.det (K.e_fieldAddr fo31_1 rfl) rfl ?_) | refine K.GL.skip 11 rfl rfl rfl rfl ?_ | refine K.GL.skipU 11 rfl rfl rfl rfl ?_
    first | (refine K.GL.want 11 rfl rfl rfl ?_; first | refine K.GL.det (K.e_load Try.isAgg3 rfl rfl) rfl ?_ | refine K.GL.det (K.e_load0 Try.isAgg3 rfl (by assumption)) rfl ?_) | refine K.GL.skip 11 rfl rfl rfl rfl ?_ | refine K.GL.skipU 11 rfl rfl rfl rfl ?_
    first | (refine K.GL.want 11 rfl rfl rfl ?_; first | refine K.GL.det ((K.e_ne rfl rfl).yes (by first | omega | assumption | decide +kernel)) rfl ?_ | refine K.GL.det ((K.e_ne rfl rfl).no (by first | omega | assumption | decide +kernel)) rfl ?_ | refine K.GL.det (K.e_ne rfl rfl) rfl ?_) | refine K.GL.skip 11 rfl rfl rfl rfl ?_ | refine K.GL.skipU 11 rfl rfl rfl rfl ?_
    first | refine K.GL.det (K.e_pick_t rfl rfl) rfl ?_ | refine K.GL.det (K.e_pick_f rfl rfl) rfl ?_
    refine K.GL.det (K.e_move rfl) rfl ?_
    first | refine K.GL.splitB 18 rfl (fun h2 => ?_) (fun h2 => ?_) | skip
    all_goals first | exact absurd h2 (by decide) | replace h2 := of_decide_eq_true h2 | replace h2 := of_decide_eq_false h2 | skip
    all_goals
      first | (refine K.GL.want 18 rfl rfl rfl ?_; first | refine K.GL.det (K.e_fieldAddr fo31_2 rfl) rfl ?_) | refine K.GL.skip 18 rfl rfl rfl rfl ?_ | refine K.GL.skipU 18 rfl rfl rfl rfl ?_
      first | (refine K.GL.want 18 rfl rfl rfl ?_; first | refine K.GL.det (K.e_load Try.isAgg29 rfl rfl) rfl ?_ | refine K.GL.det (K.e_load0 Try.isAgg29 rfl (by assumption)) rfl ?_) | refine K.GL.skip 18 rfl rfl rfl rfl ?_ | refine K.GL.skipU 18 rfl rfl rfl rfl ?_
      first | (refine K.GL.want 18 rfl rfl rfl ?_; first | refine K.GL.det (K.e_len Try.underlying29 rfl) rfl ?_) | refine K.GL.skip 18 rfl rfl rfl rfl ?_ | refine K.GL.skipU 18 rfl rfl rfl rfl ?_
      first | (refine K.GL.want 18 rfl rfl rfl ?_; first | refine K.GL.det (K.e_fieldAddr fo31_2 rfl) rfl ?_) | refine K.GL.skip 18 rfl rfl rfl rfl ?_ | refine K.GL.skipU 18 rfl rfl rfl rfl ?_
      first | (refine K.GL.want 18 rfl rfl rfl ?_; first | refine K.GL.det (K.e_load Try.isAgg29 rfl rfl) rfl ?_ | refine K.GL.det (K.e_load0 Try.isAgg29 rfl (by assumption)) rfl ?_) | refine K.GL.skip 18 rfl rfl rfl rfl ?_ | refine K.GL.skipU 18 rfl rfl rfl rfl ?_
      first | (refine K.GL.want 18 rfl rfl rfl ?_; first | refine K.GL.det (K.e_len Try.underlying29 rfl) rfl ?_) | refine K.GL.skip 18 rfl rfl rfl rfl ?_ | refine K.GL.skipU 18 rfl rfl rfl rfl ?_
      first | (refine K.GL.want 18 rfl rfl rfl ?_; first | refine K.GL.det ((K.e_ne rfl rfl).yes (by first | omega | assumption | decide +kernel)) rfl ?_ | refine K.GL.det ((K.e_ne rfl rfl).no (by first | omega | assumption | decide +kernel)) rfl ?_ | refine K.GL.det (K.e_ne rfl rfl) rfl ?_) | refine K.GL.skip 18 rfl rfl rfl rfl ?_ | refine K.GL.skipU 18 rfl rfl rfl rfl ?_
      first | refine K.GL.det (K.e_pick_t rfl rfl) rfl ?_ | refine K.GL.det (K.e_pick_f rfl rfl) rfl ?_
      refine K.GL.nil ?_
      refine K.GQ.go ?_
      refine K.GC.condB rfl (fun h3 => ?_) (fun h3 => ?_)
      · first
        | exact absurd h3 (by decide)
        | try replace h3 := of_decide_eq_true h3
          refine K.GC.seq ?_
          refine K.GC.region ?_
          refine K.GL.det (K.e_assign rfl) rfl ?_
          refine K.GL.nil ?_
          refine K.GQ.go ?_
          refine K.GC.ret ?_
          refine K.GQ.then_ret ?_
          refine K.GQ.ret1 Try.results19 rfl (fun w hT => ?_)
          first | exact ⟨ret_no (fun ⟨e1, e2, e3⟩ => by first | omega | (subst e3; omega)), hT.nil⟩ | exact ⟨ret_no (fun ⟨_, _, e3⟩ => ext_ne he1 he2 ‹_› e3), hT.nil⟩ | exact ⟨ret_yes ⟨by omega, by omega, by rw [← take_full (l := xa) (n := x.toNat) (by omega), i3, take_full (by omega)]⟩, hT.nil⟩
      · first
        | exact absurd h3 (by decide)
        | try replace h3 := of_decide_eq_false h3
          refine K.GC.skip ?_
          refine K.GQ.go ?_
          refine K.GC.seq ?_
          refine K.GC.seq ?_
          refine K.GC.region ?_
          refine K.GL.det (K.e_assign rfl) rfl ?_
          refine K.GL.nil ?_
          refine K.GQ.go ?_
          refine K.GC.block ?_
          refine K.GC.loopk (α := Int) [2, 3] rfl (fun x => [(5, .int .i64 x)]) (fun x => _) (fun x => 0 ≤ x ∧ x ≤ na ∧ xa.take x.toNat = xb.take x.toNat) (fun x => ((na : Int) - x).toNat) 0 ⟨by omega, by omega, by simp⟩ (by (repeat refine ⟨rfl, ?_⟩); exact trivial) (K.Sub.refl _) (fun x hI => ?_)
          obtain ⟨i1, i2, i3⟩ := hI
          refine K.GC.seq ?_
          refine K.GC.seq ?_
          refine K.GC.region ?_
          refine K.GL.det (K.e_move rfl) rfl ?_
          refine K.GL.det (K.e_fieldAddr fo31_2 rfl) rfl ?_
          first | refine K.GL.det (K.e_load Try.isAgg29 rfl rfl) rfl ?_ | refine K.GL.det (K.e_load0 Try.isAgg29 rfl (by assumption)) rfl ?_
          refine K.GL.det (K.e_len Try.underlying29 rfl) rfl ?_
          first | refine K.GL.det ((K.e_lt rfl rfl).yes (by first | omega | assumption | decide +kernel)) rfl ?_ | refine K.GL.det ((K.e_lt rfl rfl).no (by first | omega | assumption | decide +kernel)) rfl ?_ | refine K.GL.det (K.e_lt rfl rfl) rfl ?_
          refine K.GL.nil ?_
          refine K.GQ.go ?_
          refine K.GC.condB rfl (fun h4 => ?_) (fun h4 => ?_)
          · first
            | exact absurd h4 (by decide)
            | try replace h4 := of_decide_eq_true h4
              refine K.GC.skip ?_
              refine K.GQ.go ?_
              refine K.GC.seq ?_
              refine K.GC.block ?_
              refine K.GC.seq ?_
              obtain ⟨e1, he1⟩ := get_ex (l := xa) (i := x.toNat) (by omega)
              obtain ⟨e2, he2⟩ := get_ex (l := xb) (i := x.toNat) (by omega)
              refine K.GC.drawn 11 [[], [0], [], [0, 1, 2], [0, 1, 2, 3], [], [5], [], [5, 6, 7], [5, 6, 7, 8], [0, 1, 2, 3, 4, 5, 6, 7, 8, 9]] [[], [0], [], [1, 2], [3], [], [5], [], [6, 7], [8], [4, 9]] [2, 3, 4, 5, 27, 28, 29, 30, 31, 32, 33] (by kernel_rfl) (by kernel_rfl) rfl ?_
              refine K.DW.det rfl (fun vs => K.e_fieldAddr fo31_2 rfl) ?_
              first | refine K.DW.det rfl (fun vs => K.e_load Try.isAgg29 rfl rfl) ?_ | refine K.DW.det rfl (fun vs => K.e_load0 Try.isAgg29 rfl (by assumption)) ?_
              refine K.DW.det rfl (fun vs => K.e_move rfl) ?_
              first | refine K.DW.det rfl (fun vs => K.e_indexAddrS sl29 rfl rfl (by assumption) (by omega) (by omega)) ?_ | refine K.DW.det rfl (fun vs => K.e_indexAddr sl29 rfl rfl (by omega) (by omega)) ?_
              refine K.DW.det rfl (fun vs => K.e_loads_old Try.isAgg45 Try.sizeOf45 rfl (hA.item encE_len he1) rfl) ?_
              refine K.DW.det rfl (fun vs => K.e_fieldAddr fo31_2 rfl) ?_
              first | refine K.DW.det rfl (fun vs => K.e_load Try.isAgg29 rfl rfl) ?_ | refine K.DW.det rfl (fun vs => K.e_load0 Try.isAgg29 rfl (by assumption)) ?_
              refine K.DW.det rfl (fun vs => K.e_move rfl) ?_
              first | refine K.DW.det rfl (fun vs => K.e_indexAddrS sl29 rfl rfl (by assumption) (by omega) (by omega)) ?_ | refine K.DW.det rfl (fun vs => K.e_indexAddr sl29 rfl rfl (by omega) (by omega)) ?_
              refine K.DW.det rfl (fun vs => K.e_loads_old Try.isAgg45 Try.sizeOf45 rfl (hB.item encE_len he2) rfl) ?_
              refine K.DW.det rfl (fun vs => (K.e_neA eqgExt rfl rfl (fun w => eqExt _ _ _ _ w)).cast_bool (b := decide (¬ (e1.seq = e2.seq ∧ e1.len = e2.len))) (by simp)) ?_
              refine K.DW.fin0 rfl (fun vs => ?_)
              refine K.GL.keep [2, 3, 4, 5, 27, 28, 29, 30, 31, 32, 33, 34, 35, 36, 37, 38, 39, 40, 41, 42, 43, 44] rfl ?_
              clear vs
              refine K.GL.nil ?_
              refine K.GQ.go ?_
              refine K.GC.condB rfl (fun h5 => ?_) (fun h5 => ?_)
              · first
                | exact absurd h5 (by decide)
                | try replace h5 := of_decide_eq_true h5
                  refine K.GC.seq ?_
                  refine K.GC.region ?_
                  refine K.GL.det (K.e_assign rfl) rfl ?_
                  refine K.GL.nil ?_
                  refine K.GQ.go ?_
                  refine K.GC.ret ?_
                  refine K.GQ.block_ret ?_
                  refine K.GQ.then_ret ?_
                  refine K.GQ.then_ret ?_
                  refine K.GQ.block_ret ?_
                  refine K.GQ.then_ret ?_
                  refine K.GQ.ret1 Try.results19 rfl (fun w hT => ?_)
                  first | exact ⟨ret_no (fun ⟨e1, e2, e3⟩ => by first | omega | (subst e3; omega)), hT.nil⟩ | exact ⟨ret_no (fun ⟨_, _, e3⟩ => ext_ne he1 he2 ‹_› e3), hT.nil⟩ | exact ⟨ret_yes ⟨by omega, by omega, by rw [← take_full (l := xa) (n := x.toNat) (by omega), i3, take_full (by omega)]⟩, hT.nil⟩
              · first
                | exact absurd h5 (by decide)
                | try replace h5 := of_decide_eq_false h5
                  refine K.GC.skip ?_
                  refine K.GQ.block_normal ?_
                  refine K.GQ.go ?_
                  refine K.GC.region ?_
                  refine K.GL.det (K.e_move rfl) rfl ?_
                  first | refine K.GL.det (K.e_add rfl rfl ⟨by omega, by omega⟩) rfl ?_ | refine K.GL.det (K.e_addw rfl rfl) rfl ?_
                  refine K.GL.det (K.e_assign rfl) rfl ?_
                  refine K.GL.nil ?_
                  exact K.GQ.round (x + 1) ⟨by omega, by omega, by rw [show (x + 1).toNat = x.toNat + 1 by omega]; exact take_next i3 he1 (by rw [he2, ext_eq (Decidable.of_not_not ‹¬ ¬ (e1.seq = e2.seq ∧ e1.len = e2.len)›)])⟩ (by omega) (by (repeat refine ⟨rfl, ?_⟩); exact trivial) K.sub
          · first
            | exact absurd h4 (by decide)
            | try replace h4 := of_decide_eq_false h4
              refine K.GC.exit ?_
              refine K.GQ.then_exit ?_
              refine K.GQ.then_exit ?_
              refine K.GQ.block_hit ?_
              refine K.GQ.go ?_
              refine K.GC.seq ?_
              refine K.GC.region ?_
              refine K.GL.det (K.e_assign rfl) rfl ?_
              refine K.GL.nil ?_
              refine K.GQ.go ?_
              refine K.GC.ret ?_
              refine K.GQ.ret1 Try.results19 rfl (fun w hT => ?_)
              first | exact ⟨ret_no (fun ⟨e1, e2, e3⟩ => by first | omega | (subst e3; omega)), hT.nil⟩ | exact ⟨ret_no (fun ⟨_, _, e3⟩ => ext_ne he1 he2 ‹_› e3), hT.nil⟩ | exact ⟨ret_yes ⟨by omega, by omega, by rw [← take_full (l := xa) (n := x.toNat) (by omega), i3, take_full (by omega)]⟩, hT.nil⟩
theorem fo45_0 : K.fieldOff Try.prog 45 0 = some (2, 0, 1) := by kernel_rfl
theorem fo45_1 : K.fieldOff Try.prog 45 1 = some (3, 1, 1) := by kernel_rfl
/- turntable/turntableref09.Right -/
set_option maxHeartbeats 4000000 in
set_option maxRecDepth 100000 in
theorem tright_any (ga oa : Int) (ba : Option Addr) (na ca : Nat) (xa : List XExt) (w : World) (hA : Sl w 2 ba na (xa.flatMap encE)) (hn : na ≤ 9223372036854775807) :
    Calls Try.prog 22 #[.agg #[.int .i64 ga, .int .i64 oa, .slice ba na ca]] w fun e w' => e = .returned (.bool (decide (tRight ga oa xa))) ∧ Tr w [] w' [] := by
  have la := hA.count (by omega) encE_len
  refine K.enter0 (args := [_]) Try.func22 rfl Try.ntmps22 rfl ?_
  refine K.GC.seq ?_
  refine K.GC.region ?_
  refine K.GL.box rfl rfl rfl (fun b1 => ?_)
  refine K.GL.det (K.e_assign rfl) rfl ?_
  refine K.GL.nil ?_
  refine K.GQ.go ?_
  refine K.GC.seq ?_
  refine K.GC.region ?_
  refine K.GL.det (K.e_fieldAddr fo31_2 rfl) rfl ?_
  first | refine K.GL.det (K.e_load Try.isAgg29 rfl rfl) rfl ?_ | refine K.GL.det (K.e_load0 Try.isAgg29 rfl (by assumption)) rfl ?_
  refine K.GL.det (K.e_len Try.underlying29 rfl) rfl ?_
  refine K.GL.det (K.e_assign rfl) rfl ?_
  refine K.GL.nil ?_
  refine K.GQ.go ?_
  refine K.GC.seq ?_
  refine K.GC.seq ?_
  refine K.GC.region ?_
  refine K.GL.det (K.e_fieldAddr fo31_0 rfl) rfl ?_
  first | refine K.GL.det (K.e_load Try.isAgg2 rfl rfl) rfl ?_ | refine K.GL.det (K.e_load0 Try.isAgg2 rfl (by assumption)) rfl ?_
  first | refine K.GL.det ((K.e_lt rfl rfl).yes (by first | omega | assumption | decide +kernel)) rfl ?_ | refine K.GL.det ((K.e_lt rfl rfl).no (by first | omega | assumption | decide +kernel)) rfl ?_ | refine K.GL.det (K.e_lt rfl rfl) rfl ?_
  refine K.GL.det (K.e_move rfl) rfl ?_
  first | refine K.GL.splitB 13 rfl (fun h1 => ?_) (fun h1 => ?_) | skip
  all_goals first | exact absurd h1 (by decide) | replace h1 := of_decide_eq_true h1 | replace h1 := of_decide_eq_false h1 | skip
  all_goals
    first | (refine K.GL.want 13 rfl rfl rfl ?_; first | refine K.GL.det (K.e_fieldAddr fo31_0 rfl) rfl ?_) | refine K.GL.skip 13 rfl rfl rfl rfl ?_ | refine K.GL.skipU 13 rfl rfl rfl rfl ?_
    first | (refine K.GL.want 13 rfl rfl rfl ?_; first | refine K.GL.det (K.e_load Try.isAgg2 rfl rfl) rfl ?_ | refine K.GL.det (K.e_load0 Try.isAgg2 rfl (by assumption)) rfl ?_) | refine K.GL.skip 13 rfl rfl rfl rfl ?_ | refine K.GL.skipU 13 rfl rfl rfl rfl ?_
    first | (refine K.GL.want 13 rfl rfl rfl ?_; first | refine K.GL.det ((K.e_gt rfl rfl).yes (by first | omega | assumption | decide +kernel)) rfl ?_ | refine K.GL.det ((K.e_gt rfl rfl).no (by first | omega | assumption | decide +kernel)) rfl ?_ | refine K.GL.det (K.e_gt rfl rfl) rfl ?_) | refine K.GL.skip 13 rfl rfl rfl rfl ?_ | refine K.GL.skipU 13 rfl rfl rfl rfl ?_
    first | refine K.GL.det (K.e_pick_t rfl rfl) rfl ?_ | refine K.GL.det (K.e_pick_f rfl rfl) rfl ?_
    refine K.GL.det (K.e_move rfl) rfl ?_
    first | refine K.GL.splitB 18 rfl (fun h2 => ?_) (fun h2 => ?_) | skip
    all_goals first | exact absurd h2 (by decide) | replace h2 := of_decide_eq_true h2 | replace h2 := of_decide_eq_false h2 | skip
    all_goals
      first | (refine K.GL.want 18 rfl rfl rfl ?_; first | refine K.GL.det (K.e_move rfl) rfl ?_) | refine K.GL.skip 18 rfl rfl rfl rfl ?_ | refine K.GL.skipU 18 rfl rfl rfl rfl ?_
      first | (refine K.GL.want 18 rfl rfl rfl ?_; first | refine K.GL.det ((K.e_lt rfl rfl).yes (by first | omega | assumption | decide +kernel)) rfl ?_ | refine K.GL.det ((K.e_lt rfl rfl).no (by first | omega | assumption | decide +kernel)) rfl ?_ | refine K.GL.det (K.e_lt rfl rfl) rfl ?_) | refine K.GL.skip 18 rfl rfl rfl rfl ?_ | refine K.GL.skipU 18 rfl rfl rfl rfl ?_
      first | refine K.GL.det (K.e_pick_t rfl rfl) rfl ?_ | refine K.GL.det (K.e_pick_f rfl rfl) rfl ?_
      refine K.GL.det (K.e_move rfl) rfl ?_
      first | refine K.GL.splitB 22 rfl (fun h3 => ?_) (fun h3 => ?_) | skip
      all_goals first | exact absurd h3 (by decide) | replace h3 := of_decide_eq_true h3 | replace h3 := of_decide_eq_false h3 | skip
      all_goals
        first | (refine K.GL.want 22 rfl rfl rfl ?_; first | refine K.GL.det (K.e_move rfl) rfl ?_) | refine K.GL.skip 22 rfl rfl rfl rfl ?_ | refine K.GL.skipU 22 rfl rfl rfl rfl ?_
        first | (refine K.GL.want 22 rfl rfl rfl ?_; first | refine K.GL.det ((K.e_gt rfl rfl).yes (by first | omega | assumption | decide +kernel)) rfl ?_ | refine K.GL.det ((K.e_gt rfl rfl).no (by first | omega | assumption | decide +kernel)) rfl ?_ | refine K.GL.det (K.e_gt rfl rfl) rfl ?_) | refine K.GL.skip 22 rfl rfl rfl rfl ?_ | refine K.GL.skipU 22 rfl rfl rfl rfl ?_
        first | refine K.GL.det (K.e_pick_t rfl rfl) rfl ?_ | refine K.GL.det (K.e_pick_f rfl rfl) rfl ?_
        refine K.GL.det (K.e_move rfl) rfl ?_
        first | refine K.GL.splitB 26 rfl (fun h4 => ?_) (fun h4 => ?_) | skip
        all_goals first | exact absurd h4 (by decide) | replace h4 := of_decide_eq_true h4 | replace h4 := of_decide_eq_false h4 | skip
        all_goals
          first | (refine K.GL.want 26 rfl rfl rfl ?_; first | refine K.GL.det (K.e_fieldAddr fo31_1 rfl) rfl ?_) | refine K.GL.skip 26 rfl rfl rfl rfl ?_ | refine K.GL.skipU 26 rfl rfl rfl rfl ?_
          first | (refine K.GL.want 26 rfl rfl rfl ?_; first | refine K.GL.det (K.e_load Try.isAgg3 rfl rfl) rfl ?_ | refine K.GL.det (K.e_load0 Try.isAgg3 rfl (by assumption)) rfl ?_) | refine K.GL.skip 26 rfl rfl rfl rfl ?_ | refine K.GL.skipU 26 rfl rfl rfl rfl ?_
          first | (refine K.GL.want 26 rfl rfl rfl ?_; first | refine K.GL.det ((K.e_lt rfl rfl).yes (by first | omega | assumption | decide +kernel)) rfl ?_ | refine K.GL.det ((K.e_lt rfl rfl).no (by first | omega | assumption | decide +kernel)) rfl ?_ | refine K.GL.det (K.e_lt rfl rfl) rfl ?_) | refine K.GL.skip 26 rfl rfl rfl rfl ?_ | refine K.GL.skipU 26 rfl rfl rfl rfl ?_
          first | refine K.GL.det (K.e_pick_t rfl rfl) rfl ?_ | refine K.GL.det (K.e_pick_f rfl rfl) rfl ?_
          refine K.GL.det (K.e_move rfl) rfl ?_
          first | refine K.GL.splitB 31 rfl (fun h5 => ?_) (fun h5 => ?_) | skip
          all_goals first | exact absurd h5 (by decide) | replace h5 := of_decide_eq_true h5 | replace h5 := of_decide_eq_false h5 | skip
          all_goals
            first | (refine K.GL.want 31 rfl rfl rfl ?_; first | refine K.GL.det (K.e_fieldAddr fo31_1 rfl) rfl ?_) | refine K.GL.skip 31 rfl rfl rfl rfl ?_ | refine K.GL.skipU 31 rfl rfl rfl rfl ?_
            first | (refine K.GL.want 31 rfl rfl rfl ?_; first | refine K.GL.det (K.e_load Try.isAgg3 rfl rfl) rfl ?_ | refine K.GL.det (K.e_load0 Try.isAgg3 rfl (by assumption)) rfl ?_) | refine K.GL.skip 31 rfl rfl rfl rfl ?_ | refine K.GL.skipU 31 rfl rfl rfl rfl ?_
            first | (refine K.GL.want 31 rfl rfl rfl ?_; first | refine K.GL.det (K.e_move rfl) rfl ?_) | refine K.GL.skip 31 rfl rfl rfl rfl ?_ | refine K.GL.skipU 31 rfl rfl rfl rfl ?_
            first | (refine K.GL.want 31 rfl rfl rfl ?_; first | refine K.GL.det ((K.e_ge rfl rfl).yes (by first | omega | assumption | decide +kernel)) rfl ?_ | refine K.GL.det ((K.e_ge rfl rfl).no (by first | omega | assumption | decide +kernel)) rfl ?_ | refine K.GL.det (K.e_ge rfl rfl) rfl ?_) | refine K.GL.skip 31 rfl rfl rfl rfl ?_ | refine K.GL.skipU 31 rfl rfl rfl rfl ?_
            first | refine K.GL.det (K.e_pick_t rfl rfl) rfl ?_ | refine K.GL.det (K.e_pick_f rfl rfl) rfl ?_
            refine K.GL.nil ?_
            refine K.GQ.go ?_
            refine K.GC.condB rfl (fun h6 => ?_) (fun h6 => ?_)
            · first
              | exact absurd h6 (by decide)
              | try replace h6 := of_decide_eq_true h6
                refine K.GC.seq ?_
                refine K.GC.region ?_
                refine K.GL.det (K.e_assign rfl) rfl ?_
                refine K.GL.nil ?_
                refine K.GQ.go ?_
                refine K.GC.ret ?_
                refine K.GQ.then_ret ?_
                refine K.GQ.ret1 Try.results22 rfl (fun w hT => ?_)
                first | exact ⟨ret_no (fun ⟨e1, e2, e3, e4, e5, e6, e7, e8, e9⟩ => by omega), hT.nil⟩ | exact ⟨ret_no (fun h => Upto.bad he1 (fun ⟨o1, o2, o3, o4, o5⟩ => by omega) h.2.2.2.2.2.2.1), hT.nil⟩ | exact ⟨ret_no (fun h => unl_bad he1 he2 (by omega) (by omega) (by omega) h.2.2.2.2.2.2.2.1), hT.nil⟩ | exact ⟨ret_yes ⟨by omega, by omega, by omega, by omega, by omega, by omega, k1, k2, .inl ho⟩, hT.nil⟩ | exact ⟨ret_yes ⟨by omega, by omega, by omega, by omega, by omega, by omega, k1, k2, .inr (by rw [he3]; exact ⟨by omega, by omega⟩)⟩, hT.nil⟩ | exact ⟨ret_no (fun h => h.2.2.2.2.2.2.2.2.elim (by omega) (by rw [he3]; rintro ⟨q1, q2⟩; omega)), hT.nil⟩ | exact ⟨ret_iff ⟨fun hq => ⟨by omega, by omega, by omega, by omega, by omega, by omega, k1, k2, .inr (by rw [he3]; exact ⟨by omega, hq⟩)⟩, fun h => h.2.2.2.2.2.2.2.2.elim (fun h => absurd h (by omega)) (by rw [he3]; exact fun q => q.2)⟩, hT.nil⟩
            · first
              | exact absurd h6 (by decide)
              | try replace h6 := of_decide_eq_false h6
                refine K.GC.skip ?_
                refine K.GQ.go ?_
                refine K.GC.seq ?_
                refine K.GC.seq ?_
                refine K.GC.region ?_
                refine K.GL.det (K.e_assign rfl) rfl ?_
                refine K.GL.nil ?_
                refine K.GQ.go ?_
                refine K.GC.block ?_
                refine K.GC.loopk (α := Int) [1, 3, 94, 95, 96, 97, 98, 99, 100, 101, 102, 103, 104, 105, 106, 107, 108, 109, 110, 111, 112, 113, 114, 115, 116] rfl (fun x => [(4, .int .i64 x)]) (fun x => _) (fun x => 0 ≤ x ∧ x ≤ na ∧ Upto xa x.toNat) (fun x => ((na : Int) - x).toNat) 0 ⟨by omega, by omega, Upto.zero _⟩ (by (repeat refine ⟨rfl, ?_⟩); exact trivial) (K.Sub.refl _) (fun x hI => ?_)
                obtain ⟨i1, i2, i3⟩ := hI
                refine K.GC.seq ?_
                refine K.GC.seq ?_
                refine K.GC.region ?_
                refine K.GL.det (K.e_move rfl) rfl ?_
                refine K.GL.det (K.e_move rfl) rfl ?_
                first | refine K.GL.det ((K.e_lt rfl rfl).yes (by first | omega | assumption | decide +kernel)) rfl ?_ | refine K.GL.det ((K.e_lt rfl rfl).no (by first | omega | assumption | decide +kernel)) rfl ?_ | refine K.GL.det (K.e_lt rfl rfl) rfl ?_
                refine K.GL.nil ?_
                refine K.GQ.go ?_
                refine K.GC.condB rfl (fun h7 => ?_) (fun h7 => ?_)
                · first
                  | exact absurd h7 (by decide)
                  | try replace h7 := of_decide_eq_true h7
                    refine K.GC.skip ?_
                    refine K.GQ.go ?_
                    refine K.GC.seq ?_
                    refine K.GC.block ?_
                    refine K.GC.seq ?_
                    obtain ⟨e1, he1⟩ := get_ex (l := xa) (i := x.toNat) (by omega)
                    refine K.GC.region ?_
                    refine K.GL.det (K.e_fieldAddr fo31_2 rfl) rfl ?_
                    first | refine K.GL.det (K.e_load Try.isAgg29 rfl rfl) rfl ?_ | refine K.GL.det (K.e_load0 Try.isAgg29 rfl (by assumption)) rfl ?_
                    refine K.GL.det (K.e_move rfl) rfl ?_
                    first | refine K.GL.det (K.e_indexAddrS sl29 rfl rfl (by assumption) (by omega) (by omega)) rfl ?_ | refine K.GL.det (K.e_indexAddr sl29 rfl rfl (by omega) (by omega)) rfl ?_
                    refine K.GL.det (K.e_loads_old Try.isAgg45 Try.sizeOf45 rfl (hA.item encE_len he1) rfl) rfl ?_
                    refine K.GL.alloc Try.zeroValue45 rfl rfl (fun b5 => ?_)
                    refine K.GL.store rfl rfl rfl Try.sizeOf45 rfl rfl ?_
                    refine K.GL.nil ?_
                    refine K.GQ.go ?_
                    refine K.GC.seq ?_
                    refine K.GC.seq ?_
                    refine K.GC.region ?_
                    refine K.GL.det (K.e_fieldAddr fo45_0 rfl) rfl ?_
                    first | refine K.GL.det (K.e_load Try.isAgg2 rfl rfl) rfl ?_ | refine K.GL.det (K.e_load0 Try.isAgg2 rfl (by assumption)) rfl ?_
                    first | refine K.GL.det ((K.e_lt rfl rfl).yes (by first | omega | assumption | decide +kernel)) rfl ?_ | refine K.GL.det ((K.e_lt rfl rfl).no (by first | omega | assumption | decide +kernel)) rfl ?_ | refine K.GL.det (K.e_lt rfl rfl) rfl ?_
                    refine K.GL.det (K.e_move rfl) rfl ?_
                    first | refine K.GL.splitB 50 rfl (fun h8 => ?_) (fun h8 => ?_) | skip
                    all_goals first | exact absurd h8 (by decide) | replace h8 := of_decide_eq_true h8 | replace h8 := of_decide_eq_false h8 | skip
                    all_goals
                      first | (refine K.GL.want 50 rfl rfl rfl ?_; first | refine K.GL.det (K.e_fieldAddr fo45_0 rfl) rfl ?_) | refine K.GL.skip 50 rfl rfl rfl rfl ?_ | refine K.GL.skipU 50 rfl rfl rfl rfl ?_
                      first | (refine K.GL.want 50 rfl rfl rfl ?_; first | refine K.GL.det (K.e_load Try.isAgg2 rfl rfl) rfl ?_ | refine K.GL.det (K.e_load0 Try.isAgg2 rfl (by assumption)) rfl ?_) | refine K.GL.skip 50 rfl rfl rfl rfl ?_ | refine K.GL.skipU 50 rfl rfl rfl rfl ?_
                      first | (refine K.GL.want 50 rfl rfl rfl ?_; first | refine K.GL.det ((K.e_gt rfl rfl).yes (by first | omega | assumption | decide +kernel)) rfl ?_ | refine K.GL.det ((K.e_gt rfl rfl).no (by first | omega | assumption | decide +kernel)) rfl ?_ | refine K.GL.det (K.e_gt rfl rfl) rfl ?_) | refine K.GL.skip 50 rfl rfl rfl rfl ?_ | refine K.GL.skipU 50 rfl rfl rfl rfl ?_
                      first | refine K.GL.det (K.e_pick_t rfl rfl) rfl ?_ | refine K.GL.det (K.e_pick_f rfl rfl) rfl ?_
                      refine K.GL.det (K.e_move rfl) rfl ?_
                      first | refine K.GL.splitB 55 rfl (fun h9 => ?_) (fun h9 => ?_) | skip
                      all_goals first | exact absurd h9 (by decide) | replace h9 := of_decide_eq_true h9 | replace h9 := of_decide_eq_false h9 | skip
                      all_goals
                        first | (refine K.GL.want 55 rfl rfl rfl ?_; first | refine K.GL.det (K.e_fieldAddr fo45_1 rfl) rfl ?_) | refine K.GL.skip 55 rfl rfl rfl rfl ?_ | refine K.GL.skipU 55 rfl rfl rfl rfl ?_
                        first | (refine K.GL.want 55 rfl rfl rfl ?_; first | refine K.GL.det (K.e_load Try.isAgg3 rfl rfl) rfl ?_ | refine K.GL.det (K.e_load0 Try.isAgg3 rfl (by assumption)) rfl ?_) | refine K.GL.skip 55 rfl rfl rfl rfl ?_ | refine K.GL.skipU 55 rfl rfl rfl rfl ?_
                        first | (refine K.GL.want 55 rfl rfl rfl ?_; first | refine K.GL.det ((K.e_lt rfl rfl).yes (by first | omega | assumption | decide +kernel)) rfl ?_ | refine K.GL.det ((K.e_lt rfl rfl).no (by first | omega | assumption | decide +kernel)) rfl ?_ | refine K.GL.det (K.e_lt rfl rfl) rfl ?_) | refine K.GL.skip 55 rfl rfl rfl rfl ?_ | refine K.GL.skipU 55 rfl rfl rfl rfl ?_
                        first | refine K.GL.det (K.e_pick_t rfl rfl) rfl ?_ | refine K.GL.det (K.e_pick_f rfl rfl) rfl ?_
                        refine K.GL.det (K.e_move rfl) rfl ?_
                        first | refine K.GL.splitB 60 rfl (fun h10 => ?_) (fun h10 => ?_) | skip
                        all_goals first | exact absurd h10 (by decide) | replace h10 := of_decide_eq_true h10 | replace h10 := of_decide_eq_false h10 | skip
                        all_goals
                          first | (refine K.GL.want 60 rfl rfl rfl ?_; first | refine K.GL.det (K.e_fieldAddr fo45_1 rfl) rfl ?_) | refine K.GL.skip 60 rfl rfl rfl rfl ?_ | refine K.GL.skipU 60 rfl rfl rfl rfl ?_
                          first | (refine K.GL.want 60 rfl rfl rfl ?_; first | refine K.GL.det (K.e_load Try.isAgg3 rfl rfl) rfl ?_ | refine K.GL.det (K.e_load0 Try.isAgg3 rfl (by assumption)) rfl ?_) | refine K.GL.skip 60 rfl rfl rfl rfl ?_ | refine K.GL.skipU 60 rfl rfl rfl rfl ?_
                          first | (refine K.GL.want 60 rfl rfl rfl ?_; first | refine K.GL.det ((K.e_gt rfl rfl).yes (by first | omega | assumption | decide +kernel)) rfl ?_ | refine K.GL.det ((K.e_gt rfl rfl).no (by first | omega | assumption | decide +kernel)) rfl ?_ | refine K.GL.det (K.e_gt rfl rfl) rfl ?_) | refine K.GL.skip 60 rfl rfl rfl rfl ?_ | refine K.GL.skipU 60 rfl rfl rfl rfl ?_
                          first | refine K.GL.det (K.e_pick_t rfl rfl) rfl ?_ | refine K.GL.det (K.e_pick_f rfl rfl) rfl ?_
                          refine K.GL.det (K.e_move rfl) rfl ?_
                          first | refine K.GL.splitB 65 rfl (fun h11 => ?_) (fun h11 => ?_) | skip
                          all_goals first | exact absurd h11 (by decide) | replace h11 := of_decide_eq_true h11 | replace h11 := of_decide_eq_false h11 | skip
                          all_goals
                            first | (refine K.GL.want 65 rfl rfl rfl ?_; first | refine K.GL.det (K.e_fieldAddr fo45_0 rfl) rfl ?_) | refine K.GL.skip 65 rfl rfl rfl rfl ?_ | refine K.GL.skipU 65 rfl rfl rfl rfl ?_
                            first | (refine K.GL.want 65 rfl rfl rfl ?_; first | refine K.GL.det (K.e_load Try.isAgg2 rfl rfl) rfl ?_ | refine K.GL.det (K.e_load0 Try.isAgg2 rfl (by assumption)) rfl ?_) | refine K.GL.skip 65 rfl rfl rfl rfl ?_ | refine K.GL.skipU 65 rfl rfl rfl rfl ?_
                            first | (refine K.GL.want 65 rfl rfl rfl ?_; first | refine K.GL.det ((K.e_eq rfl rfl).yes (by first | omega | assumption | decide +kernel)) rfl ?_ | refine K.GL.det ((K.e_eq rfl rfl).no (by first | omega | assumption | decide +kernel)) rfl ?_ | refine K.GL.det (K.e_eq rfl rfl) rfl ?_) | refine K.GL.skip 65 rfl rfl rfl rfl ?_ | refine K.GL.skipU 65 rfl rfl rfl rfl ?_
                            first | (refine K.GL.want 65 rfl rfl rfl ?_; first | refine K.GL.det (K.e_move rfl) rfl ?_) | refine K.GL.skip 65 rfl rfl rfl rfl ?_ | refine K.GL.skipU 65 rfl rfl rfl rfl ?_
                            first | refine K.GL.splitB 69 rfl (fun h12 => ?_) (fun h12 => ?_) | skip
                            all_goals first | exact absurd h12 (by decide) | replace h12 := of_decide_eq_true h12 | replace h12 := of_decide_eq_false h12 | skip
                            all_goals
                              first | (refine K.GL.want 69 rfl rfl rfl ?_; first | refine K.GL.det (K.e_fieldAddr fo45_1 rfl) rfl ?_) | refine K.GL.skip 69 rfl rfl rfl rfl ?_ | refine K.GL.skipU 69 rfl rfl rfl rfl ?_
                              first | (refine K.GL.want 69 rfl rfl rfl ?_; first | refine K.GL.det (K.e_load Try.isAgg3 rfl rfl) rfl ?_ | refine K.GL.det (K.e_load0 Try.isAgg3 rfl (by assumption)) rfl ?_) | refine K.GL.skip 69 rfl rfl rfl rfl ?_ | refine K.GL.skipU 69 rfl rfl rfl rfl ?_
                              first | (refine K.GL.want 69 rfl rfl rfl ?_; first | refine K.GL.det ((K.e_ne rfl rfl).yes (by first | omega | assumption | decide +kernel)) rfl ?_ | refine K.GL.det ((K.e_ne rfl rfl).no (by first | omega | assumption | decide +kernel)) rfl ?_ | refine K.GL.det (K.e_ne rfl rfl) rfl ?_) | refine K.GL.skip 69 rfl rfl rfl rfl ?_ | refine K.GL.skipU 69 rfl rfl rfl rfl ?_
                              first | (refine K.GL.want 65 rfl rfl rfl ?_; first | refine K.GL.det (K.e_pick_t rfl rfl) rfl ?_ | refine K.GL.det (K.e_pick_f rfl rfl) rfl ?_) | refine K.GL.skip 65 rfl rfl rfl rfl ?_ | refine K.GL.skipU 65 rfl rfl rfl rfl ?_
                              first | refine K.GL.det (K.e_pick_t rfl rfl) rfl ?_ | refine K.GL.det (K.e_pick_f rfl rfl) rfl ?_
                              refine K.GL.nil ?_
                              refine K.GQ.go ?_
                              refine K.GC.condB rfl (fun h13 => ?_) (fun h13 => ?_)
                              · first
                                | exact absurd h13 (by decide)
                                | try replace h13 := of_decide_eq_true h13
                                  refine K.GC.seq ?_
                                  refine K.GC.region ?_
                                  refine K.GL.det (K.e_assign rfl) rfl ?_
                                  refine K.GL.nil ?_
                                  refine K.GQ.go ?_
                                  refine K.GC.ret ?_
                                  refine K.GQ.then_ret ?_
                                  refine K.GQ.block_ret ?_
                                  refine K.GQ.then_ret ?_
                                  refine K.GQ.then_ret ?_
                                  refine K.GQ.block_ret ?_
                                  refine K.GQ.then_ret ?_
                                  refine K.GQ.ret1 Try.results22 rfl (fun w hT => ?_)
                                  first | exact ⟨ret_no (fun ⟨e1, e2, e3, e4, e5, e6, e7, e8, e9⟩ => by omega), hT.nil⟩ | exact ⟨ret_no (fun h => Upto.bad he1 (fun ⟨o1, o2, o3, o4, o5⟩ => by omega) h.2.2.2.2.2.2.1), hT.nil⟩ | exact ⟨ret_no (fun h => unl_bad he1 he2 (by omega) (by omega) (by omega) h.2.2.2.2.2.2.2.1), hT.nil⟩ | exact ⟨ret_yes ⟨by omega, by omega, by omega, by omega, by omega, by omega, k1, k2, .inl ho⟩, hT.nil⟩ | exact ⟨ret_yes ⟨by omega, by omega, by omega, by omega, by omega, by omega, k1, k2, .inr (by rw [he3]; exact ⟨by omega, by omega⟩)⟩, hT.nil⟩ | exact ⟨ret_no (fun h => h.2.2.2.2.2.2.2.2.elim (by omega) (by rw [he3]; rintro ⟨q1, q2⟩; omega)), hT.nil⟩ | exact ⟨ret_iff ⟨fun hq => ⟨by omega, by omega, by omega, by omega, by omega, by omega, k1, k2, .inr (by rw [he3]; exact ⟨by omega, hq⟩)⟩, fun h => h.2.2.2.2.2.2.2.2.elim (fun h => absurd h (by omega)) (by rw [he3]; exact fun q => q.2)⟩, hT.nil⟩
                              · first
                                | exact absurd h13 (by decide)
                                | try replace h13 := of_decide_eq_false h13
                                  refine K.GC.skip ?_
                                  refine K.GQ.go ?_
                                  refine K.GC.seq ?_
                                  refine K.GC.region ?_
                                  refine K.GL.det (K.e_assign rfl) rfl ?_
                                  refine K.GL.nil ?_
                                  refine K.GQ.go ?_
                                  refine K.GC.block ?_
                                  refine K.GC.loopk (α := Int) [1, 3, 4, 5, 37, 38, 39, 40, 41, 42, 43, 44, 45, 46, 47, 48, 49, 50, 51, 52, 53, 54, 55, 56, 57, 58, 59, 60, 61, 62, 63, 64, 65, 66, 67, 68, 69, 70, 71, 72, 73, 74, 94, 95, 96, 97, 98, 99, 100, 101, 102, 103, 104, 105, 106, 107, 108, 109, 110, 111, 112, 113, 114, 115, 116] rfl (fun y => [(6, .int .i64 y)]) (fun y => _) (fun y => 0 ≤ y ∧ y ≤ x ∧ ∀ z ∈ xa.take y.toNat, Unl z e1) (fun y => (x - y).toNat) 0 ⟨by omega, by omega, by simp⟩ (by (repeat refine ⟨rfl, ?_⟩); exact trivial) (K.Sub.refl _) (fun y hI => ?_)
                                  obtain ⟨j1, j2, j3⟩ := hI
                                  refine K.GC.seq ?_
                                  refine K.GC.seq ?_
                                  refine K.GC.region ?_
                                  refine K.GL.det (K.e_move rfl) rfl ?_
                                  refine K.GL.det (K.e_move rfl) rfl ?_
                                  first | refine K.GL.det ((K.e_lt rfl rfl).yes (by first | omega | assumption | decide +kernel)) rfl ?_ | refine K.GL.det ((K.e_lt rfl rfl).no (by first | omega | assumption | decide +kernel)) rfl ?_ | refine K.GL.det (K.e_lt rfl rfl) rfl ?_
                                  refine K.GL.nil ?_
                                  refine K.GQ.go ?_
                                  refine K.GC.condB rfl (fun h14 => ?_) (fun h14 => ?_)
                                  · first
                                    | exact absurd h14 (by decide)
                                    | try replace h14 := of_decide_eq_true h14
                                      refine K.GC.skip ?_
                                      refine K.GQ.go ?_
                                      refine K.GC.seq ?_
                                      refine K.GC.block ?_
                                      refine K.GC.seq ?_
                                      obtain ⟨e2, he2⟩ := get_ex (l := xa) (i := y.toNat) (by omega)
                                      refine K.GC.drawn 14 [[], [0], [0, 1], [0, 1, 2], [0, 1, 2, 3], [0, 1, 2, 3, 4], [0, 1, 2, 3], [0, 1, 2, 3, 4, 5, 6], [0, 1, 2, 3, 4, 5, 6, 7], [0, 1, 2, 3, 4, 5, 6, 7, 8], [0, 1, 2, 3], [0, 1, 2, 3, 10], [0, 1, 2, 3, 4, 5, 6, 7, 8, 9, 10, 11], [0, 1, 2, 3, 4, 5, 6, 7, 8, 9, 10, 11, 12]] [[], [0], [1], [2], [3], [3, 4], [3], [3, 5, 6], [3, 7], [3, 8], [3], [3, 10], [3, 9, 11], [3, 12]] [1, 2, 3, 4, 5, 6, 37, 38, 39, 40, 41, 42, 43, 44, 45, 46, 47, 48, 49, 50, 51, 52, 53, 54, 55, 56, 57, 58, 59, 60, 61, 62, 63, 64, 65, 66, 67, 68, 69, 70, 71, 72, 73, 74, 75, 76, 77, 78, 79, 94, 95, 96, 97, 98, 99, 100, 101, 102, 103, 104, 105, 106, 107, 108, 109, 110, 111, 112, 113, 114, 115, 116] (by kernel_rfl) (by kernel_rfl) rfl ?_
                                      rcases (by omega : e1.seq = 0 ∨ e1.seq ≠ 0) with hz | hz
                                      all_goals
                                        refine K.DW.det rfl (fun vs => K.e_fieldAddr fo45_0 rfl) ?_
                                        first | refine K.DW.det rfl (fun vs => K.e_load Try.isAgg2 rfl rfl) ?_ | refine K.DW.det rfl (fun vs => K.e_load0 Try.isAgg2 rfl (by assumption)) ?_
                                        first | refine K.DW.det rfl (fun vs => (K.e_ne rfl rfl).yes (by first | omega | assumption | decide +kernel)) ?_ | refine K.DW.det rfl (fun vs => (K.e_ne rfl rfl).no (by first | omega | assumption | decide +kernel)) ?_ | refine K.DW.det rfl (fun vs => K.e_ne rfl rfl) ?_
                                        refine K.DW.det rfl (fun vs => K.e_move rfl) ?_
                                        first | (refine K.DW.want (fun _ => rfl) ?_; first | refine K.DW.det rfl (fun vs => K.e_fieldAddr fo31_2 rfl) ?_) | refine K.DW.skip (fun _ => rfl) ?_
                                        first | (refine K.DW.want (fun _ => rfl) ?_; first | refine K.DW.det rfl (fun vs => K.e_load Try.isAgg29 rfl rfl) ?_ | refine K.DW.det rfl (fun vs => K.e_load0 Try.isAgg29 rfl (by assumption)) ?_) | refine K.DW.skip (fun _ => rfl) ?_
                                        first | (refine K.DW.want (fun _ => rfl) ?_; first | refine K.DW.det rfl (fun vs => K.e_move rfl) ?_) | refine K.DW.skip (fun _ => rfl) ?_
                                        first | (refine K.DW.want (fun _ => rfl) ?_; first | refine K.DW.det rfl (fun vs => K.e_indexAddrS sl29 rfl rfl (by assumption) (by omega) (by omega)) ?_ | refine K.DW.det rfl (fun vs => K.e_indexAddr sl29 rfl rfl (by omega) (by omega)) ?_) | refine K.DW.skip (fun _ => rfl) ?_
                                        first | (refine K.DW.want (fun _ => rfl) ?_; first | refine K.DW.det rfl (fun vs => K.e_fieldAddr fo45_0 rfl) ?_) | refine K.DW.skip (fun _ => rfl) ?_
                                        first | (refine K.DW.want (fun _ => rfl) ?_; first | refine K.DW.det rfl (fun vs => K.e_load_old Try.isAgg2 rfl (hA.item encE_len he2 0 _ rfl)) ?_) | refine K.DW.skip (fun _ => rfl) ?_
                                        first | (refine K.DW.want (fun _ => rfl) ?_; first | refine K.DW.det rfl (fun vs => K.e_fieldAddr fo45_0 rfl) ?_) | refine K.DW.skip (fun _ => rfl) ?_
                                        first | (refine K.DW.want (fun _ => rfl) ?_; first | refine K.DW.det rfl (fun vs => K.e_load Try.isAgg2 rfl rfl) ?_ | refine K.DW.det rfl (fun vs => K.e_load0 Try.isAgg2 rfl (by assumption)) ?_) | refine K.DW.skip (fun _ => rfl) ?_
                                        first | (refine K.DW.want (fun _ => rfl) ?_; first | refine K.DW.det rfl (fun vs => (K.e_eq rfl rfl).yes (by first | omega | assumption | decide +kernel)) ?_ | refine K.DW.det rfl (fun vs => (K.e_eq rfl rfl).no (by first | omega | assumption | decide +kernel)) ?_ | refine K.DW.det rfl (fun vs => K.e_eq rfl rfl) ?_) | refine K.DW.skip (fun _ => rfl) ?_
                                        first | refine K.DW.det rfl (fun vs => K.e_pick_t rfl rfl) ?_ | refine K.DW.det rfl (fun vs => K.e_pick_f rfl rfl) ?_
                                        refine K.DW.fin0 rfl (fun vs => ?_)
                                        refine K.GL.keep [1, 2, 3, 4, 5, 6, 37, 38, 39, 40, 41, 42, 43, 44, 45, 46, 47, 48, 49, 50, 51, 52, 53, 54, 55, 56, 57, 58, 59, 60, 61, 62, 63, 64, 65, 66, 67, 68, 69, 70, 71, 72, 73, 74, 75, 76, 77, 78, 79, 80, 81, 82, 83, 84, 85, 86, 87, 88, 89, 90, 91, 92, 93, 94, 95, 96, 97, 98, 99, 100, 101, 102, 103, 104, 105, 106, 107, 108, 109, 110, 111, 112, 113, 114, 115, 116] rfl ?_
                                        clear vs
                                        refine K.GL.nil ?_
                                        refine K.GQ.go ?_
                                        refine K.GC.condB rfl (fun h15 => ?_) (fun h15 => ?_)
                                        · first
                                          | exact absurd h15 (by decide)
                                          | try replace h15 := of_decide_eq_true h15
                                            refine K.GC.seq ?_
                                            refine K.GC.region ?_
                                            refine K.GL.det (K.e_assign rfl) rfl ?_
                                            refine K.GL.nil ?_
                                            refine K.GQ.go ?_
                                            refine K.GC.ret ?_
                                            refine K.GQ.block_ret ?_
                                            refine K.GQ.then_ret ?_
                                            refine K.GQ.then_ret ?_
                                            refine K.GQ.block_ret ?_
                                            refine K.GQ.block_ret ?_
                                            refine K.GQ.then_ret ?_
                                            refine K.GQ.then_ret ?_
                                            refine K.GQ.block_ret ?_
                                            refine K.GQ.then_ret ?_
                                            refine K.GQ.ret1 Try.results22 rfl (fun w hT => ?_)
                                            first | exact ⟨ret_no (fun ⟨e1, e2, e3, e4, e5, e6, e7, e8, e9⟩ => by omega), hT.nil⟩ | exact ⟨ret_no (fun h => Upto.bad he1 (fun ⟨o1, o2, o3, o4, o5⟩ => by omega) h.2.2.2.2.2.2.1), hT.nil⟩ | exact ⟨ret_no (fun h => unl_bad he1 he2 (by omega) (by omega) (by omega) h.2.2.2.2.2.2.2.1), hT.nil⟩ | exact ⟨ret_yes ⟨by omega, by omega, by omega, by omega, by omega, by omega, k1, k2, .inl ho⟩, hT.nil⟩ | exact ⟨ret_yes ⟨by omega, by omega, by omega, by omega, by omega, by omega, k1, k2, .inr (by rw [he3]; exact ⟨by omega, by omega⟩)⟩, hT.nil⟩ | exact ⟨ret_no (fun h => h.2.2.2.2.2.2.2.2.elim (by omega) (by rw [he3]; rintro ⟨q1, q2⟩; omega)), hT.nil⟩ | exact ⟨ret_iff ⟨fun hq => ⟨by omega, by omega, by omega, by omega, by omega, by omega, k1, k2, .inr (by rw [he3]; exact ⟨by omega, hq⟩)⟩, fun h => h.2.2.2.2.2.2.2.2.elim (fun h => absurd h (by omega)) (by rw [he3]; exact fun q => q.2)⟩, hT.nil⟩
                                        · first
                                          | exact absurd h15 (by decide)
                                          | try replace h15 := of_decide_eq_false h15
                                            refine K.GC.skip ?_
                                            refine K.GQ.block_normal ?_
                                            refine K.GQ.go ?_
                                            refine K.GC.region ?_
                                            refine K.GL.det (K.e_move rfl) rfl ?_
                                            first | refine K.GL.det (K.e_add rfl rfl ⟨by omega, by omega⟩) rfl ?_ | refine K.GL.det (K.e_addw rfl rfl) rfl ?_
                                            refine K.GL.det (K.e_assign rfl) rfl ?_
                                            refine K.GL.nil ?_
                                            exact K.GQ.round (y + 1) ⟨by omega, by omega, by rw [show (y + 1).toNat = y.toNat + 1 by omega]; exact take_snoc he2 j3 (fun _ => by omega)⟩ (by omega) (by (repeat refine ⟨rfl, ?_⟩); exact trivial) K.sub
                                  · first
                                    | exact absurd h14 (by decide)
                                    | try replace h14 := of_decide_eq_false h14
                                      refine K.GC.exit ?_
                                      refine K.GQ.then_exit ?_
                                      refine K.GQ.then_exit ?_
                                      refine K.GQ.block_hit ?_
                                      refine K.GQ.block_normal ?_
                                      refine K.GQ.go ?_
                                      refine K.GC.region ?_
                                      refine K.GL.det (K.e_move rfl) rfl ?_
                                      first | refine K.GL.det (K.e_add rfl rfl ⟨by omega, by omega⟩) rfl ?_ | refine K.GL.det (K.e_addw rfl rfl) rfl ?_
                                      refine K.GL.det (K.e_assign rfl) rfl ?_
                                      refine K.GL.nil ?_
                                      exact K.GQ.round (x + 1) ⟨by omega, by omega, by rw [show (x + 1).toNat = x.toNat + 1 by omega]; exact i3.next he1 ⟨by omega, by omega, by omega, by omega, by omega⟩ (by rw [show x.toNat = y.toNat by omega]; exact j3)⟩ (by omega) (by (repeat refine ⟨rfl, ?_⟩); exact trivial) K.sub
                · first
                  | exact absurd h7 (by decide)
                  | try replace h7 := of_decide_eq_false h7
                    refine K.GC.exit ?_
                    refine K.GQ.then_exit ?_
                    refine K.GQ.then_exit ?_
                    refine K.GQ.block_hit ?_
                    refine K.GQ.go ?_
                    refine K.GC.seq ?_
                    obtain ⟨k1, k2⟩ := i3.all (by omega)
                    rcases (by omega : oa < 0 ∨ 0 ≤ oa) with ho | ho
                    all_goals try obtain ⟨e3, he3⟩ := get_ex (l := xa) (i := oa.toNat) (by omega)
                    all_goals
                      refine K.GC.region ?_
                      refine K.GL.det (K.e_fieldAddr fo31_1 rfl) rfl ?_
                      first | refine K.GL.det (K.e_load Try.isAgg3 rfl rfl) rfl ?_ | refine K.GL.det (K.e_load0 Try.isAgg3 rfl (by assumption)) rfl ?_
                      first | refine K.GL.det ((K.e_lt rfl rfl).yes (by first | omega | assumption | decide +kernel)) rfl ?_ | refine K.GL.det ((K.e_lt rfl rfl).no (by first | omega | assumption | decide +kernel)) rfl ?_ | refine K.GL.det (K.e_lt rfl rfl) rfl ?_
                      refine K.GL.det (K.e_move rfl) rfl ?_
                      first | refine K.GL.splitB 97 rfl (fun h16 => ?_) (fun h16 => ?_) | skip
                      all_goals first | exact absurd h16 (by decide) | replace h16 := of_decide_eq_true h16 | replace h16 := of_decide_eq_false h16 | skip
                      all_goals
                        first | (refine K.GL.want 97 rfl rfl rfl ?_; first | refine K.GL.det (K.e_fieldAddr fo31_2 rfl) rfl ?_) | refine K.GL.skip 97 rfl rfl rfl rfl ?_ | refine K.GL.skipU 97 rfl rfl rfl rfl ?_
                        first | (refine K.GL.want 97 rfl rfl rfl ?_; first | refine K.GL.det (K.e_load Try.isAgg29 rfl rfl) rfl ?_ | refine K.GL.det (K.e_load0 Try.isAgg29 rfl (by assumption)) rfl ?_) | refine K.GL.skip 97 rfl rfl rfl rfl ?_ | refine K.GL.skipU 97 rfl rfl rfl rfl ?_
                        first | (refine K.GL.want 97 rfl rfl rfl ?_; first | refine K.GL.det (K.e_fieldAddr fo31_1 rfl) rfl ?_) | refine K.GL.skip 97 rfl rfl rfl rfl ?_ | refine K.GL.skipU 97 rfl rfl rfl rfl ?_
                        first | (refine K.GL.want 97 rfl rfl rfl ?_; first | refine K.GL.det (K.e_load Try.isAgg3 rfl rfl) rfl ?_ | refine K.GL.det (K.e_load0 Try.isAgg3 rfl (by assumption)) rfl ?_) | refine K.GL.skip 97 rfl rfl rfl rfl ?_ | refine K.GL.skipU 97 rfl rfl rfl rfl ?_
                        first | (refine K.GL.want 97 rfl rfl rfl ?_; first | refine K.GL.det (K.e_indexAddrS sl29 rfl rfl (by assumption) (by omega) (by omega)) rfl ?_ | refine K.GL.det (K.e_indexAddr sl29 rfl rfl (by omega) (by omega)) rfl ?_) | refine K.GL.skip 97 rfl rfl rfl rfl ?_ | refine K.GL.skipU 97 rfl rfl rfl rfl ?_
                        first | (refine K.GL.want 97 rfl rfl rfl ?_; first | refine K.GL.det (K.e_fieldAddr fo45_0 rfl) rfl ?_) | refine K.GL.skip 97 rfl rfl rfl rfl ?_ | refine K.GL.skipU 97 rfl rfl rfl rfl ?_
                        first | (refine K.GL.want 97 rfl rfl rfl ?_; first | refine K.GL.det (K.e_load_old Try.isAgg2 rfl (hA.item encE_len he3 0 _ rfl)) rfl ?_) | refine K.GL.skip 97 rfl rfl rfl rfl ?_ | refine K.GL.skipU 97 rfl rfl rfl rfl ?_
                        first | (refine K.GL.want 97 rfl rfl rfl ?_; first | refine K.GL.det ((K.e_ne rfl rfl).yes (by first | omega | assumption | decide +kernel)) rfl ?_ | refine K.GL.det ((K.e_ne rfl rfl).no (by first | omega | assumption | decide +kernel)) rfl ?_ | refine K.GL.det (K.e_ne rfl rfl) rfl ?_) | refine K.GL.skip 97 rfl rfl rfl rfl ?_ | refine K.GL.skipU 97 rfl rfl rfl rfl ?_
                        first | (refine K.GL.want 97 rfl rfl rfl ?_; first | refine K.GL.det (K.e_move rfl) rfl ?_) | refine K.GL.skip 97 rfl rfl rfl rfl ?_ | refine K.GL.skipU 97 rfl rfl rfl rfl ?_
                        first | refine K.GL.splitB 106 rfl (fun h17 => ?_) (fun h17 => ?_) | skip
                        all_goals first | exact absurd h17 (by decide) | replace h17 := of_decide_eq_true h17 | replace h17 := of_decide_eq_false h17 | skip
                        all_goals
                          first | (refine K.GL.want 106 rfl rfl rfl ?_; first | refine K.GL.det (K.e_fieldAddr fo31_2 rfl) rfl ?_) | refine K.GL.skip 106 rfl rfl rfl rfl ?_ | refine K.GL.skipU 106 rfl rfl rfl rfl ?_
                          first | (refine K.GL.want 106 rfl rfl rfl ?_; first | refine K.GL.det (K.e_load Try.isAgg29 rfl rfl) rfl ?_ | refine K.GL.det (K.e_load0 Try.isAgg29 rfl (by assumption)) rfl ?_) | refine K.GL.skip 106 rfl rfl rfl rfl ?_ | refine K.GL.skipU 106 rfl rfl rfl rfl ?_
                          first | (refine K.GL.want 106 rfl rfl rfl ?_; first | refine K.GL.det (K.e_fieldAddr fo31_1 rfl) rfl ?_) | refine K.GL.skip 106 rfl rfl rfl rfl ?_ | refine K.GL.skipU 106 rfl rfl rfl rfl ?_
                          first | (refine K.GL.want 106 rfl rfl rfl ?_; first | refine K.GL.det (K.e_load Try.isAgg3 rfl rfl) rfl ?_ | refine K.GL.det (K.e_load0 Try.isAgg3 rfl (by assumption)) rfl ?_) | refine K.GL.skip 106 rfl rfl rfl rfl ?_ | refine K.GL.skipU 106 rfl rfl rfl rfl ?_
                          first | (refine K.GL.want 106 rfl rfl rfl ?_; first | refine K.GL.det (K.e_indexAddrS sl29 rfl rfl (by assumption) (by omega) (by omega)) rfl ?_ | refine K.GL.det (K.e_indexAddr sl29 rfl rfl (by omega) (by omega)) rfl ?_) | refine K.GL.skip 106 rfl rfl rfl rfl ?_ | refine K.GL.skipU 106 rfl rfl rfl rfl ?_
                          first | (refine K.GL.want 106 rfl rfl rfl ?_; first | refine K.GL.det (K.e_fieldAddr fo45_1 rfl) rfl ?_) | refine K.GL.skip 106 rfl rfl rfl rfl ?_ | refine K.GL.skipU 106 rfl rfl rfl rfl ?_
                          first | (refine K.GL.want 106 rfl rfl rfl ?_; first | refine K.GL.det (K.e_load_old Try.isAgg3 rfl (hA.item encE_len he3 1 _ rfl)) rfl ?_) | refine K.GL.skip 106 rfl rfl rfl rfl ?_ | refine K.GL.skipU 106 rfl rfl rfl rfl ?_
                          first | (refine K.GL.want 106 rfl rfl rfl ?_; first | refine K.GL.det ((K.e_eq rfl rfl).yes (by first | omega | assumption | decide +kernel)) rfl ?_ | refine K.GL.det ((K.e_eq rfl rfl).no (by first | omega | assumption | decide +kernel)) rfl ?_ | refine K.GL.det (K.e_eq rfl rfl) rfl ?_) | refine K.GL.skip 106 rfl rfl rfl rfl ?_ | refine K.GL.skipU 106 rfl rfl rfl rfl ?_
                          first | (refine K.GL.want 97 rfl rfl rfl ?_; first | refine K.GL.det (K.e_pick_t rfl rfl) rfl ?_ | refine K.GL.det (K.e_pick_f rfl rfl) rfl ?_) | refine K.GL.skip 97 rfl rfl rfl rfl ?_ | refine K.GL.skipU 97 rfl rfl rfl rfl ?_
                          first | refine K.GL.det (K.e_pick_t rfl rfl) rfl ?_ | refine K.GL.det (K.e_pick_f rfl rfl) rfl ?_
                          refine K.GL.det (K.e_assign rfl) rfl ?_
                          refine K.GL.nil ?_
                          refine K.GQ.go ?_
                          refine K.GC.ret ?_
                          refine K.GQ.ret1 Try.results22 rfl (fun w hT => ?_)
                          first | exact ⟨ret_no (fun ⟨e1, e2, e3, e4, e5, e6, e7, e8, e9⟩ => by omega), hT.nil⟩ | exact ⟨ret_no (fun h => Upto.bad he1 (fun ⟨o1, o2, o3, o4, o5⟩ => by omega) h.2.2.2.2.2.2.1), hT.nil⟩ | exact ⟨ret_no (fun h => unl_bad he1 he2 (by omega) (by omega) (by omega) h.2.2.2.2.2.2.2.1), hT.nil⟩ | exact ⟨ret_yes ⟨by omega, by omega, by omega, by omega, by omega, by omega, k1, k2, .inl ho⟩, hT.nil⟩ | exact ⟨ret_yes ⟨by omega, by omega, by omega, by omega, by omega, by omega, k1, k2, .inr (by rw [he3]; exact ⟨by omega, by omega⟩)⟩, hT.nil⟩ | exact ⟨ret_no (fun h => h.2.2.2.2.2.2.2.2.elim (by omega) (by rw [he3]; rintro ⟨q1, q2⟩; omega)), hT.nil⟩ | exact ⟨ret_iff ⟨fun hq => ⟨by omega, by omega, by omega, by omega, by omega, by omega, k1, k2, .inr (by rw [he3]; exact ⟨by omega, hq⟩)⟩, fun h => h.2.2.2.2.2.2.2.2.elim (fun h => absurd h (by omega)) (by rw [he3]; exact fun q => q.2)⟩, hT.nil⟩
theorem lay23 : K.layout Try.prog 23 = some ([.int .i64 0, .int .i64 0, .int .i64 0], [(0, 1), (1, 1), (2, 1)]) := by kernel_rfl
/- turntable/turntablelaw17.head -/
set_option maxHeartbeats 1000000 in
set_option maxRecDepth 100000 in
theorem head_any (w : World) :
    Calls Try.prog 8 #[] w fun e w' => e = .returned (.bool true) ∧ Tr w [] w' [] := by
  refine K.enter0 (args := []) Try.func8 rfl Try.ntmps8 rfl ?_
  refine K.GC.seq ?_
  refine K.GC.region ?_
  refine K.GL.det (K.e_assign rfl) rfl ?_
  refine K.GL.nil ?_
  refine K.GQ.go ?_
  refine K.GC.seq ?_
  refine K.GC.region ?_
  refine K.GL.det (K.e_build lay23 rfl) rfl ?_
  refine K.GL.alloc Try.zeroValue23 rfl rfl (fun b1 => ?_)
  refine K.GL.store rfl rfl rfl Try.sizeOf23 rfl rfl ?_
  refine K.GL.nil ?_
  refine K.GQ.go ?_
  refine K.GC.seq ?_
  refine K.GC.region ?_
  refine K.GL.det (K.e_loads Try.isAgg23 Try.sizeOf23 rfl rfl) rfl ?_
  first | refine K.GL.det ((K.e_call1 Try.call9 rfl (fun w hT => right_any _ _ _ w)).cast_bool (b := true) (by decide +kernel)) rfl ?_ | refine K.GL.det ((K.e_call1 Try.call9 rfl (fun w hT => right_any _ _ _ w)).cast_bool (b := false) (by decide +kernel)) rfl ?_ | refine K.GL.det (K.e_call1 Try.call9 rfl (fun w hT => right_any _ _ _ w)) rfl ?_
  refine K.GL.det (K.e_move rfl) rfl ?_
  first | refine K.GL.splitB 5 rfl (fun h1 => ?_) (fun h1 => ?_) | skip
  all_goals first | exact absurd h1 (by decide) | replace h1 := of_decide_eq_true h1 | replace h1 := of_decide_eq_false h1 | skip
  all_goals
    first | (refine K.GL.want 5 rfl rfl rfl ?_; first | refine K.GL.det (K.e_build lay23 rfl) rfl ?_) | refine K.GL.skip 5 rfl rfl rfl rfl ?_ | refine K.GL.skipU 5 rfl rfl rfl rfl ?_
    first | (refine K.GL.want 5 rfl rfl rfl ?_; first | refine K.GL.det ((K.e_call1 Try.call9 rfl (fun w hT => right_any _ _ _ w)).cast_bool (b := true) (by decide +kernel)) rfl ?_ | refine K.GL.det ((K.e_call1 Try.call9 rfl (fun w hT => right_any _ _ _ w)).cast_bool (b := false) (by decide +kernel)) rfl ?_ | refine K.GL.det (K.e_call1 Try.call9 rfl (fun w hT => right_any _ _ _ w)) rfl ?_) | refine K.GL.skip 5 rfl rfl rfl rfl ?_ | refine K.GL.skipU 5 rfl rfl rfl rfl ?_
    first | (refine K.GL.want 5 rfl rfl rfl ?_; first | refine K.GL.det (K.e_notp rfl) rfl ?_ | refine K.GL.det (K.e_not rfl) rfl ?_) | refine K.GL.skip 5 rfl rfl rfl rfl ?_ | refine K.GL.skipU 5 rfl rfl rfl rfl ?_
    first | refine K.GL.det (K.e_pick_t rfl rfl) rfl ?_ | refine K.GL.det (K.e_pick_f rfl rfl) rfl ?_
    refine K.GL.det (K.e_move rfl) rfl ?_
    first | refine K.GL.splitB 10 rfl (fun h2 => ?_) (fun h2 => ?_) | skip
    all_goals first | exact absurd h2 (by decide) | replace h2 := of_decide_eq_true h2 | replace h2 := of_decide_eq_false h2 | skip
    all_goals
      first | (refine K.GL.want 10 rfl rfl rfl ?_; first | refine K.GL.det (K.e_loads Try.isAgg23 Try.sizeOf23 rfl rfl) rfl ?_) | refine K.GL.skip 10 rfl rfl rfl rfl ?_ | refine K.GL.skipU 10 rfl rfl rfl rfl ?_
      first | (refine K.GL.want 10 rfl rfl rfl ?_; first | refine K.GL.det ((K.e_call1 Try.call11 rfl (fun w hT => size_any _ _ _ w)).cast_bool (b := true) (by decide +kernel)) rfl ?_ | refine K.GL.det ((K.e_call1 Try.call11 rfl (fun w hT => size_any _ _ _ w)).cast_bool (b := false) (by decide +kernel)) rfl ?_ | refine K.GL.det (K.e_call1 Try.call11 rfl (fun w hT => size_any _ _ _ w)) rfl ?_) | refine K.GL.skip 10 rfl rfl rfl rfl ?_ | refine K.GL.skipU 10 rfl rfl rfl rfl ?_
      first | (refine K.GL.want 10 rfl rfl rfl ?_; first | refine K.GL.det ((K.e_eq rfl rfl).yes (by first | omega | assumption | decide +kernel)) rfl ?_ | refine K.GL.det ((K.e_eq rfl rfl).no (by first | omega | assumption | decide +kernel)) rfl ?_ | refine K.GL.det (K.e_eq rfl rfl) rfl ?_) | refine K.GL.skip 10 rfl rfl rfl rfl ?_ | refine K.GL.skipU 10 rfl rfl rfl rfl ?_
      first | refine K.GL.det (K.e_pick_t rfl rfl) rfl ?_ | refine K.GL.det (K.e_pick_f rfl rfl) rfl ?_
      refine K.GL.det (K.e_move rfl) rfl ?_
      first | refine K.GL.splitB 15 rfl (fun h3 => ?_) (fun h3 => ?_) | skip
      all_goals first | exact absurd h3 (by decide) | replace h3 := of_decide_eq_true h3 | replace h3 := of_decide_eq_false h3 | skip
      all_goals
        first | (refine K.GL.want 15 rfl rfl rfl ?_; first | refine K.GL.det (K.e_loads Try.isAgg23 Try.sizeOf23 rfl rfl) rfl ?_) | refine K.GL.skip 15 rfl rfl rfl rfl ?_ | refine K.GL.skipU 15 rfl rfl rfl rfl ?_
        first | (refine K.GL.want 15 rfl rfl rfl ?_; first | refine K.GL.det ((K.e_call1 Try.call13 rfl (fun w hT => first_any _ _ _ _ w (by first | assumption | exact ⟨by omega, by omega⟩))).cast_bool (b := true) (by decide +kernel)) rfl ?_ | refine K.GL.det ((K.e_call1 Try.call13 rfl (fun w hT => first_any _ _ _ _ w (by first | assumption | exact ⟨by omega, by omega⟩))).cast_bool (b := false) (by decide +kernel)) rfl ?_ | refine K.GL.det (K.e_call1 Try.call13 rfl (fun w hT => first_any _ _ _ _ w (by first | assumption | exact ⟨by omega, by omega⟩))) rfl ?_) | refine K.GL.skip 15 rfl rfl rfl rfl ?_ | refine K.GL.skipU 15 rfl rfl rfl rfl ?_
        first | (refine K.GL.want 15 rfl rfl rfl ?_; first | refine K.GL.det ((K.e_eq rfl rfl).yes (by first | omega | assumption | decide +kernel)) rfl ?_ | refine K.GL.det ((K.e_eq rfl rfl).no (by first | omega | assumption | decide +kernel)) rfl ?_ | refine K.GL.det (K.e_eq rfl rfl) rfl ?_) | refine K.GL.skip 15 rfl rfl rfl rfl ?_ | refine K.GL.skipU 15 rfl rfl rfl rfl ?_
        first | refine K.GL.det (K.e_pick_t rfl rfl) rfl ?_ | refine K.GL.det (K.e_pick_f rfl rfl) rfl ?_
        refine K.GL.det (K.e_move rfl) rfl ?_
        first | refine K.GL.splitB 20 rfl (fun h4 => ?_) (fun h4 => ?_) | skip
        all_goals first | exact absurd h4 (by decide) | replace h4 := of_decide_eq_true h4 | replace h4 := of_decide_eq_false h4 | skip
        all_goals
          first | (refine K.GL.want 20 rfl rfl rfl ?_; first | refine K.GL.det (K.e_loads Try.isAgg23 Try.sizeOf23 rfl rfl) rfl ?_) | refine K.GL.skip 20 rfl rfl rfl rfl ?_ | refine K.GL.skipU 20 rfl rfl rfl rfl ?_
          first | (refine K.GL.want 20 rfl rfl rfl ?_; first | refine K.GL.det ((K.e_call1 Try.call13 rfl (fun w hT => first_any _ _ _ _ w (by first | assumption | exact ⟨by omega, by omega⟩))).cast_bool (b := true) (by decide +kernel)) rfl ?_ | refine K.GL.det ((K.e_call1 Try.call13 rfl (fun w hT => first_any _ _ _ _ w (by first | assumption | exact ⟨by omega, by omega⟩))).cast_bool (b := false) (by decide +kernel)) rfl ?_ | refine K.GL.det (K.e_call1 Try.call13 rfl (fun w hT => first_any _ _ _ _ w (by first | assumption | exact ⟨by omega, by omega⟩))) rfl ?_) | refine K.GL.skip 20 rfl rfl rfl rfl ?_ | refine K.GL.skipU 20 rfl rfl rfl rfl ?_
          first | (refine K.GL.want 20 rfl rfl rfl ?_; first | refine K.GL.det ((K.e_eq rfl rfl).yes (by first | omega | assumption | decide +kernel)) rfl ?_ | refine K.GL.det ((K.e_eq rfl rfl).no (by first | omega | assumption | decide +kernel)) rfl ?_ | refine K.GL.det (K.e_eq rfl rfl) rfl ?_) | refine K.GL.skip 20 rfl rfl rfl rfl ?_ | refine K.GL.skipU 20 rfl rfl rfl rfl ?_
          first | refine K.GL.det (K.e_pick_t rfl rfl) rfl ?_ | refine K.GL.det (K.e_pick_f rfl rfl) rfl ?_
          refine K.GL.det (K.e_move rfl) rfl ?_
          first | refine K.GL.splitB 25 rfl (fun h5 => ?_) (fun h5 => ?_) | skip
          all_goals first | exact absurd h5 (by decide) | replace h5 := of_decide_eq_true h5 | replace h5 := of_decide_eq_false h5 | skip
          all_goals
            first | (refine K.GL.want 25 rfl rfl rfl ?_; first | refine K.GL.det (K.e_loads Try.isAgg23 Try.sizeOf23 rfl rfl) rfl ?_) | refine K.GL.skip 25 rfl rfl rfl rfl ?_ | refine K.GL.skipU 25 rfl rfl rfl rfl ?_
            first | (refine K.GL.want 25 rfl rfl rfl ?_; first | refine K.GL.det ((K.e_call1 Try.call15 rfl (fun w hT => groom_any _ _ _ w)).cast_bool (b := true) (by decide +kernel)) rfl ?_ | refine K.GL.det ((K.e_call1 Try.call15 rfl (fun w hT => groom_any _ _ _ w)).cast_bool (b := false) (by decide +kernel)) rfl ?_ | refine K.GL.det (K.e_call1 Try.call15 rfl (fun w hT => groom_any _ _ _ w)) rfl ?_) | refine K.GL.skip 25 rfl rfl rfl rfl ?_ | refine K.GL.skipU 25 rfl rfl rfl rfl ?_
            first | (refine K.GL.want 25 rfl rfl rfl ?_; first | refine K.GL.det ((K.e_eq rfl rfl).yes (by first | omega | assumption | decide +kernel)) rfl ?_ | refine K.GL.det ((K.e_eq rfl rfl).no (by first | omega | assumption | decide +kernel)) rfl ?_ | refine K.GL.det (K.e_eq rfl rfl) rfl ?_) | refine K.GL.skip 25 rfl rfl rfl rfl ?_ | refine K.GL.skipU 25 rfl rfl rfl rfl ?_
            first | refine K.GL.det (K.e_pick_t rfl rfl) rfl ?_ | refine K.GL.det (K.e_pick_f rfl rfl) rfl ?_
            refine K.GL.det (K.e_move rfl) rfl ?_
            first | refine K.GL.splitB 30 rfl (fun h6 => ?_) (fun h6 => ?_) | skip
            all_goals first | exact absurd h6 (by decide) | replace h6 := of_decide_eq_true h6 | replace h6 := of_decide_eq_false h6 | skip
            all_goals
              first | (refine K.GL.want 30 rfl rfl rfl ?_; first | refine K.GL.det (K.e_loads Try.isAgg23 Try.sizeOf23 rfl rfl) rfl ?_) | refine K.GL.skip 30 rfl rfl rfl rfl ?_ | refine K.GL.skipU 30 rfl rfl rfl rfl ?_
              first | (refine K.GL.want 30 rfl rfl rfl ?_; first | refine K.GL.det ((K.e_call1 Try.call17 rfl (fun w hT => budget_any _ _ _ w)).cast_bool (b := true) (by decide +kernel)) rfl ?_ | refine K.GL.det ((K.e_call1 Try.call17 rfl (fun w hT => budget_any _ _ _ w)).cast_bool (b := false) (by decide +kernel)) rfl ?_ | refine K.GL.det (K.e_call1 Try.call17 rfl (fun w hT => budget_any _ _ _ w)) rfl ?_) | refine K.GL.skip 30 rfl rfl rfl rfl ?_ | refine K.GL.skipU 30 rfl rfl rfl rfl ?_
              first | (refine K.GL.want 30 rfl rfl rfl ?_; first | refine K.GL.det ((K.e_eq rfl rfl).yes (by first | omega | assumption | decide +kernel)) rfl ?_ | refine K.GL.det ((K.e_eq rfl rfl).no (by first | omega | assumption | decide +kernel)) rfl ?_ | refine K.GL.det (K.e_eq rfl rfl) rfl ?_) | refine K.GL.skip 30 rfl rfl rfl rfl ?_ | refine K.GL.skipU 30 rfl rfl rfl rfl ?_
              first | refine K.GL.det (K.e_pick_t rfl rfl) rfl ?_ | refine K.GL.det (K.e_pick_f rfl rfl) rfl ?_
              refine K.GL.det (K.e_move rfl) rfl ?_
              first | refine K.GL.splitB 35 rfl (fun h7 => ?_) (fun h7 => ?_) | skip
              all_goals first | exact absurd h7 (by decide) | replace h7 := of_decide_eq_true h7 | replace h7 := of_decide_eq_false h7 | skip
              all_goals
                first | (refine K.GL.want 35 rfl rfl rfl ?_; first | refine K.GL.det (K.e_build lay23 rfl) rfl ?_) | refine K.GL.skip 35 rfl rfl rfl rfl ?_ | refine K.GL.skipU 35 rfl rfl rfl rfl ?_
                first | (refine K.GL.want 35 rfl rfl rfl ?_; first | refine K.GL.det ((K.e_call1 Try.call17 rfl (fun w hT => budget_any _ _ _ w)).cast_bool (b := true) (by decide +kernel)) rfl ?_ | refine K.GL.det ((K.e_call1 Try.call17 rfl (fun w hT => budget_any _ _ _ w)).cast_bool (b := false) (by decide +kernel)) rfl ?_ | refine K.GL.det (K.e_call1 Try.call17 rfl (fun w hT => budget_any _ _ _ w)) rfl ?_) | refine K.GL.skip 35 rfl rfl rfl rfl ?_ | refine K.GL.skipU 35 rfl rfl rfl rfl ?_
                first | (refine K.GL.want 35 rfl rfl rfl ?_; first | refine K.GL.det ((K.e_eq rfl rfl).yes (by first | omega | assumption | decide +kernel)) rfl ?_ | refine K.GL.det ((K.e_eq rfl rfl).no (by first | omega | assumption | decide +kernel)) rfl ?_ | refine K.GL.det (K.e_eq rfl rfl) rfl ?_) | refine K.GL.skip 35 rfl rfl rfl rfl ?_ | refine K.GL.skipU 35 rfl rfl rfl rfl ?_
                first | refine K.GL.det (K.e_pick_t rfl rfl) rfl ?_ | refine K.GL.det (K.e_pick_f rfl rfl) rfl ?_
                refine K.GL.det (K.e_move rfl) rfl ?_
                first | refine K.GL.splitB 40 rfl (fun h8 => ?_) (fun h8 => ?_) | skip
                all_goals first | exact absurd h8 (by decide) | replace h8 := of_decide_eq_true h8 | replace h8 := of_decide_eq_false h8 | skip
                all_goals
                  first | (refine K.GL.want 40 rfl rfl rfl ?_; first | refine K.GL.det (K.e_loads Try.isAgg23 Try.sizeOf23 rfl rfl) rfl ?_) | refine K.GL.skip 40 rfl rfl rfl rfl ?_ | refine K.GL.skipU 40 rfl rfl rfl rfl ?_
                  refine K.GL.want 40 rfl rfl rfl ?_
                  refine K.GL.ev (K.e_call Try.call20 rfl (fun w hT => blank_yes 4 2 64 w (by decide +kernel))) rfl (fun v hv => ?_)
                  obtain ⟨b42, rfl⟩ := hv
                  first | (refine K.GL.want 40 rfl rfl rfl ?_; first | refine K.GL.det (K.e_field fo31_2 Try.isAgg29 rfl rfl) rfl ?_) | refine K.GL.skip 40 rfl rfl rfl rfl ?_ | refine K.GL.skipU 40 rfl rfl rfl rfl ?_
                  first | (refine K.GL.want 40 rfl rfl rfl ?_; first | refine K.GL.det (K.e_len Try.underlying29 rfl) rfl ?_) | refine K.GL.skip 40 rfl rfl rfl rfl ?_ | refine K.GL.skipU 40 rfl rfl rfl rfl ?_
                  first | (refine K.GL.want 40 rfl rfl rfl ?_; first | refine K.GL.det ((K.e_eq rfl rfl).yes (by first | omega | assumption | decide +kernel)) rfl ?_ | refine K.GL.det ((K.e_eq rfl rfl).no (by first | omega | assumption | decide +kernel)) rfl ?_ | refine K.GL.det (K.e_eq rfl rfl) rfl ?_) | refine K.GL.skip 40 rfl rfl rfl rfl ?_ | refine K.GL.skipU 40 rfl rfl rfl rfl ?_
                  first | refine K.GL.det (K.e_pick_t rfl rfl) rfl ?_ | refine K.GL.det (K.e_pick_f rfl rfl) rfl ?_
                  refine K.GL.det (K.e_move rfl) rfl ?_
                  first | refine K.GL.splitB 47 rfl (fun h9 => ?_) (fun h9 => ?_) | skip
                  all_goals first | exact absurd h9 (by decide) | replace h9 := of_decide_eq_true h9 | replace h9 := of_decide_eq_false h9 | skip
                  all_goals
                    first | (refine K.GL.want 47 rfl rfl rfl ?_; first | refine K.GL.det (K.e_loads Try.isAgg23 Try.sizeOf23 rfl rfl) rfl ?_) | refine K.GL.skip 47 rfl rfl rfl rfl ?_ | refine K.GL.skipU 47 rfl rfl rfl rfl ?_
                    refine K.GL.want 47 rfl rfl rfl ?_
                    refine K.GL.ev (K.e_call Try.call20 rfl (fun w hT => blank_yes 4 2 64 w (by decide +kernel))) rfl (fun v hv => ?_)
                    obtain ⟨b49, rfl⟩ := hv
                    first | (refine K.GL.want 47 rfl rfl rfl ?_; first | refine K.GL.det (K.e_field fo31_0 Try.isAgg2 rfl rfl) rfl ?_) | refine K.GL.skip 47 rfl rfl rfl rfl ?_ | refine K.GL.skipU 47 rfl rfl rfl rfl ?_
                    first | (refine K.GL.want 47 rfl rfl rfl ?_; first | refine K.GL.det ((K.e_eq rfl rfl).yes (by first | omega | assumption | decide +kernel)) rfl ?_ | refine K.GL.det ((K.e_eq rfl rfl).no (by first | omega | assumption | decide +kernel)) rfl ?_ | refine K.GL.det (K.e_eq rfl rfl) rfl ?_) | refine K.GL.skip 47 rfl rfl rfl rfl ?_ | refine K.GL.skipU 47 rfl rfl rfl rfl ?_
                    first | refine K.GL.det (K.e_pick_t rfl rfl) rfl ?_ | refine K.GL.det (K.e_pick_f rfl rfl) rfl ?_
                    refine K.GL.det (K.e_move rfl) rfl ?_
                    first | refine K.GL.splitB 53 rfl (fun h10 => ?_) (fun h10 => ?_) | skip
                    all_goals first | exact absurd h10 (by decide) | replace h10 := of_decide_eq_true h10 | replace h10 := of_decide_eq_false h10 | skip
                    all_goals
                      first | (refine K.GL.want 53 rfl rfl rfl ?_; first | refine K.GL.det (K.e_build lay23 rfl) rfl ?_) | refine K.GL.skip 53 rfl rfl rfl rfl ?_ | refine K.GL.skipU 53 rfl rfl rfl rfl ?_
                      first | (refine K.GL.want 53 rfl rfl rfl ?_; first | refine K.GL.det ((K.e_call1 Try.call11 rfl (fun w hT => size_any _ _ _ w)).cast_bool (b := true) (by decide +kernel)) rfl ?_ | refine K.GL.det ((K.e_call1 Try.call11 rfl (fun w hT => size_any _ _ _ w)).cast_bool (b := false) (by decide +kernel)) rfl ?_ | refine K.GL.det (K.e_call1 Try.call11 rfl (fun w hT => size_any _ _ _ w)) rfl ?_) | refine K.GL.skip 53 rfl rfl rfl rfl ?_ | refine K.GL.skipU 53 rfl rfl rfl rfl ?_
                      first | (refine K.GL.want 53 rfl rfl rfl ?_; first | refine K.GL.det ((K.e_eq rfl rfl).yes (by first | omega | assumption | decide +kernel)) rfl ?_ | refine K.GL.det ((K.e_eq rfl rfl).no (by first | omega | assumption | decide +kernel)) rfl ?_ | refine K.GL.det (K.e_eq rfl rfl) rfl ?_) | refine K.GL.skip 53 rfl rfl rfl rfl ?_ | refine K.GL.skipU 53 rfl rfl rfl rfl ?_
                      first | refine K.GL.det (K.e_pick_t rfl rfl) rfl ?_ | refine K.GL.det (K.e_pick_f rfl rfl) rfl ?_
                      refine K.GL.det (K.e_assign rfl) rfl ?_
                      refine K.GL.nil ?_
                      refine K.GQ.go ?_
                      refine K.GC.ret ?_
                      refine K.GQ.ret1 Try.results8 rfl (fun w hT => ?_)
                      exact ⟨rfl, hT.nil⟩
theorem first_val {a b c x : Int} (h : rightB a b c = true) (h0 : 0 ≤ x) (h1 : x < a) : firstP a b c x = 2 + x * b := by unfold firstP; rw [if_pos ⟨h, h0, h1⟩]
theorem size_val {a b c : Int} (h : rightB a b c = true) : sizeP a b c = 2 + a * b := by unfold sizeP; rw [if_pos h]
theorem budget_val {a b c : Int} (h : rightB a b c = true) : budgetP a b c = max 0 ((a - 3) * (57 * b - c) - 57 * a) := by unfold budgetP; rw [if_pos h]
theorem groom_val {a b c : Int} (h : rightB a b c = true) : roomP a b c = 57 * b := by unfold roomP; rw [if_pos h]

theorem budget_le {a b c : Int} (h : rightB a b c = true) : budgetP a b c ≤ 18240 := by
  rw [budget_val h]
  have := budget_bd h
  rw [right_iff] at h
  omega
theorem budget_nn {a b c : Int} (h : rightB a b c = true) : 0 ≤ budgetP a b c := by rw [budget_val h]; omega

end Go.Proofs.Ytjbcnbhndinjhaa
