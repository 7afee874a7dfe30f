/- GeomRoom returns true for every use of a device and every list of frames, and turns nothing. -/
import Derived.ProofKit
import Derived.OpenShut
import Derived.SizedLaws
import Derived.Lib.SmallJoins
import Derived.Test.YtjbcnbhndinjhaaGeo
namespace Go.Proofs.Ytjbcnbhndinjhaa
open Go Go.K Go.ChangeShapes Go.WideShapes Go.ChangeAt Go.RowKit Go.Joins
set_option linter.unusedVariables false
set_option linter.unusedSimpArgs false
attribute [local irreducible] Calls Ev GL GC GQ GR Code.wp
theorem own : ownKnob Try.prog.godebug = none := by kernel_rfl
theorem laidOut : laidOutB Try.prog = true := by kernel_rfl
theorem cellsU16 : Try.prog.cellsOf 37 = 1 := by kernel_rfl
theorem cellsGeo : Try.prog.cellsOf 23 = 3 := by kernel_rfl
/-! ### What a budget has room for -/
/-- The extents that are used, when so much is left, and so much is in the newest one: p is (e - 1) times what an extent that was left has at least. -/
structure Fill (a b c B left e o n p : Int) : Prop where
  l0 : 0 ≤ left
  l1 : left ≤ B
  e0 : 0 ≤ e
  e1 : e ≤ a - 2
  o0 : 0 ≤ o
  o1 : o ≤ a
  n0 : 0 ≤ n
  n1 : n ≤ 57 * b
  none : e = 0 → left = B
  pe : 1 ≤ e → p = (e - 1) * (57 * b - c + 1)
  some : 1 ≤ e → 1 ≤ n ∧ p + n ≤ B - left + 57 * o
theorem Fill.start {a b c B : Int} (ha : 4 ≤ a) (hb : 1 ≤ b) (hB : 0 ≤ B) : Fill a b c B B 0 0 (57 * b) 0 := ⟨hB, by omega, by omega, by omega, by omega, by omega, by omega, by omega, fun _ => rfl, fun h => by omega, fun h => by omega⟩
/-- Too many extents would be more than the budget. -/
theorem few {a b c B e p left o n : Int} (hr : rightB a b c = true) (hBv : B = budgetP a b c) (hB : 1 ≤ B) (hp : p = (e - 1) * (57 * b - c + 1)) (h : p + n ≤ B - left + 57 * o) (hn : 1 ≤ n) (ho : o ≤ a) (hl : 0 ≤ left) : e ≤ a - 2 := by
  rw [budget_val hr] at hBv
  rw [right_iff] at hr
  rcases (by omega : e ≤ a - 2 ∨ a - 1 ≤ e) with h1 | h1
  · exact h1
  · exfalso
    have h2 := Int.mul_le_mul_of_nonneg_right (show a - 2 ≤ e - 1 by omega) (show 0 ≤ 57 * b - c + 1 by omega)
    have h3 : (a - 2) * (57 * b - c + 1) = (a - 3) * (57 * b - c) + (a - 3) + (57 * b - c + 1) := by
      rw [show a - 2 = (a - 3) + 1 by omega, Int.add_mul, Int.mul_add]; omega
    omega
theorem Fill.more {a b c B left e o n p m : Int} (hr : rightB a b c = true) (hBv : B = budgetP a b c) (h : Fill a b c B left e o n p) (hm : 1 ≤ m) (hml : m ≤ left) (hmc : m ≤ c) (hfit : e ≠ 0 ∧ n + m ≤ 57 * b) : Fill a b c B (left - m) e o (n + m) p := by
  have hs := h.some (by have := h.e0; omega)
  have h1 := h.l0; have h2 := h.l1; have h3 := h.n0
  exact ⟨by omega, by omega, h.e0, h.e1, h.o0, h.o1, by omega, by omega, fun e => by omega, h.pe, fun _ => ⟨by omega, by omega⟩⟩
theorem Fill.turn {a b c B left e o n p m : Int} (hr : rightB a b c = true) (hBv : B = budgetP a b c) (h : Fill a b c B left e o n p) (hm : 1 ≤ m) (hml : m ≤ left) (hmc : m ≤ c) (hfit : e = 0 ∨ 57 * b < n + m) : ∃ p', Fill a b c B (left - m) (e + 1) o (0 + m) p' := by
  have h1 := h.l0; have h2 := h.l1; have h3 := h.n0; have h4 := h.e0; have h5 := h.o1; have h6 := h.o0
  have hr' := (right_iff a b c).1 hr
  rcases (by omega : e = 0 ∨ 1 ≤ e) with he | he
  · have := h.none he
    refine ⟨0, by omega, by omega, by omega, by omega, h.o0, h.o1, by omega, by omega, fun _ => by omega, fun _ => ?_, fun _ => ⟨by omega, by omega⟩⟩
    subst he; simp
  · obtain ⟨hs1, hs2⟩ := h.some he
    have hp := h.pe he
    have hp' : p + (57 * b - c + 1) = (e + 1 - 1) * (57 * b - c + 1) := by
      rw [show e + 1 - 1 = (e - 1) + 1 by omega, Int.add_mul]; omega
    have hk : p + (57 * b - c + 1) + (0 + m) ≤ B - (left - m) + 57 * o := by omega
    have := few hr hBv (by omega) hp' hk (by omega) h5 (by omega)
    exact ⟨p + (57 * b - c + 1), by omega, by omega, by omega, this, h.o0, h.o1, by omega, by omega, fun _ => by omega, fun _ => hp', fun _ => ⟨by omega, hk⟩⟩
theorem Fill.out {a b c B left e o n p x : Int} (h : Fill a b c B left e o n p) (ho : o < a) (hx : 0 ≤ x) (hx2 : x ≤ 57) : Fill a b c B left e (o + 1) (min (57 * b) (n + x)) p := by
  have h1 := h.n0; have h2 := h.n1; have h3 := h.o0
  exact ⟨h.l0, h.l1, h.e0, h.e1, by omega, by omega, by omega, by omega, h.none, h.pe, fun he => by have := h.some he; omega⟩
structure RS where
  i : Int
  left : Int
  e : Int
  o : Int
  n : Int
  p : Int
theorem u16_of {xs : List Int} {i : Nat} {v : Int} (hx : ∀ x ∈ xs, 0 ≤ x ∧ x ≤ 65535) (h : xs[i]? = some v) : 0 ≤ v ∧ v ≤ 65535 := hx v (List.mem_of_getElem? h)
def encU16 (x : Int) : List Value := [.int .u16 x]

/- turntable/turntablelaw17.GeomRoom -/
set_option maxHeartbeats 1000000 in
set_option maxRecDepth 100000 in
theorem groomlaw_no (a b c : Int) (ba : Option Addr) (na ca : Nat) (w : World) (hr : rightB a b c = false) :
    Calls Try.prog 5 #[.agg #[.int .i64 a, .int .i64 b, .int .i64 c], .slice ba na ca] w fun e w' => e = .returned (.bool true) ∧ Tr w [] w' [] := by
  refine K.enter0 (args := [_, _]) Try.func5 rfl Try.ntmps5 rfl ?_
  refine K.GC.seq ?_
  refine K.GC.region ?_
  refine K.GL.box rfl rfl rfl (fun b2 => ?_)
  refine K.GL.det (K.e_assign rfl) rfl ?_
  refine K.GL.nil ?_
  refine K.GQ.go ?_
  refine K.GC.seq ?_
  refine K.GC.region ?_
  refine K.GL.det (K.e_call1 Try.call8 rfl (fun w hT => head_any w)) rfl ?_
  refine K.GL.det (K.e_assign rfl) rfl ?_
  refine K.GL.nil ?_
  refine K.GQ.go ?_
  refine K.GC.seq ?_
  refine K.GC.seq ?_
  refine K.GC.region ?_
  refine K.GL.det (K.e_loads Try.isAgg23 Try.sizeOf23 rfl rfl) rfl ?_
  refine K.GL.det (K.e_call1 Try.call9 rfl (fun w hT => right_any _ _ _ w)) rfl ?_
  first | refine K.GL.det ((K.e_not rfl).cast_bool (b := false) (by rw [hr]; rfl)) rfl ?_ | refine K.GL.det ((K.e_not rfl).cast_bool (b := true) (by rw [hr]; rfl)) rfl ?_ | refine K.GL.det (K.e_notp rfl) rfl ?_ | refine K.GL.det (K.e_not rfl) rfl ?_
  refine K.GL.det (K.e_move rfl) rfl ?_
  first | refine K.GL.splitB 17 rfl (fun h1 => ?_) (fun h1 => ?_) | skip
  all_goals first | exact absurd h1 (by decide) | replace h1 := of_decide_eq_true h1 | replace h1 := of_decide_eq_false h1 | skip
  all_goals
    first | (refine K.GL.want 17 rfl rfl rfl ?_; first | refine K.GL.det (K.e_move rfl) rfl ?_) | refine K.GL.skip 17 rfl rfl rfl rfl ?_ | refine K.GL.skipU 17 rfl rfl rfl rfl ?_
    first | (refine K.GL.want 17 rfl rfl rfl ?_; first | refine K.GL.det (K.e_len Try.underlying36 rfl) rfl ?_) | refine K.GL.skip 17 rfl rfl rfl rfl ?_ | refine K.GL.skipU 17 rfl rfl rfl rfl ?_
    first | (refine K.GL.want 17 rfl rfl rfl ?_; first | refine K.GL.det ((K.e_gt rfl rfl).yes (by first | omega | assumption | decide +kernel)) rfl ?_ | refine K.GL.det ((K.e_gt rfl rfl).no (by first | omega | assumption | decide +kernel)) rfl ?_ | refine K.GL.det (K.e_gt rfl rfl) rfl ?_) | refine K.GL.skip 17 rfl rfl rfl rfl ?_ | refine K.GL.skipU 17 rfl rfl rfl rfl ?_
    first | refine K.GL.det (K.e_pick_t rfl rfl) rfl ?_ | refine K.GL.det (K.e_pick_f rfl rfl) rfl ?_
    refine K.GL.nil ?_
    refine K.GQ.go ?_
    refine K.GC.condB rfl (fun h2 => ?_) (fun h2 => ?_)
    · first
      | exact absurd h2 (by decide)
      | try replace h2 := of_decide_eq_true h2
        refine K.GC.seq ?_
        refine K.GC.region ?_
        refine K.GL.det (K.e_move rfl) rfl ?_
        refine K.GL.det (K.e_assign rfl) rfl ?_
        refine K.GL.nil ?_
        refine K.GQ.go ?_
        refine K.GC.ret ?_
        refine K.GQ.then_ret ?_
        refine K.GQ.ret1 Try.results5 rfl (fun w hT => ?_)
        exact ⟨rfl, hT.nil⟩
    · first
      | exact absurd h2 (by decide)
      | try replace h2 := of_decide_eq_false h2
        refine K.GC.skip ?_
        refine K.GQ.go ?_
        refine K.GC.seq ?_
        exfalso; first | contradiction | omega | simp_all
theorem sl36 : K.slOf Try.prog 36 = some (37, 1) := by kernel_rfl
/- turntable/turntablelaw17.GeomRoom -/
set_option maxHeartbeats 4000000 in
set_option maxRecDepth 100000 in
theorem groomlaw_yes (a b c : Int) (ba : Option Addr) (na ca : Nat) (xs : List Int) (w : World) (hr : rightB a b c = true) (hS : Sl w 1 ba na (xs.flatMap encU16)) (hx : ∀ x ∈ xs, 0 ≤ x ∧ x ≤ 65535) (hn : na ≤ 9223372036854775807) :
    Calls Try.prog 5 #[.agg #[.int .i64 a, .int .i64 b, .int .i64 c], .slice ba na ca] w fun e w' => e = .returned (.bool true) ∧ Tr w [] w' [] := by
  have hb := (right_iff a b c).1 hr
  have h0 := budget_nn hr
  obtain ⟨B, hBv⟩ : ∃ B, B = budgetP a b c := ⟨_, rfl⟩
  have hB0 : 0 ≤ B := hBv ▸ h0
  have hB1 : B ≤ 18240 := hBv ▸ budget_le hr
  have hl := hS.count (k := 1) (f := encU16) (by omega) (fun _ => rfl)
  refine K.enter0 (args := [_, _]) Try.func5 rfl Try.ntmps5 rfl ?_
  refine K.GC.seq ?_
  refine K.GC.region ?_
  refine K.GL.box rfl rfl rfl (fun b2 => ?_)
  refine K.GL.det (K.e_assign rfl) rfl ?_
  refine K.GL.nil ?_
  refine K.GQ.go ?_
  refine K.GC.seq ?_
  refine K.GC.region ?_
  refine K.GL.det (K.e_call1 Try.call8 rfl (fun w hT => head_any w)) rfl ?_
  refine K.GL.det (K.e_assign rfl) rfl ?_
  refine K.GL.nil ?_
  refine K.GQ.go ?_
  refine K.GC.seq ?_
  refine K.GC.seq ?_
  refine K.GC.region ?_
  refine K.GL.det (K.e_loads Try.isAgg23 Try.sizeOf23 rfl rfl) rfl ?_
  refine K.GL.det (K.e_call1 Try.call9 rfl (fun w hT => right_any _ _ _ w)) rfl ?_
  first | refine K.GL.det ((K.e_not rfl).cast_bool (b := false) (by rw [hr]; rfl)) rfl ?_ | refine K.GL.det ((K.e_not rfl).cast_bool (b := true) (by rw [hr]; rfl)) rfl ?_ | refine K.GL.det (K.e_notp rfl) rfl ?_ | refine K.GL.det (K.e_not rfl) rfl ?_
  refine K.GL.det (K.e_move rfl) rfl ?_
  first | refine K.GL.splitB 17 rfl (fun h1 => ?_) (fun h1 => ?_) | skip
  all_goals first | exact absurd h1 (by decide) | replace h1 := of_decide_eq_true h1 | replace h1 := of_decide_eq_false h1 | skip
  all_goals
    first | (refine K.GL.want 17 rfl rfl rfl ?_; first | refine K.GL.det (K.e_move rfl) rfl ?_) | refine K.GL.skip 17 rfl rfl rfl rfl ?_ | refine K.GL.skipU 17 rfl rfl rfl rfl ?_
    first | (refine K.GL.want 17 rfl rfl rfl ?_; first | refine K.GL.det (K.e_len Try.underlying36 rfl) rfl ?_) | refine K.GL.skip 17 rfl rfl rfl rfl ?_ | refine K.GL.skipU 17 rfl rfl rfl rfl ?_
    first | (refine K.GL.want 17 rfl rfl rfl ?_; first | refine K.GL.det ((K.e_gt rfl rfl).yes (by first | omega | assumption | decide +kernel)) rfl ?_ | refine K.GL.det ((K.e_gt rfl rfl).no (by first | omega | assumption | decide +kernel)) rfl ?_ | refine K.GL.det (K.e_gt rfl rfl) rfl ?_) | refine K.GL.skip 17 rfl rfl rfl rfl ?_ | refine K.GL.skipU 17 rfl rfl rfl rfl ?_
    first | refine K.GL.det (K.e_pick_t rfl rfl) rfl ?_ | refine K.GL.det (K.e_pick_f rfl rfl) rfl ?_
    refine K.GL.nil ?_
    refine K.GQ.go ?_
    refine K.GC.condB rfl (fun h2 => ?_) (fun h2 => ?_)
    · first
      | exact absurd h2 (by decide)
      | try replace h2 := of_decide_eq_true h2
        refine K.GC.seq ?_
        refine K.GC.region ?_
        refine K.GL.det (K.e_move rfl) rfl ?_
        refine K.GL.det (K.e_assign rfl) rfl ?_
        refine K.GL.nil ?_
        refine K.GQ.go ?_
        refine K.GC.ret ?_
        refine K.GQ.then_ret ?_
        refine K.GQ.ret1 Try.results5 rfl (fun w hT => ?_)
        exact ⟨rfl, hT.nil⟩
    · first
      | exact absurd h2 (by decide)
      | try replace h2 := of_decide_eq_false h2
        refine K.GC.skip ?_
        refine K.GQ.go ?_
        refine K.GC.seq ?_
        refine K.GC.region ?_
        refine K.GL.det (K.e_loads Try.isAgg23 Try.sizeOf23 rfl rfl) rfl ?_
        refine K.GL.det ((K.e_call1 Try.call17 rfl (fun w hT => budget_any _ _ _ w)).cast_int hBv.symm) rfl ?_
        refine K.GL.det (K.e_assign rfl) rfl ?_
        refine K.GL.nil ?_
        refine K.GQ.go ?_
        refine K.GC.seq ?_
        refine K.GC.region ?_
        refine K.GL.det (K.e_loads Try.isAgg23 Try.sizeOf23 rfl rfl) rfl ?_
        refine K.GL.det ((K.e_call1 Try.call15 rfl (fun w hT => groom_any _ _ _ w)).cast_int (groom_val hr)) rfl ?_
        refine K.GL.det (K.e_assign rfl) rfl ?_
        refine K.GL.nil ?_
        refine K.GQ.go ?_
        refine K.GC.seq ?_
        refine K.GC.region ?_
        refine K.GL.det (K.e_assign rfl) rfl ?_
        refine K.GL.nil ?_
        refine K.GQ.go ?_
        refine K.GC.seq ?_
        refine K.GC.region ?_
        refine K.GL.det (K.e_assign rfl) rfl ?_
        refine K.GL.nil ?_
        refine K.GQ.go ?_
        refine K.GC.seq ?_
        refine K.GC.region ?_
        refine K.GL.det (K.e_move rfl) rfl ?_
        refine K.GL.det (K.e_assign rfl) rfl ?_
        refine K.GL.nil ?_
        refine K.GQ.go ?_
        refine K.GC.seq ?_
        refine K.GC.seq ?_
        refine K.GC.region ?_
        refine K.GL.det (K.e_assign rfl) rfl ?_
        refine K.GL.nil ?_
        refine K.GQ.go ?_
        refine K.GC.block ?_
        refine K.GC.loopk (α := RS) [1, 2, 4, 5, 7, 87, 88, 89, 90, 91, 92, 93, 94, 95, 96, 97, 98] rfl (fun x => [(6, .int .i64 x.left), (8, .int .i64 x.e), (9, .int .i64 x.o), (10, .int .i64 x.n), (11, .int .i64 x.i)]) (fun x => _) (fun x => 0 ≤ x.i ∧ x.i ≤ na ∧ Fill a b c B x.left x.e x.o x.n x.p) (fun x => ((na : Int) - x.i).toNat) ⟨0, B, 0, 0, 57 * b, 0⟩ ⟨by simp, by simp, Fill.start (by omega) (by omega) hB0⟩ (by (repeat refine ⟨rfl, ?_⟩); exact trivial) (K.Sub.refl _) (fun x hI => ?_)
        obtain ⟨i, left, e, o, n, p⟩ := x
        obtain ⟨i1, i2, hF⟩ := hI
        dsimp only at i1 i2 hF ⊢
        obtain ⟨f1, f2, f3, f4, f5, f6, f7, f8, f9, f10, f11⟩ := id hF
        clear f9 f10 f11
        refine K.GC.seq ?_
        refine K.GC.seq ?_
        refine K.GC.region ?_
        refine K.GL.det (K.e_move rfl) rfl ?_
        refine K.GL.det (K.e_move rfl) rfl ?_
        refine K.GL.det (K.e_len Try.underlying36 rfl) rfl ?_
        first | refine K.GL.det ((K.e_lt rfl rfl).yes (by first | omega | assumption | decide +kernel)) rfl ?_ | refine K.GL.det ((K.e_lt rfl rfl).no (by first | omega | assumption | decide +kernel)) rfl ?_ | refine K.GL.det (K.e_lt rfl rfl) rfl ?_
        refine K.GL.nil ?_
        refine K.GQ.go ?_
        refine K.GC.condB rfl (fun h3 => ?_) (fun h3 => ?_)
        · first
          | exact absurd h3 (by decide)
          | try replace h3 := of_decide_eq_true h3
            refine K.GC.skip ?_
            refine K.GQ.go ?_
            refine K.GC.seq ?_
            refine K.GC.block ?_
            refine K.GC.seq ?_
            obtain ⟨v, hv⟩ := get_ex (l := xs) (i := i.toNat) (by omega)
            have hv2 := u16_of hx hv
            obtain ⟨m, hm⟩ : ∃ m, v % c = m := ⟨_, rfl⟩
            have hm0 : 0 ≤ m := hm ▸ Int.emod_nonneg v (by omega)
            have hm1 : m < c := hm ▸ Int.emod_lt_of_pos v (by omega)
            refine K.GC.drawn 10 [[], [], [0, 1], [0, 1, 2], [0, 1, 2, 3], [], [5], [0, 1, 2, 3, 4, 5, 6], [0, 1, 2, 3, 4, 5, 6, 7], [0, 1, 2, 3, 4, 5, 6, 7, 8]] [[], [], [0, 1], [2], [3], [], [5], [4, 6], [7], [8]] [1, 2, 4, 5, 6, 7, 8, 9, 10, 11, 28, 29, 30, 31, 32, 33, 43, 44, 45, 46, 47, 48, 49, 50, 51, 52, 53, 54, 55, 56, 57, 58, 59, 60, 61, 62, 63, 64, 65, 66, 67, 68, 69, 70, 71, 72, 73, 74, 75, 76, 77, 78, 79, 80, 81, 82, 83, 84, 85, 86, 87, 88, 89, 90, 91, 92, 93, 94, 95, 96, 97, 98] (by kernel_rfl) (by kernel_rfl) rfl ?_
            refine K.DW.det rfl (fun vs => K.e_move rfl) ?_
            refine K.DW.det rfl (fun vs => K.e_move rfl) ?_
            first | refine K.DW.det rfl (fun vs => K.e_indexAddrS sl36 rfl rfl (by assumption) (by omega) (by omega)) ?_ | refine K.DW.det rfl (fun vs => K.e_indexAddr sl36 rfl rfl (by omega) (by omega)) ?_
            refine K.DW.det rfl (fun vs => K.e_load_old Try.isAgg37 rfl (by have := hS.item (k := 1) (f := encU16) (fun _ => rfl) hv 0 _ rfl; simpa using this)) ?_
            first | refine K.DW.det rfl (fun vs => K.e_conv Try.underlying37 Try.underlying3 rfl (K.wrap_i64 (by omega) (by omega))) ?_ | refine K.DW.det rfl (fun vs => K.e_convw Try.underlying37 Try.underlying3 rfl) ?_
            refine K.DW.det rfl (fun vs => K.e_fieldAddr fo23_2 rfl) ?_
            first | refine K.DW.det rfl (fun vs => K.e_load Try.isAgg3 rfl rfl) ?_ | refine K.DW.det rfl (fun vs => K.e_load0 Try.isAgg3 rfl (by assumption)) ?_
            refine K.DW.det rfl (fun vs => (K.e_rem rfl rfl (by omega) (by omega) (by omega)).cast_int hm) ?_
            first | refine K.DW.det rfl (fun vs => K.e_add rfl rfl ⟨by omega, by omega⟩) ?_ | refine K.DW.det rfl (fun vs => K.e_addw rfl rfl) ?_
            refine K.DW.det rfl (fun vs => K.e_assign rfl) ?_
            refine K.DW.fin0 rfl (fun vs => ?_)
            refine K.GL.keep [1, 2, 4, 5, 6, 7, 8, 9, 10, 11, 12, 28, 29, 30, 31, 32, 33, 34, 35, 36, 37, 38, 39, 40, 41, 42, 43, 44, 45, 46, 47, 48, 49, 50, 51, 52, 53, 54, 55, 56, 57, 58, 59, 60, 61, 62, 63, 64, 65, 66, 67, 68, 69, 70, 71, 72, 73, 74, 75, 76, 77, 78, 79, 80, 81, 82, 83, 84, 85, 86, 87, 88, 89, 90, 91, 92, 93, 94, 95, 96, 97, 98] rfl ?_
            clear vs
            refine K.GL.nil ?_
            refine K.GQ.go ?_
            refine K.GC.seq ?_
            refine K.GC.seq ?_
            refine K.GC.region ?_
            refine K.GL.det (K.e_move rfl) rfl ?_
            refine K.GL.det (K.e_move rfl) rfl ?_
            first | refine K.GL.det ((K.e_gt rfl rfl).yes (by first | omega | assumption | decide +kernel)) rfl ?_ | refine K.GL.det ((K.e_gt rfl rfl).no (by first | omega | assumption | decide +kernel)) rfl ?_ | refine K.GL.det (K.e_gt rfl rfl) rfl ?_
            refine K.GL.nil ?_
            refine K.GQ.go ?_
            refine K.GC.condB rfl (fun h4 => ?_) (fun h4 => ?_)
            · first
              | exact absurd h4 (by decide)
              | try replace h4 := of_decide_eq_true h4
                refine K.GC.exit ?_
                refine K.GQ.then_exit ?_
                refine K.GQ.block_hit ?_
                refine K.GQ.go ?_
                refine K.GC.region ?_
                refine K.GL.det (K.e_move rfl) rfl ?_
                first | refine K.GL.det (K.e_add rfl rfl ⟨by omega, by omega⟩) rfl ?_ | refine K.GL.det (K.e_addw rfl rfl) rfl ?_
                refine K.GL.det (K.e_assign rfl) rfl ?_
                refine K.GL.nil ?_
                first | exact K.GQ.round (RS.mk (i + 1) left e o n p) ⟨by dsimp only; omega, by dsimp only; omega, hF⟩ (by dsimp only; omega) (by (repeat refine ⟨rfl, ?_⟩); exact trivial) K.sub | exact K.GQ.round (RS.mk (i + 1) (left - (1 + m)) e o (n + (1 + m)) p) ⟨by dsimp only; omega, by dsimp only; omega, (show Fill a b c B (left - (1 + m)) e o (n + (1 + m)) p from hF.more hr hBv (by omega) (by omega) (by omega) (by omega))⟩ (by dsimp only; omega) (by (repeat refine ⟨rfl, ?_⟩); exact trivial) K.sub | exact K.GQ.round (RS.mk (i + 1) (left - (1 + m)) e (o + 1) (min (57 * b) (n + (1 + m) + v % 58)) p) ⟨by dsimp only; omega, by dsimp only; omega, ((show Fill a b c B (left - (1 + m)) e o (n + (1 + m)) p from hF.more hr hBv (by omega) (by omega) (by omega) (by omega)).out (x := v % 58) (by omega) (by omega) (by omega) :)⟩ (by dsimp only; omega) (by (repeat refine ⟨rfl, ?_⟩); exact trivial) K.sub | (obtain ⟨p2, hF2⟩ := hF.turn hr hBv (m := 1 + m) (by omega) (by omega) (by omega) (by omega); first | exact K.GQ.round (RS.mk (i + 1) (left - (1 + m)) (e + 1) o (0 + (1 + m)) p2) ⟨by dsimp only; omega, by dsimp only; omega, hF2⟩ (by dsimp only; omega) (by (repeat refine ⟨rfl, ?_⟩); exact trivial) K.sub | exact K.GQ.round (RS.mk (i + 1) (left - (1 + m)) (e + 1) (o + 1) (min (57 * b) (0 + (1 + m) + v % 58)) p2) ⟨by dsimp only; omega, by dsimp only; omega, (hF2.out (x := v % 58) (by omega) (by omega) (by omega) :)⟩ (by dsimp only; omega) (by (repeat refine ⟨rfl, ?_⟩); exact trivial) K.sub)
            · first
              | exact absurd h4 (by decide)
              | try replace h4 := of_decide_eq_false h4
                refine K.GC.skip ?_
                refine K.GQ.go ?_
                refine K.GC.seq ?_
                refine K.GC.region ?_
                refine K.GL.det (K.e_move rfl) rfl ?_
                refine K.GL.det (K.e_move rfl) rfl ?_
                first | refine K.GL.det (K.e_sub rfl rfl ⟨by omega, by omega⟩) rfl ?_ | refine K.GL.det (K.e_subw rfl rfl) rfl ?_
                refine K.GL.det (K.e_assign rfl) rfl ?_
                refine K.GL.nil ?_
                refine K.GQ.go ?_
                refine K.GC.seq ?_
                refine K.GC.seq ?_
                refine K.GC.region ?_
                refine K.GL.det (K.e_move rfl) rfl ?_
                first | refine K.GL.det ((K.e_eq rfl rfl).yes (by first | omega | assumption | decide +kernel)) rfl ?_ | refine K.GL.det ((K.e_eq rfl rfl).no (by first | omega | assumption | decide +kernel)) rfl ?_ | refine K.GL.det (K.e_eq rfl rfl) rfl ?_
                refine K.GL.det (K.e_move rfl) rfl ?_
                first | refine K.GL.splitB 51 rfl (fun h5 => ?_) (fun h5 => ?_) | skip
                all_goals first | exact absurd h5 (by decide) | replace h5 := of_decide_eq_true h5 | replace h5 := of_decide_eq_false h5 | skip
                all_goals
                  first | (refine K.GL.want 51 rfl rfl rfl ?_; first | refine K.GL.det (K.e_move rfl) rfl ?_) | refine K.GL.skip 51 rfl rfl rfl rfl ?_ | refine K.GL.skipU 51 rfl rfl rfl rfl ?_
                  first | (refine K.GL.want 51 rfl rfl rfl ?_; first | refine K.GL.det (K.e_move rfl) rfl ?_) | refine K.GL.skip 51 rfl rfl rfl rfl ?_ | refine K.GL.skipU 51 rfl rfl rfl rfl ?_
                  first | (refine K.GL.want 51 rfl rfl rfl ?_; first | refine K.GL.det (K.e_add rfl rfl ⟨by omega, by omega⟩) rfl ?_ | refine K.GL.det (K.e_addw rfl rfl) rfl ?_) | refine K.GL.skip 51 rfl rfl rfl rfl ?_ | refine K.GL.skipU 51 rfl rfl rfl rfl ?_
                  first | (refine K.GL.want 51 rfl rfl rfl ?_; first | refine K.GL.det (K.e_move rfl) rfl ?_) | refine K.GL.skip 51 rfl rfl rfl rfl ?_ | refine K.GL.skipU 51 rfl rfl rfl rfl ?_
                  first | (refine K.GL.want 51 rfl rfl rfl ?_; first | refine K.GL.det ((K.e_gt rfl rfl).yes (by first | omega | assumption | decide +kernel)) rfl ?_ | refine K.GL.det ((K.e_gt rfl rfl).no (by first | omega | assumption | decide +kernel)) rfl ?_ | refine K.GL.det (K.e_gt rfl rfl) rfl ?_) | refine K.GL.skip 51 rfl rfl rfl rfl ?_ | refine K.GL.skipU 51 rfl rfl rfl rfl ?_
                  first | refine K.GL.det (K.e_pick_t rfl rfl) rfl ?_ | refine K.GL.det (K.e_pick_f rfl rfl) rfl ?_
                  refine K.GL.nil ?_
                  refine K.GQ.go ?_
                  refine K.GC.condB rfl (fun h6 => ?_) (fun h6 => ?_)
                  · first
                    | exact absurd h6 (by decide)
                    | try replace h6 := of_decide_eq_true h6
                      refine K.GC.seq ?_
                      refine K.GC.region ?_
                      refine K.GL.det (K.e_move rfl) rfl ?_
                      first | refine K.GL.det (K.e_add rfl rfl ⟨by omega, by omega⟩) rfl ?_ | refine K.GL.det (K.e_addw rfl rfl) rfl ?_
                      refine K.GL.det (K.e_assign rfl) rfl ?_
                      refine K.GL.nil ?_
                      refine K.GQ.go ?_
                      refine K.GC.region ?_
                      refine K.GL.det (K.e_assign rfl) rfl ?_
                      refine K.GL.nil ?_
                      refine K.GQ.go ?_
                      refine K.GC.seq ?_
                      refine K.GC.region ?_
                      refine K.GL.det (K.e_move rfl) rfl ?_
                      refine K.GL.det (K.e_move rfl) rfl ?_
                      first | refine K.GL.det (K.e_add rfl rfl ⟨by omega, by omega⟩) rfl ?_ | refine K.GL.det (K.e_addw rfl rfl) rfl ?_
                      refine K.GL.det (K.e_assign rfl) rfl ?_
                      refine K.GL.nil ?_
                      refine K.GQ.go ?_
                      refine K.GC.seq ?_
                      refine K.GC.region ?_
                      refine K.GL.det (K.e_move rfl) rfl ?_
                      refine K.GL.det (K.e_move rfl) rfl ?_
                      first | refine K.GL.det (K.e_indexAddrS sl36 rfl rfl (by assumption) (by omega) (by omega)) rfl ?_ | refine K.GL.det (K.e_indexAddr sl36 rfl rfl (by omega) (by omega)) rfl ?_
                      refine K.GL.det (K.e_load_old Try.isAgg37 rfl (by have := hS.item (k := 1) (f := encU16) (fun _ => rfl) hv 0 _ rfl; simpa using this)) rfl ?_
                      refine K.GL.det (K.e_remk rfl rfl (by omega) (by omega) (K.wrap_u16 (by omega) (by omega))) rfl ?_
                      first | refine K.GL.det ((K.e_eq rfl rfl).yes (by first | omega | assumption | decide +kernel)) rfl ?_ | refine K.GL.det ((K.e_eq rfl rfl).no (by first | omega | assumption | decide +kernel)) rfl ?_ | refine K.GL.det (K.e_eq rfl rfl) rfl ?_
                      refine K.GL.det (K.e_move rfl) rfl ?_
                      first | refine K.GL.splitB 69 rfl (fun h7 => ?_) (fun h7 => ?_) | skip
                      all_goals first | exact absurd h7 (by decide) | replace h7 := of_decide_eq_true h7 | replace h7 := of_decide_eq_false h7 | skip
                      all_goals
                        first | (refine K.GL.want 69 rfl rfl rfl ?_; first | refine K.GL.det (K.e_move rfl) rfl ?_) | refine K.GL.skip 69 rfl rfl rfl rfl ?_ | refine K.GL.skipU 69 rfl rfl rfl rfl ?_
                        first | (refine K.GL.want 69 rfl rfl rfl ?_; first | refine K.GL.det (K.e_fieldAddr fo23_0 rfl) rfl ?_) | refine K.GL.skip 69 rfl rfl rfl rfl ?_ | refine K.GL.skipU 69 rfl rfl rfl rfl ?_
                        first | (refine K.GL.want 69 rfl rfl rfl ?_; first | refine K.GL.det (K.e_load Try.isAgg3 rfl rfl) rfl ?_ | refine K.GL.det (K.e_load0 Try.isAgg3 rfl (by assumption)) rfl ?_) | refine K.GL.skip 69 rfl rfl rfl rfl ?_ | refine K.GL.skipU 69 rfl rfl rfl rfl ?_
                        first | (refine K.GL.want 69 rfl rfl rfl ?_; first | refine K.GL.det ((K.e_lt rfl rfl).yes (by first | omega | assumption | decide +kernel)) rfl ?_ | refine K.GL.det ((K.e_lt rfl rfl).no (by first | omega | assumption | decide +kernel)) rfl ?_ | refine K.GL.det (K.e_lt rfl rfl) rfl ?_) | refine K.GL.skip 69 rfl rfl rfl rfl ?_ | refine K.GL.skipU 69 rfl rfl rfl rfl ?_
                        first | refine K.GL.det (K.e_pick_t rfl rfl) rfl ?_ | refine K.GL.det (K.e_pick_f rfl rfl) rfl ?_
                        refine K.GL.nil ?_
                        refine K.GQ.go ?_
                        refine K.GC.condB rfl (fun h8 => ?_) (fun h8 => ?_)
                        · first
                          | exact absurd h8 (by decide)
                          | try replace h8 := of_decide_eq_true h8
                            refine K.GC.seq ?_
                            refine K.GC.region ?_
                            refine K.GL.det (K.e_move rfl) rfl ?_
                            refine K.GL.det (K.e_move rfl) rfl ?_
                            refine K.GL.det (K.e_move rfl) rfl ?_
                            refine K.GL.det (K.e_move rfl) rfl ?_
                            first | refine K.GL.det (K.e_indexAddrS sl36 rfl rfl (by assumption) (by omega) (by omega)) rfl ?_ | refine K.GL.det (K.e_indexAddr sl36 rfl rfl (by omega) (by omega)) rfl ?_
                            refine K.GL.det (K.e_load_old Try.isAgg37 rfl (by have := hS.item (k := 1) (f := encU16) (fun _ => rfl) hv 0 _ rfl; simpa using this)) rfl ?_
                            first | refine K.GL.det (K.e_conv Try.underlying37 Try.underlying3 rfl (K.wrap_i64 (by omega) (by omega))) rfl ?_ | refine K.GL.det (K.e_convw Try.underlying37 Try.underlying3 rfl) rfl ?_
                            refine K.GL.det (K.e_rem rfl rfl (by omega) (by omega) (by omega)) rfl ?_
                            first | refine K.GL.det (K.e_add rfl rfl ⟨by omega, by omega⟩) rfl ?_ | refine K.GL.det (K.e_addw rfl rfl) rfl ?_
                            refine K.GL.det (K.e_min rfl rfl) rfl ?_
                            refine K.GL.det (K.e_assign rfl) rfl ?_
                            refine K.GL.nil ?_
                            refine K.GQ.go ?_
                            refine K.GC.region ?_
                            refine K.GL.det (K.e_move rfl) rfl ?_
                            first | refine K.GL.det (K.e_add rfl rfl ⟨by omega, by omega⟩) rfl ?_ | refine K.GL.det (K.e_addw rfl rfl) rfl ?_
                            refine K.GL.det (K.e_assign rfl) rfl ?_
                            refine K.GL.nil ?_
                            refine K.GQ.block_normal ?_
                            refine K.GQ.go ?_
                            refine K.GC.region ?_
                            refine K.GL.det (K.e_move rfl) rfl ?_
                            first | refine K.GL.det (K.e_add rfl rfl ⟨by omega, by omega⟩) rfl ?_ | refine K.GL.det (K.e_addw rfl rfl) rfl ?_
                            refine K.GL.det (K.e_assign rfl) rfl ?_
                            refine K.GL.nil ?_
                            first | exact K.GQ.round (RS.mk (i + 1) left e o n p) ⟨by dsimp only; omega, by dsimp only; omega, hF⟩ (by dsimp only; omega) (by (repeat refine ⟨rfl, ?_⟩); exact trivial) K.sub | exact K.GQ.round (RS.mk (i + 1) (left - (1 + m)) e o (n + (1 + m)) p) ⟨by dsimp only; omega, by dsimp only; omega, (show Fill a b c B (left - (1 + m)) e o (n + (1 + m)) p from hF.more hr hBv (by omega) (by omega) (by omega) (by omega))⟩ (by dsimp only; omega) (by (repeat refine ⟨rfl, ?_⟩); exact trivial) K.sub | exact K.GQ.round (RS.mk (i + 1) (left - (1 + m)) e (o + 1) (min (57 * b) (n + (1 + m) + v % 58)) p) ⟨by dsimp only; omega, by dsimp only; omega, ((show Fill a b c B (left - (1 + m)) e o (n + (1 + m)) p from hF.more hr hBv (by omega) (by omega) (by omega) (by omega)).out (x := v % 58) (by omega) (by omega) (by omega) :)⟩ (by dsimp only; omega) (by (repeat refine ⟨rfl, ?_⟩); exact trivial) K.sub | (obtain ⟨p2, hF2⟩ := hF.turn hr hBv (m := 1 + m) (by omega) (by omega) (by omega) (by omega); first | exact K.GQ.round (RS.mk (i + 1) (left - (1 + m)) (e + 1) o (0 + (1 + m)) p2) ⟨by dsimp only; omega, by dsimp only; omega, hF2⟩ (by dsimp only; omega) (by (repeat refine ⟨rfl, ?_⟩); exact trivial) K.sub | exact K.GQ.round (RS.mk (i + 1) (left - (1 + m)) (e + 1) (o + 1) (min (57 * b) (0 + (1 + m) + v % 58)) p2) ⟨by dsimp only; omega, by dsimp only; omega, (hF2.out (x := v % 58) (by omega) (by omega) (by omega) :)⟩ (by dsimp only; omega) (by (repeat refine ⟨rfl, ?_⟩); exact trivial) K.sub)
                        · first
                          | exact absurd h8 (by decide)
                          | try replace h8 := of_decide_eq_false h8
                            refine K.GC.skip ?_
                            refine K.GQ.block_normal ?_
                            refine K.GQ.go ?_
                            refine K.GC.region ?_
                            refine K.GL.det (K.e_move rfl) rfl ?_
                            first | refine K.GL.det (K.e_add rfl rfl ⟨by omega, by omega⟩) rfl ?_ | refine K.GL.det (K.e_addw rfl rfl) rfl ?_
                            refine K.GL.det (K.e_assign rfl) rfl ?_
                            refine K.GL.nil ?_
                            first | exact K.GQ.round (RS.mk (i + 1) left e o n p) ⟨by dsimp only; omega, by dsimp only; omega, hF⟩ (by dsimp only; omega) (by (repeat refine ⟨rfl, ?_⟩); exact trivial) K.sub | exact K.GQ.round (RS.mk (i + 1) (left - (1 + m)) e o (n + (1 + m)) p) ⟨by dsimp only; omega, by dsimp only; omega, (show Fill a b c B (left - (1 + m)) e o (n + (1 + m)) p from hF.more hr hBv (by omega) (by omega) (by omega) (by omega))⟩ (by dsimp only; omega) (by (repeat refine ⟨rfl, ?_⟩); exact trivial) K.sub | exact K.GQ.round (RS.mk (i + 1) (left - (1 + m)) e (o + 1) (min (57 * b) (n + (1 + m) + v % 58)) p) ⟨by dsimp only; omega, by dsimp only; omega, ((show Fill a b c B (left - (1 + m)) e o (n + (1 + m)) p from hF.more hr hBv (by omega) (by omega) (by omega) (by omega)).out (x := v % 58) (by omega) (by omega) (by omega) :)⟩ (by dsimp only; omega) (by (repeat refine ⟨rfl, ?_⟩); exact trivial) K.sub | (obtain ⟨p2, hF2⟩ := hF.turn hr hBv (m := 1 + m) (by omega) (by omega) (by omega) (by omega); first | exact K.GQ.round (RS.mk (i + 1) (left - (1 + m)) (e + 1) o (0 + (1 + m)) p2) ⟨by dsimp only; omega, by dsimp only; omega, hF2⟩ (by dsimp only; omega) (by (repeat refine ⟨rfl, ?_⟩); exact trivial) K.sub | exact K.GQ.round (RS.mk (i + 1) (left - (1 + m)) (e + 1) (o + 1) (min (57 * b) (0 + (1 + m) + v % 58)) p2) ⟨by dsimp only; omega, by dsimp only; omega, (hF2.out (x := v % 58) (by omega) (by omega) (by omega) :)⟩ (by dsimp only; omega) (by (repeat refine ⟨rfl, ?_⟩); exact trivial) K.sub)
                  · first
                    | exact absurd h6 (by decide)
                    | try replace h6 := of_decide_eq_false h6
                      refine K.GC.skip ?_
                      refine K.GQ.go ?_
                      refine K.GC.seq ?_
                      refine K.GC.region ?_
                      refine K.GL.det (K.e_move rfl) rfl ?_
                      refine K.GL.det (K.e_move rfl) rfl ?_
                      first | refine K.GL.det (K.e_add rfl rfl ⟨by omega, by omega⟩) rfl ?_ | refine K.GL.det (K.e_addw rfl rfl) rfl ?_
                      refine K.GL.det (K.e_assign rfl) rfl ?_
                      refine K.GL.nil ?_
                      refine K.GQ.go ?_
                      refine K.GC.seq ?_
                      refine K.GC.region ?_
                      refine K.GL.det (K.e_move rfl) rfl ?_
                      refine K.GL.det (K.e_move rfl) rfl ?_
                      first | refine K.GL.det (K.e_indexAddrS sl36 rfl rfl (by assumption) (by omega) (by omega)) rfl ?_ | refine K.GL.det (K.e_indexAddr sl36 rfl rfl (by omega) (by omega)) rfl ?_
                      refine K.GL.det (K.e_load_old Try.isAgg37 rfl (by have := hS.item (k := 1) (f := encU16) (fun _ => rfl) hv 0 _ rfl; simpa using this)) rfl ?_
                      refine K.GL.det (K.e_remk rfl rfl (by omega) (by omega) (K.wrap_u16 (by omega) (by omega))) rfl ?_
                      first | refine K.GL.det ((K.e_eq rfl rfl).yes (by first | omega | assumption | decide +kernel)) rfl ?_ | refine K.GL.det ((K.e_eq rfl rfl).no (by first | omega | assumption | decide +kernel)) rfl ?_ | refine K.GL.det (K.e_eq rfl rfl) rfl ?_
                      refine K.GL.det (K.e_move rfl) rfl ?_
                      first | refine K.GL.splitB 69 rfl (fun h9 => ?_) (fun h9 => ?_) | skip
                      all_goals first | exact absurd h9 (by decide) | replace h9 := of_decide_eq_true h9 | replace h9 := of_decide_eq_false h9 | skip
                      all_goals
                        first | (refine K.GL.want 69 rfl rfl rfl ?_; first | refine K.GL.det (K.e_move rfl) rfl ?_) | refine K.GL.skip 69 rfl rfl rfl rfl ?_ | refine K.GL.skipU 69 rfl rfl rfl rfl ?_
                        first | (refine K.GL.want 69 rfl rfl rfl ?_; first | refine K.GL.det (K.e_fieldAddr fo23_0 rfl) rfl ?_) | refine K.GL.skip 69 rfl rfl rfl rfl ?_ | refine K.GL.skipU 69 rfl rfl rfl rfl ?_
                        first | (refine K.GL.want 69 rfl rfl rfl ?_; first | refine K.GL.det (K.e_load Try.isAgg3 rfl rfl) rfl ?_ | refine K.GL.det (K.e_load0 Try.isAgg3 rfl (by assumption)) rfl ?_) | refine K.GL.skip 69 rfl rfl rfl rfl ?_ | refine K.GL.skipU 69 rfl rfl rfl rfl ?_
                        first | (refine K.GL.want 69 rfl rfl rfl ?_; first | refine K.GL.det ((K.e_lt rfl rfl).yes (by first | omega | assumption | decide +kernel)) rfl ?_ | refine K.GL.det ((K.e_lt rfl rfl).no (by first | omega | assumption | decide +kernel)) rfl ?_ | refine K.GL.det (K.e_lt rfl rfl) rfl ?_) | refine K.GL.skip 69 rfl rfl rfl rfl ?_ | refine K.GL.skipU 69 rfl rfl rfl rfl ?_
                        first | refine K.GL.det (K.e_pick_t rfl rfl) rfl ?_ | refine K.GL.det (K.e_pick_f rfl rfl) rfl ?_
                        refine K.GL.nil ?_
                        refine K.GQ.go ?_
                        refine K.GC.condB rfl (fun h10 => ?_) (fun h10 => ?_)
                        · first
                          | exact absurd h10 (by decide)
                          | try replace h10 := of_decide_eq_true h10
                            refine K.GC.seq ?_
                            refine K.GC.region ?_
                            refine K.GL.det (K.e_move rfl) rfl ?_
                            refine K.GL.det (K.e_move rfl) rfl ?_
                            refine K.GL.det (K.e_move rfl) rfl ?_
                            refine K.GL.det (K.e_move rfl) rfl ?_
                            first | refine K.GL.det (K.e_indexAddrS sl36 rfl rfl (by assumption) (by omega) (by omega)) rfl ?_ | refine K.GL.det (K.e_indexAddr sl36 rfl rfl (by omega) (by omega)) rfl ?_
                            refine K.GL.det (K.e_load_old Try.isAgg37 rfl (by have := hS.item (k := 1) (f := encU16) (fun _ => rfl) hv 0 _ rfl; simpa using this)) rfl ?_
                            first | refine K.GL.det (K.e_conv Try.underlying37 Try.underlying3 rfl (K.wrap_i64 (by omega) (by omega))) rfl ?_ | refine K.GL.det (K.e_convw Try.underlying37 Try.underlying3 rfl) rfl ?_
                            refine K.GL.det (K.e_rem rfl rfl (by omega) (by omega) (by omega)) rfl ?_
                            first | refine K.GL.det (K.e_add rfl rfl ⟨by omega, by omega⟩) rfl ?_ | refine K.GL.det (K.e_addw rfl rfl) rfl ?_
                            refine K.GL.det (K.e_min rfl rfl) rfl ?_
                            refine K.GL.det (K.e_assign rfl) rfl ?_
                            refine K.GL.nil ?_
                            refine K.GQ.go ?_
                            refine K.GC.region ?_
                            refine K.GL.det (K.e_move rfl) rfl ?_
                            first | refine K.GL.det (K.e_add rfl rfl ⟨by omega, by omega⟩) rfl ?_ | refine K.GL.det (K.e_addw rfl rfl) rfl ?_
                            refine K.GL.det (K.e_assign rfl) rfl ?_
                            refine K.GL.nil ?_
                            refine K.GQ.block_normal ?_
                            refine K.GQ.go ?_
                            refine K.GC.region ?_
                            refine K.GL.det (K.e_move rfl) rfl ?_
                            first | refine K.GL.det (K.e_add rfl rfl ⟨by omega, by omega⟩) rfl ?_ | refine K.GL.det (K.e_addw rfl rfl) rfl ?_
                            refine K.GL.det (K.e_assign rfl) rfl ?_
                            refine K.GL.nil ?_
                            first | exact K.GQ.round (RS.mk (i + 1) left e o n p) ⟨by dsimp only; omega, by dsimp only; omega, hF⟩ (by dsimp only; omega) (by (repeat refine ⟨rfl, ?_⟩); exact trivial) K.sub | exact K.GQ.round (RS.mk (i + 1) (left - (1 + m)) e o (n + (1 + m)) p) ⟨by dsimp only; omega, by dsimp only; omega, (show Fill a b c B (left - (1 + m)) e o (n + (1 + m)) p from hF.more hr hBv (by omega) (by omega) (by omega) (by omega))⟩ (by dsimp only; omega) (by (repeat refine ⟨rfl, ?_⟩); exact trivial) K.sub | exact K.GQ.round (RS.mk (i + 1) (left - (1 + m)) e (o + 1) (min (57 * b) (n + (1 + m) + v % 58)) p) ⟨by dsimp only; omega, by dsimp only; omega, ((show Fill a b c B (left - (1 + m)) e o (n + (1 + m)) p from hF.more hr hBv (by omega) (by omega) (by omega) (by omega)).out (x := v % 58) (by omega) (by omega) (by omega) :)⟩ (by dsimp only; omega) (by (repeat refine ⟨rfl, ?_⟩); exact trivial) K.sub | (obtain ⟨p2, hF2⟩ := hF.turn hr hBv (m := 1 + m) (by omega) (by omega) (by omega) (by omega); first | exact K.GQ.round (RS.mk (i + 1) (left - (1 + m)) (e + 1) o (0 + (1 + m)) p2) ⟨by dsimp only; omega, by dsimp only; omega, hF2⟩ (by dsimp only; omega) (by (repeat refine ⟨rfl, ?_⟩); exact trivial) K.sub | exact K.GQ.round (RS.mk (i + 1) (left - (1 + m)) (e + 1) (o + 1) (min (57 * b) (0 + (1 + m) + v % 58)) p2) ⟨by dsimp only; omega, by dsimp only; omega, (hF2.out (x := v % 58) (by omega) (by omega) (by omega) :)⟩ (by dsimp only; omega) (by (repeat refine ⟨rfl, ?_⟩); exact trivial) K.sub)
                        · first
                          | exact absurd h10 (by decide)
                          | try replace h10 := of_decide_eq_false h10
                            refine K.GC.skip ?_
                            refine K.GQ.block_normal ?_
                            refine K.GQ.go ?_
                            refine K.GC.region ?_
                            refine K.GL.det (K.e_move rfl) rfl ?_
                            first | refine K.GL.det (K.e_add rfl rfl ⟨by omega, by omega⟩) rfl ?_ | refine K.GL.det (K.e_addw rfl rfl) rfl ?_
                            refine K.GL.det (K.e_assign rfl) rfl ?_
                            refine K.GL.nil ?_
                            first | exact K.GQ.round (RS.mk (i + 1) left e o n p) ⟨by dsimp only; omega, by dsimp only; omega, hF⟩ (by dsimp only; omega) (by (repeat refine ⟨rfl, ?_⟩); exact trivial) K.sub | exact K.GQ.round (RS.mk (i + 1) (left - (1 + m)) e o (n + (1 + m)) p) ⟨by dsimp only; omega, by dsimp only; omega, (show Fill a b c B (left - (1 + m)) e o (n + (1 + m)) p from hF.more hr hBv (by omega) (by omega) (by omega) (by omega))⟩ (by dsimp only; omega) (by (repeat refine ⟨rfl, ?_⟩); exact trivial) K.sub | exact K.GQ.round (RS.mk (i + 1) (left - (1 + m)) e (o + 1) (min (57 * b) (n + (1 + m) + v % 58)) p) ⟨by dsimp only; omega, by dsimp only; omega, ((show Fill a b c B (left - (1 + m)) e o (n + (1 + m)) p from hF.more hr hBv (by omega) (by omega) (by omega) (by omega)).out (x := v % 58) (by omega) (by omega) (by omega) :)⟩ (by dsimp only; omega) (by (repeat refine ⟨rfl, ?_⟩); exact trivial) K.sub | (obtain ⟨p2, hF2⟩ := hF.turn hr hBv (m := 1 + m) (by omega) (by omega) (by omega) (by omega); first | exact K.GQ.round (RS.mk (i + 1) (left - (1 + m)) (e + 1) o (0 + (1 + m)) p2) ⟨by dsimp only; omega, by dsimp only; omega, hF2⟩ (by dsimp only; omega) (by (repeat refine ⟨rfl, ?_⟩); exact trivial) K.sub | exact K.GQ.round (RS.mk (i + 1) (left - (1 + m)) (e + 1) (o + 1) (min (57 * b) (0 + (1 + m) + v % 58)) p2) ⟨by dsimp only; omega, by dsimp only; omega, (hF2.out (x := v % 58) (by omega) (by omega) (by omega) :)⟩ (by dsimp only; omega) (by (repeat refine ⟨rfl, ?_⟩); exact trivial) K.sub)
        · first
          | exact absurd h3 (by decide)
          | try replace h3 := of_decide_eq_false h3
            refine K.GC.exit ?_
            refine K.GQ.then_exit ?_
            refine K.GQ.then_exit ?_
            refine K.GQ.block_hit ?_
            refine K.GQ.go ?_
            refine K.GC.seq ?_
            refine K.GC.region ?_
            refine K.GL.det (K.e_move rfl) rfl ?_
            refine K.GL.det (K.e_move rfl) rfl ?_
            first | refine K.GL.splitB 88 rfl (fun h11 => ?_) (fun h11 => ?_) | skip
            all_goals first | exact absurd h11 (by decide) | replace h11 := of_decide_eq_true h11 | replace h11 := of_decide_eq_false h11 | skip
            all_goals
              first | (refine K.GL.want 88 rfl rfl rfl ?_; first | refine K.GL.det (K.e_move rfl) rfl ?_) | refine K.GL.skip 88 rfl rfl rfl rfl ?_ | refine K.GL.skipU 88 rfl rfl rfl rfl ?_
              first | (refine K.GL.want 88 rfl rfl rfl ?_; first | refine K.GL.det (K.e_fieldAddr fo23_0 rfl) rfl ?_) | refine K.GL.skip 88 rfl rfl rfl rfl ?_ | refine K.GL.skipU 88 rfl rfl rfl rfl ?_
              first | (refine K.GL.want 88 rfl rfl rfl ?_; first | refine K.GL.det (K.e_load Try.isAgg3 rfl rfl) rfl ?_ | refine K.GL.det (K.e_load0 Try.isAgg3 rfl (by assumption)) rfl ?_) | refine K.GL.skip 88 rfl rfl rfl rfl ?_ | refine K.GL.skipU 88 rfl rfl rfl rfl ?_
              first | (refine K.GL.want 88 rfl rfl rfl ?_; first | refine K.GL.det (K.e_sub rfl rfl ⟨by omega, by omega⟩) rfl ?_ | refine K.GL.det (K.e_subw rfl rfl) rfl ?_) | refine K.GL.skip 88 rfl rfl rfl rfl ?_ | refine K.GL.skipU 88 rfl rfl rfl rfl ?_
              first | (refine K.GL.want 88 rfl rfl rfl ?_; first | refine K.GL.det ((K.e_le rfl rfl).yes (by first | omega | assumption | decide +kernel)) rfl ?_ | refine K.GL.det ((K.e_le rfl rfl).no (by first | omega | assumption | decide +kernel)) rfl ?_ | refine K.GL.det (K.e_le rfl rfl) rfl ?_) | refine K.GL.skip 88 rfl rfl rfl rfl ?_ | refine K.GL.skipU 88 rfl rfl rfl rfl ?_
              first | refine K.GL.det (K.e_pick_t rfl rfl) rfl ?_ | refine K.GL.det (K.e_pick_f rfl rfl) rfl ?_
              refine K.GL.det (K.e_move rfl) rfl ?_
              first | refine K.GL.splitB 95 rfl (fun h12 => ?_) (fun h12 => ?_) | skip
              all_goals first | exact absurd h12 (by decide) | replace h12 := of_decide_eq_true h12 | replace h12 := of_decide_eq_false h12 | skip
              all_goals
                first | (refine K.GL.want 95 rfl rfl rfl ?_; first | refine K.GL.det (K.e_move rfl) rfl ?_) | refine K.GL.skip 95 rfl rfl rfl rfl ?_ | refine K.GL.skipU 95 rfl rfl rfl rfl ?_
                first | (refine K.GL.want 95 rfl rfl rfl ?_; first | refine K.GL.det ((K.e_ge rfl rfl).yes (by first | omega | assumption | decide +kernel)) rfl ?_ | refine K.GL.det ((K.e_ge rfl rfl).no (by first | omega | assumption | decide +kernel)) rfl ?_ | refine K.GL.det (K.e_ge rfl rfl) rfl ?_) | refine K.GL.skip 95 rfl rfl rfl rfl ?_ | refine K.GL.skipU 95 rfl rfl rfl rfl ?_
                first | refine K.GL.det (K.e_pick_t rfl rfl) rfl ?_ | refine K.GL.det (K.e_pick_f rfl rfl) rfl ?_
                refine K.GL.det (K.e_assign rfl) rfl ?_
                refine K.GL.nil ?_
                refine K.GQ.go ?_
                refine K.GC.ret ?_
                refine K.GQ.ret1 Try.results5 rfl (fun w hT => ?_)
                exact ⟨rfl, hT.nil⟩

set_option maxHeartbeats 1000000 in
set_option maxRecDepth 100000 in
theorem GeomRoom_lifted (os : Os) (started : os.Started) (H : Type) (enc : TypeId × Value → H) :
    ReturnsInHanded {} Try.checked os 5 .any (Rows.geomRoomSpec.pre6 enc Try.prog Try.f5 Rows.geomRoomRow.domain false) (Rows.geomRoomSpec.post enc Try.prog Try.f5 false true false false) := by
  refine returnsInHanded_of_change_sized (C := Try.checked) own started (by kernel_rfl) Try.func5
    (ChangeSpec.witness6 (enc := enc) (C := Try.checked) false ⟨#[], #[.agg #[.int .i64 0, .int .i64 0, .int .i64 0], .slice none 0 0], []⟩ 8 (by kernel_rfl) (by kernel_rfl) (by kernel_rfl) (by kernel_rfl)) ?_
  intro W base args ds gs before hval0 hW _ hsz0 _
  have hval : ∀ (j : Nat) t v, Try.f5.params[j]? = some t → args[j]? = some v → Value.okWide Try.prog W .any base t v := hval0
  have hsz : (DataW.weightsEach Try.prog (Try.f5.params.toList ++ []) (ds ++ gs)).all (· ≤ reachBytes) = true := hsz0
  have hW' := hW
  obtain ⟨p, q, hA0, hV, hpe, hfz, hnd⟩ := hW
  have hA : DataW.TrodAll enc Try.prog W 0 (fun _ => true) true Try.f5.params.toList args.toList ds p := hA0
  obtain ⟨rfl, rfl⟩ := trodVars_none hV
  rw [Try.params5] at hA hval hsz
  obtain ⟨v0, vs0, d0, ds0, p0, q0, hargs, rfl, rfl, h0, r0⟩ := trodAll_cons hA
  obtain ⟨v1, vs1, d1, ds1, p1, q1, rfl, rfl, rfl, h1, r1⟩ := trodAll_cons r0
  obtain ⟨rfl, rfl, rfl⟩ := trodAll_nil r1
  obtain rfl : args = #[v0, v1] := by cases args; simp_all
  clear hA0 hval0 hsz0 hA hargs
  obtain ⟨c0, c1, c2, y0, y1, y2, m, rfl, rfl, rfl, hy0, hy1, hy2⟩ := open_agg3 Try.underlying23 (by kernel_rfl) cellsGeo (hval 0 23 _ rfl rfl) h0
  obtain ⟨a, e0, rfl, wa⟩ := DataW.trod_int Try.underlying3 hy0
  obtain ⟨b, e1, rfl, wb⟩ := DataW.trod_int Try.underlying3 hy1
  obtain ⟨c, e2, rfl, wc⟩ := DataW.trod_int Try.underlying3 hy2
  simp only [List.cons.injEq, and_true] at e0 e1 e2
  subst e0 e1 e2
  have ia := (bounds_i64 wa)
  obtain ⟨a0, len, cap, rfl⟩ := okWide_slice Try.underlying36 (hval 1 36 _ rfl rfl)
  obtain ⟨fuel, hf⟩ := h1
  have key : ∃ xs : List Int, Sl W 1 a0 len (xs.flatMap encU16) ∧ (∀ x ∈ xs, 0 ≤ x ∧ x ≤ 65535) ∧ len ≤ 9223372036854775807 := by
    rcases open_ints Try.underlying36 Try.underlying37 cellsU16 hf with ⟨hcs, hx⟩ | ⟨a1, len', cap', zs, hcs, _, hl, hm, hz, hx, hcell, hwz⟩
    · have hcs' : Value.slice a0 len cap = .slice none 0 0 := by simpa [Value.cells] using hcs
      simp only [Value.slice.injEq] at hcs'
      obtain ⟨rfl, rfl, rfl⟩ := hcs'
      exact ⟨[], Sl.nil W 1, by simp, by omega⟩
    · have hcs' : Value.slice a0 len cap = .slice (some a1) len' cap' := by simpa [Value.cells] using hcs
      simp only [Value.slice.injEq] at hcs'
      obtain ⟨rfl, rfl, rfl⟩ := hcs'
      unfold maxLen at hm
      have hzl : len ≤ zs.length := by rw [hz]; simp; omega
      refine ⟨zs.take len, Sl.of_ints hzl hcell, fun x hx => ?_, by omega⟩
      exact bounds_u16 (hwz x (List.mem_of_mem_take hx))
  obtain ⟨xs, hS, hxs, hn⟩ := key
  have core : Calls Try.prog 5 #[.agg #[.int .i64 a, .int .i64 b, .int .i64 c], .slice a0 len cap] W fun e W' => e = .returned (.bool true) ∧ Tr W [] W' [] := by
    cases hr : rightB a b c
    · exact groomlaw_no a b c a0 len cap W hr
    · exact groomlaw_yes a b c a0 len cap xs W hr hS hxs hn
  exact core.mono fun e W' ⟨he, hT⟩ => ⟨_, he, law_post (tb := 4) hW' rfl rfl Try.underlying4 (fun _ => rfl) laidOut (by kernel_rfl) hT.below⟩
theorem GeomRoom_holds : Rows.GeomRoomSaid :=
  OpenClaim.holds_of_wide 5 Try.f5 rfl rfl rfl rfl rfl rfl rfl ⟨rfl, rfl, rfl, rfl, rfl⟩ rfl rfl rfl rfl rfl (by kernel_rfl) Try.func5 (by kernel_rfl)
    (of_decide_eq_true (by kernel_rfl)) (by unfold Func.isWrapper; first | (rw [if_pos (by decide +kernel)]; kernel_rfl) | (rw [if_neg (by decide +kernel)]; exact ⟨rfl, rfl⟩))
    (fun os started H enc _ => GeomRoom_lifted os started H enc)

end Go.Proofs.Ytjbcnbhndinjhaa
