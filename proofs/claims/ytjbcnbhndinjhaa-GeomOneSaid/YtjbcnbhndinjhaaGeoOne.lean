/- GeomOne returns true for every use of a device, and turns nothing. -/
import Derived.ProofKit
import Derived.OpenShut
import Derived.SizedLaws
import Derived.Lib.SmallJoins
import Derived.Test.YtjbcnbhndinjhaaGeo
namespace Go.Proofs.Ytjbcnbhndinjhaa
open Go Go.K Go.ChangeShapes Go.WideShapes Go.ChangeAt Go.RowKit Go.Joins
set_option linter.unusedVariables false
set_option linter.unusedSimpArgs false
attribute [local irreducible] Calls Ev GL GC GQ GR Code.wp
theorem own : ownKnob Try.prog.godebug = none := by kernel_rfl
theorem laidOut : laidOutB Try.prog = true := by kernel_rfl
theorem cellsU16 : Try.prog.cellsOf 37 = 1 := by kernel_rfl
theorem cellsGeo : Try.prog.cellsOf 23 = 3 := by kernel_rfl
/-! ### Budgets -/
theorem budget_a {a b c : Int} (h : rightB a b c = true) (h2 : rightB (a + 1) b c = true) : budgetP a b c ≤ budgetP (a + 1) b c := by
  rw [budget_val h, budget_val h2]
  rw [right_iff] at h h2
  have e : (a + 1 - 3) * (57 * b - c) = (a - 3) * (57 * b - c) + (57 * b - c) := by rw [show a + 1 - 3 = (a - 3) + 1 by omega, Int.add_mul]; omega
  rcases (by omega : 57 ≤ 57 * b - c ∨ 57 * b - c < 57) with k | k
  · omega
  · have h3 := Int.mul_le_mul_of_nonneg_left (show 57 * b - c ≤ 57 by omega) (show 0 ≤ a - 3 by omega)
    omega
theorem budget_b {a b c : Int} (h : rightB a b c = true) (h2 : rightB a (b + 1) c = true) : budgetP a b c ≤ budgetP a (b + 1) c := by
  rw [budget_val h, budget_val h2]
  rw [right_iff] at h h2
  have h3 := Int.mul_le_mul_of_nonneg_left (show 57 * b - c ≤ 57 * (b + 1) - c by omega) (show 0 ≤ a - 3 by omega)
  omega
theorem budget_c {a b c : Int} (h : rightB a b c = true) (h2 : rightB a b (c + 1) = true) : budgetP a b (c + 1) ≤ budgetP a b c := by
  rw [budget_val h, budget_val h2]
  rw [right_iff] at h h2
  have h3 := Int.mul_le_mul_of_nonneg_left (show 57 * b - (c + 1) ≤ 57 * b - c by omega) (show 0 ≤ a - 3 by omega)
  omega

/- turntable/turntablelaw17.GeomOne -/
set_option maxHeartbeats 1000000 in
set_option maxRecDepth 100000 in
theorem one_no (a b c : Int) (w : World) (hr : rightB a b c = false) :
    Calls Try.prog 6 #[.agg #[.int .i64 a, .int .i64 b, .int .i64 c]] w fun e w' => e = .returned (.bool true) ∧ Tr w [] w' [] := by
  refine K.enter0 (args := [_]) Try.func6 rfl Try.ntmps6 rfl ?_
  refine K.GC.seq ?_
  refine K.GC.region ?_
  refine K.GL.box rfl rfl rfl (fun b1 => ?_)
  refine K.GL.det (K.e_assign rfl) rfl ?_
  refine K.GL.nil ?_
  refine K.GQ.go ?_
  refine K.GC.seq ?_
  refine K.GC.region ?_
  refine K.GL.det (K.e_call1 Try.call8 rfl (fun w hT => head_any w)) rfl ?_
  refine K.GL.det (K.e_assign rfl) rfl ?_
  refine K.GL.nil ?_
  refine K.GQ.go ?_
  refine K.GC.seq ?_
  refine K.GC.seq ?_
  refine K.GC.region ?_
  refine K.GL.det (K.e_loads Try.isAgg23 Try.sizeOf23 rfl rfl) rfl ?_
  refine K.GL.det (K.e_call1 Try.call9 rfl (fun w hT => right_any _ _ _ w)) rfl ?_
  first | refine K.GL.det ((K.e_not rfl).cast_bool (b := false) (by rw [hr]; rfl)) rfl ?_ | refine K.GL.det ((K.e_not rfl).cast_bool (b := true) (by rw [hr]; rfl)) rfl ?_ | refine K.GL.det (K.e_notp rfl) rfl ?_ | refine K.GL.det (K.e_not rfl) rfl ?_
  refine K.GL.nil ?_
  refine K.GQ.go ?_
  refine K.GC.condB rfl (fun h1 => ?_) (fun h1 => ?_)
  · first
    | exact absurd h1 (by decide)
    | try replace h1 := of_decide_eq_true h1
      refine K.GC.seq ?_
      refine K.GC.region ?_
      refine K.GL.det (K.e_move rfl) rfl ?_
      refine K.GL.det (K.e_assign rfl) rfl ?_
      refine K.GL.nil ?_
      refine K.GQ.go ?_
      refine K.GC.ret ?_
      refine K.GQ.then_ret ?_
      refine K.GQ.ret1 Try.results6 rfl (fun w hT => ?_)
      exact ⟨rfl, hT.nil⟩
  · first
    | exact absurd h1 (by decide)
    | try replace h1 := of_decide_eq_false h1
      refine K.GC.skip ?_
      refine K.GQ.go ?_
      refine K.GC.seq ?_
      exfalso; first | contradiction | omega | simp_all
/- turntable/turntablelaw17.GeomOne -/
set_option maxHeartbeats 1000000 in
set_option maxRecDepth 100000 in
theorem one_yes (a b c : Int) (w : World) (hr : rightB a b c = true) :
    Calls Try.prog 6 #[.agg #[.int .i64 a, .int .i64 b, .int .i64 c]] w fun e w' => e = .returned (.bool true) ∧ Tr w [] w' [] := by
  have hb := (right_iff a b c).1 hr
  have h0 := budget_nn hr
  have ha := budget_a hr
  have hb2 := budget_b hr
  have hc := budget_c hr
  cases g1 : rightB (a + 1) b c
  all_goals cases g2 : rightB a (b + 1) c
  all_goals cases g3 : rightB a b (c + 1)
  all_goals try replace ha := ha g1
  all_goals try replace hb2 := hb2 g2
  all_goals try replace hc := hc g3
  all_goals
  refine K.enter0 (args := [_]) Try.func6 rfl Try.ntmps6 rfl ?_
  refine K.GC.seq ?_
  refine K.GC.region ?_
  refine K.GL.box rfl rfl rfl (fun b1 => ?_)
  refine K.GL.det (K.e_assign rfl) rfl ?_
  refine K.GL.nil ?_
  refine K.GQ.go ?_
  refine K.GC.seq ?_
  refine K.GC.region ?_
  refine K.GL.det (K.e_call1 Try.call8 rfl (fun w hT => head_any w)) rfl ?_
  refine K.GL.det (K.e_assign rfl) rfl ?_
  refine K.GL.nil ?_
  refine K.GQ.go ?_
  refine K.GC.seq ?_
  refine K.GC.seq ?_
  refine K.GC.region ?_
  refine K.GL.det (K.e_loads Try.isAgg23 Try.sizeOf23 rfl rfl) rfl ?_
  refine K.GL.det ((K.e_call1 Try.call9 rfl (fun w hT => right_any _ _ _ w)).cast_bool hr) rfl ?_
  refine K.GL.det (K.e_not rfl) rfl ?_
  refine K.GL.nil ?_
  refine K.GQ.go ?_
  refine K.GC.condB rfl (fun h1 => ?_) (fun h1 => ?_)
  · first
    | exact absurd h1 (by decide)
    | try replace h1 := of_decide_eq_true h1
      refine K.GC.seq ?_
      refine K.GC.region ?_
      refine K.GL.det (K.e_move rfl) rfl ?_
      refine K.GL.det (K.e_assign rfl) rfl ?_
      refine K.GL.nil ?_
      refine K.GQ.go ?_
      refine K.GC.ret ?_
      refine K.GQ.then_ret ?_
      refine K.GQ.ret1 Try.results6 rfl (fun w hT => ?_)
      exact ⟨rfl, hT.nil⟩
  · first
    | exact absurd h1 (by decide)
    | try replace h1 := of_decide_eq_false h1
      refine K.GC.skip ?_
      refine K.GQ.go ?_
      refine K.GC.seq ?_
      refine K.GC.region ?_
      refine K.GL.det (K.e_loads Try.isAgg23 Try.sizeOf23 rfl rfl) rfl ?_
      refine K.GL.alloc Try.zeroValue23 rfl rfl (fun b4 => ?_)
      refine K.GL.store rfl rfl rfl Try.sizeOf23 rfl rfl ?_
      refine K.GL.nil ?_
      refine K.GQ.go ?_
      refine K.GC.seq ?_
      refine K.GC.region ?_
      refine K.GL.det (K.e_fieldAddr fo23_0 rfl) rfl ?_
      first | refine K.GL.det (K.e_load Try.isAgg3 rfl rfl) rfl ?_ | refine K.GL.det (K.e_load0 Try.isAgg3 rfl (by assumption)) rfl ?_
      first | refine K.GL.det (K.e_add rfl rfl ⟨by omega, by omega⟩) rfl ?_ | refine K.GL.det (K.e_addw rfl rfl) rfl ?_
      refine K.GL.det (K.e_fieldAddr fo23_0 rfl) rfl ?_
      refine K.GL.store rfl rfl rfl Try.sizeOf3 rfl rfl ?_
      refine K.GL.nil ?_
      refine K.GQ.go ?_
      refine K.GC.seq ?_
      refine K.GC.region ?_
      refine K.GL.det (K.e_loads Try.isAgg23 Try.sizeOf23 rfl rfl) rfl ?_
      refine K.GL.alloc Try.zeroValue23 rfl rfl (fun b5 => ?_)
      refine K.GL.store rfl rfl rfl Try.sizeOf23 rfl rfl ?_
      refine K.GL.nil ?_
      refine K.GQ.go ?_
      refine K.GC.seq ?_
      refine K.GC.region ?_
      refine K.GL.det (K.e_fieldAddr fo23_1 rfl) rfl ?_
      first | refine K.GL.det (K.e_load Try.isAgg3 rfl rfl) rfl ?_ | refine K.GL.det (K.e_load0 Try.isAgg3 rfl (by assumption)) rfl ?_
      first | refine K.GL.det (K.e_add rfl rfl ⟨by omega, by omega⟩) rfl ?_ | refine K.GL.det (K.e_addw rfl rfl) rfl ?_
      refine K.GL.det (K.e_fieldAddr fo23_1 rfl) rfl ?_
      refine K.GL.store rfl rfl rfl Try.sizeOf3 rfl rfl ?_
      refine K.GL.nil ?_
      refine K.GQ.go ?_
      refine K.GC.seq ?_
      refine K.GC.region ?_
      refine K.GL.det (K.e_loads Try.isAgg23 Try.sizeOf23 rfl rfl) rfl ?_
      refine K.GL.alloc Try.zeroValue23 rfl rfl (fun b6 => ?_)
      refine K.GL.store rfl rfl rfl Try.sizeOf23 rfl rfl ?_
      refine K.GL.nil ?_
      refine K.GQ.go ?_
      refine K.GC.seq ?_
      refine K.GC.region ?_
      refine K.GL.det (K.e_fieldAddr fo23_2 rfl) rfl ?_
      first | refine K.GL.det (K.e_load Try.isAgg3 rfl rfl) rfl ?_ | refine K.GL.det (K.e_load0 Try.isAgg3 rfl (by assumption)) rfl ?_
      first | refine K.GL.det (K.e_add rfl rfl ⟨by omega, by omega⟩) rfl ?_ | refine K.GL.det (K.e_addw rfl rfl) rfl ?_
      refine K.GL.det (K.e_fieldAddr fo23_2 rfl) rfl ?_
      refine K.GL.store rfl rfl rfl Try.sizeOf3 rfl rfl ?_
      refine K.GL.nil ?_
      refine K.GQ.go ?_
      refine K.GC.seq ?_
      refine K.GC.region ?_
      refine K.GL.det (K.e_loads Try.isAgg23 Try.sizeOf23 rfl rfl) rfl ?_
      refine K.GL.det (K.e_call1 Try.call17 rfl (fun w hT => budget_any _ _ _ w)) rfl ?_
      refine K.GL.det (K.e_assign rfl) rfl ?_
      refine K.GL.nil ?_
      refine K.GQ.go ?_
      refine K.GC.seq ?_
      refine K.GC.region ?_
      refine K.GL.det (K.e_move rfl) rfl ?_
      refine K.GL.det (K.e_move rfl) rfl ?_
      first | refine K.GL.splitB 31 rfl (fun h2 => ?_) (fun h2 => ?_) | skip
      all_goals first | exact absurd h2 (by decide) | replace h2 := of_decide_eq_true h2 | replace h2 := of_decide_eq_false h2 | skip
      all_goals
        first | (refine K.GL.want 31 rfl rfl rfl ?_; first | refine K.GL.det (K.e_move rfl) rfl ?_) | refine K.GL.skip 31 rfl rfl rfl rfl ?_ | refine K.GL.skipU 31 rfl rfl rfl rfl ?_
        first | (refine K.GL.want 31 rfl rfl rfl ?_; first | refine K.GL.det ((K.e_ge rfl rfl).yes (by first | omega | assumption | decide +kernel)) rfl ?_ | refine K.GL.det ((K.e_ge rfl rfl).no (by first | omega | assumption | decide +kernel)) rfl ?_ | refine K.GL.det (K.e_ge rfl rfl) rfl ?_) | refine K.GL.skip 31 rfl rfl rfl rfl ?_ | refine K.GL.skipU 31 rfl rfl rfl rfl ?_
        first | refine K.GL.det (K.e_pick_t rfl rfl) rfl ?_ | refine K.GL.det (K.e_pick_f rfl rfl) rfl ?_
        refine K.GL.det (K.e_move rfl) rfl ?_
        first | refine K.GL.splitB 35 rfl (fun h3 => ?_) (fun h3 => ?_) | skip
        all_goals first | exact absurd h3 (by decide) | replace h3 := of_decide_eq_true h3 | replace h3 := of_decide_eq_false h3 | skip
        all_goals
          first | (refine K.GL.want 35 rfl rfl rfl ?_; first | refine K.GL.det (K.e_loads Try.isAgg23 Try.sizeOf23 rfl rfl) rfl ?_) | refine K.GL.skip 35 rfl rfl rfl rfl ?_ | refine K.GL.skipU 35 rfl rfl rfl rfl ?_
          first | (refine K.GL.want 35 rfl rfl rfl ?_; first | refine K.GL.det ((K.e_call1 Try.call9 rfl (fun w hT => right_any _ _ _ w)).cast_bool g1) rfl ?_) | refine K.GL.skip 35 rfl rfl rfl rfl ?_ | refine K.GL.skipU 35 rfl rfl rfl rfl ?_
          first | (refine K.GL.want 35 rfl rfl rfl ?_; first | refine K.GL.det (K.e_not rfl) rfl ?_) | refine K.GL.skip 35 rfl rfl rfl rfl ?_ | refine K.GL.skipU 35 rfl rfl rfl rfl ?_
          first | (refine K.GL.want 35 rfl rfl rfl ?_; first | refine K.GL.det (K.e_move rfl) rfl ?_) | refine K.GL.skip 35 rfl rfl rfl rfl ?_ | refine K.GL.skipU 35 rfl rfl rfl rfl ?_
          first | refine K.GL.splitB 39 rfl (fun h4 => ?_) (fun h4 => ?_) | skip
          all_goals first | exact absurd h4 (by decide) | replace h4 := of_decide_eq_true h4 | replace h4 := of_decide_eq_false h4 | skip
          all_goals
            first | (refine K.GL.want 39 rfl rfl rfl ?_; first | refine K.GL.det (K.e_loads Try.isAgg23 Try.sizeOf23 rfl rfl) rfl ?_) | refine K.GL.skip 39 rfl rfl rfl rfl ?_ | refine K.GL.skipU 39 rfl rfl rfl rfl ?_
            first | (refine K.GL.want 39 rfl rfl rfl ?_; first | refine K.GL.det (K.e_call1 Try.call17 rfl (fun w hT => budget_any _ _ _ w)) rfl ?_) | refine K.GL.skip 39 rfl rfl rfl rfl ?_ | refine K.GL.skipU 39 rfl rfl rfl rfl ?_
            first | (refine K.GL.want 39 rfl rfl rfl ?_; first | refine K.GL.det (K.e_move rfl) rfl ?_) | refine K.GL.skip 39 rfl rfl rfl rfl ?_ | refine K.GL.skipU 39 rfl rfl rfl rfl ?_
            first | (refine K.GL.want 39 rfl rfl rfl ?_; first | refine K.GL.det ((K.e_ge rfl rfl).yes (by first | omega | assumption | decide +kernel)) rfl ?_ | refine K.GL.det ((K.e_ge rfl rfl).no (by first | omega | assumption | decide +kernel)) rfl ?_ | refine K.GL.det (K.e_ge rfl rfl) rfl ?_) | refine K.GL.skip 39 rfl rfl rfl rfl ?_ | refine K.GL.skipU 39 rfl rfl rfl rfl ?_
            first | (refine K.GL.want 35 rfl rfl rfl ?_; first | refine K.GL.det (K.e_pick_t rfl rfl) rfl ?_ | refine K.GL.det (K.e_pick_f rfl rfl) rfl ?_) | refine K.GL.skip 35 rfl rfl rfl rfl ?_ | refine K.GL.skipU 35 rfl rfl rfl rfl ?_
            first | refine K.GL.det (K.e_pick_t rfl rfl) rfl ?_ | refine K.GL.det (K.e_pick_f rfl rfl) rfl ?_
            refine K.GL.det (K.e_move rfl) rfl ?_
            first | refine K.GL.splitB 46 rfl (fun h5 => ?_) (fun h5 => ?_) | skip
            all_goals first | exact absurd h5 (by decide) | replace h5 := of_decide_eq_true h5 | replace h5 := of_decide_eq_false h5 | skip
            all_goals
              first | (refine K.GL.want 46 rfl rfl rfl ?_; first | refine K.GL.det (K.e_loads Try.isAgg23 Try.sizeOf23 rfl rfl) rfl ?_) | refine K.GL.skip 46 rfl rfl rfl rfl ?_ | refine K.GL.skipU 46 rfl rfl rfl rfl ?_
              first | (refine K.GL.want 46 rfl rfl rfl ?_; first | refine K.GL.det ((K.e_call1 Try.call9 rfl (fun w hT => right_any _ _ _ w)).cast_bool g2) rfl ?_) | refine K.GL.skip 46 rfl rfl rfl rfl ?_ | refine K.GL.skipU 46 rfl rfl rfl rfl ?_
              first | (refine K.GL.want 46 rfl rfl rfl ?_; first | refine K.GL.det (K.e_not rfl) rfl ?_) | refine K.GL.skip 46 rfl rfl rfl rfl ?_ | refine K.GL.skipU 46 rfl rfl rfl rfl ?_
              first | (refine K.GL.want 46 rfl rfl rfl ?_; first | refine K.GL.det (K.e_move rfl) rfl ?_) | refine K.GL.skip 46 rfl rfl rfl rfl ?_ | refine K.GL.skipU 46 rfl rfl rfl rfl ?_
              first | refine K.GL.splitB 50 rfl (fun h6 => ?_) (fun h6 => ?_) | skip
              all_goals first | exact absurd h6 (by decide) | replace h6 := of_decide_eq_true h6 | replace h6 := of_decide_eq_false h6 | skip
              all_goals
                first | (refine K.GL.want 50 rfl rfl rfl ?_; first | refine K.GL.det (K.e_loads Try.isAgg23 Try.sizeOf23 rfl rfl) rfl ?_) | refine K.GL.skip 50 rfl rfl rfl rfl ?_ | refine K.GL.skipU 50 rfl rfl rfl rfl ?_
                first | (refine K.GL.want 50 rfl rfl rfl ?_; first | refine K.GL.det (K.e_call1 Try.call17 rfl (fun w hT => budget_any _ _ _ w)) rfl ?_) | refine K.GL.skip 50 rfl rfl rfl rfl ?_ | refine K.GL.skipU 50 rfl rfl rfl rfl ?_
                first | (refine K.GL.want 50 rfl rfl rfl ?_; first | refine K.GL.det (K.e_move rfl) rfl ?_) | refine K.GL.skip 50 rfl rfl rfl rfl ?_ | refine K.GL.skipU 50 rfl rfl rfl rfl ?_
                first | (refine K.GL.want 50 rfl rfl rfl ?_; first | refine K.GL.det ((K.e_ge rfl rfl).yes (by first | omega | assumption | decide +kernel)) rfl ?_ | refine K.GL.det ((K.e_ge rfl rfl).no (by first | omega | assumption | decide +kernel)) rfl ?_ | refine K.GL.det (K.e_ge rfl rfl) rfl ?_) | refine K.GL.skip 50 rfl rfl rfl rfl ?_ | refine K.GL.skipU 50 rfl rfl rfl rfl ?_
                first | (refine K.GL.want 46 rfl rfl rfl ?_; first | refine K.GL.det (K.e_pick_t rfl rfl) rfl ?_ | refine K.GL.det (K.e_pick_f rfl rfl) rfl ?_) | refine K.GL.skip 46 rfl rfl rfl rfl ?_ | refine K.GL.skipU 46 rfl rfl rfl rfl ?_
                first | refine K.GL.det (K.e_pick_t rfl rfl) rfl ?_ | refine K.GL.det (K.e_pick_f rfl rfl) rfl ?_
                refine K.GL.det (K.e_move rfl) rfl ?_
                first | refine K.GL.splitB 57 rfl (fun h7 => ?_) (fun h7 => ?_) | skip
                all_goals first | exact absurd h7 (by decide) | replace h7 := of_decide_eq_true h7 | replace h7 := of_decide_eq_false h7 | skip
                all_goals
                  first | (refine K.GL.want 57 rfl rfl rfl ?_; first | refine K.GL.det (K.e_loads Try.isAgg23 Try.sizeOf23 rfl rfl) rfl ?_) | refine K.GL.skip 57 rfl rfl rfl rfl ?_ | refine K.GL.skipU 57 rfl rfl rfl rfl ?_
                  first | (refine K.GL.want 57 rfl rfl rfl ?_; first | refine K.GL.det ((K.e_call1 Try.call9 rfl (fun w hT => right_any _ _ _ w)).cast_bool g3) rfl ?_) | refine K.GL.skip 57 rfl rfl rfl rfl ?_ | refine K.GL.skipU 57 rfl rfl rfl rfl ?_
                  first | (refine K.GL.want 57 rfl rfl rfl ?_; first | refine K.GL.det (K.e_not rfl) rfl ?_) | refine K.GL.skip 57 rfl rfl rfl rfl ?_ | refine K.GL.skipU 57 rfl rfl rfl rfl ?_
                  first | (refine K.GL.want 57 rfl rfl rfl ?_; first | refine K.GL.det (K.e_move rfl) rfl ?_) | refine K.GL.skip 57 rfl rfl rfl rfl ?_ | refine K.GL.skipU 57 rfl rfl rfl rfl ?_
                  first | refine K.GL.splitB 61 rfl (fun h8 => ?_) (fun h8 => ?_) | skip
                  all_goals first | exact absurd h8 (by decide) | replace h8 := of_decide_eq_true h8 | replace h8 := of_decide_eq_false h8 | skip
                  all_goals
                    first | (refine K.GL.want 61 rfl rfl rfl ?_; first | refine K.GL.det (K.e_loads Try.isAgg23 Try.sizeOf23 rfl rfl) rfl ?_) | refine K.GL.skip 61 rfl rfl rfl rfl ?_ | refine K.GL.skipU 61 rfl rfl rfl rfl ?_
                    first | (refine K.GL.want 61 rfl rfl rfl ?_; first | refine K.GL.det (K.e_call1 Try.call17 rfl (fun w hT => budget_any _ _ _ w)) rfl ?_) | refine K.GL.skip 61 rfl rfl rfl rfl ?_ | refine K.GL.skipU 61 rfl rfl rfl rfl ?_
                    first | (refine K.GL.want 61 rfl rfl rfl ?_; first | refine K.GL.det (K.e_move rfl) rfl ?_) | refine K.GL.skip 61 rfl rfl rfl rfl ?_ | refine K.GL.skipU 61 rfl rfl rfl rfl ?_
                    first | (refine K.GL.want 61 rfl rfl rfl ?_; first | refine K.GL.det ((K.e_le rfl rfl).yes (by first | omega | assumption | decide +kernel)) rfl ?_ | refine K.GL.det ((K.e_le rfl rfl).no (by first | omega | assumption | decide +kernel)) rfl ?_ | refine K.GL.det (K.e_le rfl rfl) rfl ?_) | refine K.GL.skip 61 rfl rfl rfl rfl ?_ | refine K.GL.skipU 61 rfl rfl rfl rfl ?_
                    first | (refine K.GL.want 57 rfl rfl rfl ?_; first | refine K.GL.det (K.e_pick_t rfl rfl) rfl ?_ | refine K.GL.det (K.e_pick_f rfl rfl) rfl ?_) | refine K.GL.skip 57 rfl rfl rfl rfl ?_ | refine K.GL.skipU 57 rfl rfl rfl rfl ?_
                    first | refine K.GL.det (K.e_pick_t rfl rfl) rfl ?_ | refine K.GL.det (K.e_pick_f rfl rfl) rfl ?_
                    refine K.GL.det (K.e_assign rfl) rfl ?_
                    refine K.GL.nil ?_
                    refine K.GQ.go ?_
                    refine K.GC.ret ?_
                    refine K.GQ.ret1 Try.results6 rfl (fun w hT => ?_)
                    exact ⟨rfl, hT.nil⟩

set_option maxHeartbeats 1000000 in
set_option maxRecDepth 100000 in
theorem GeomOne_lifted (os : Os) (started : os.Started) (H : Type) (enc : TypeId × Value → H) :
    ReturnsInHanded {} Try.checked os 6 .any (Rows.geomOneSpec.pre6 enc Try.prog Try.f6 Rows.geomOneRow.domain false) (Rows.geomOneSpec.post enc Try.prog Try.f6 false true false false) := by
  refine returnsInHanded_of_change_sized (C := Try.checked) own started (by kernel_rfl) Try.func6
    (ChangeSpec.witness6 (enc := enc) (C := Try.checked) false ⟨#[], #[.agg #[.int .i64 0, .int .i64 0, .int .i64 0]], []⟩ 8 (by kernel_rfl) (by kernel_rfl) (by kernel_rfl) (by kernel_rfl)) ?_
  intro W base args ds gs before hval0 hW _ hsz0 _
  have hval : ∀ (j : Nat) t v, Try.f6.params[j]? = some t → args[j]? = some v → Value.okWide Try.prog W .any base t v := hval0
  have hsz : (DataW.weightsEach Try.prog (Try.f6.params.toList ++ []) (ds ++ gs)).all (· ≤ reachBytes) = true := hsz0
  have hW' := hW
  obtain ⟨p, q, hA0, hV, hpe, hfz, hnd⟩ := hW
  have hA : DataW.TrodAll enc Try.prog W 0 (fun _ => true) true Try.f6.params.toList args.toList ds p := hA0
  obtain ⟨rfl, rfl⟩ := trodVars_none hV
  rw [Try.params6] at hA hval hsz
  obtain ⟨v0, vs0, d0, ds0, p0, q0, hargs, rfl, rfl, h0, r0⟩ := trodAll_cons hA
  obtain ⟨rfl, rfl, rfl⟩ := trodAll_nil r0
  obtain rfl : args = #[v0] := by cases args; simp_all
  clear hA0 hval0 hsz0 hA hargs
  obtain ⟨c0, c1, c2, y0, y1, y2, m, rfl, rfl, rfl, hy0, hy1, hy2⟩ := open_agg3 Try.underlying23 (by kernel_rfl) cellsGeo (hval 0 23 _ rfl rfl) h0
  obtain ⟨a, e0, rfl, wa⟩ := DataW.trod_int Try.underlying3 hy0
  obtain ⟨b, e1, rfl, wb⟩ := DataW.trod_int Try.underlying3 hy1
  obtain ⟨c, e2, rfl, wc⟩ := DataW.trod_int Try.underlying3 hy2
  simp only [List.cons.injEq, and_true] at e0 e1 e2
  subst e0 e1 e2
  have ia := (bounds_i64 wa)
  have core : Calls Try.prog 6 #[.agg #[.int .i64 a, .int .i64 b, .int .i64 c]] W fun e W' => e = .returned (.bool true) ∧ Tr W [] W' [] := by
    cases hr : rightB a b c
    · exact one_no a b c W hr
    · exact one_yes a b c W hr
  exact core.mono fun e W' ⟨he, hT⟩ => ⟨_, he, law_post (tb := 4) hW' rfl rfl Try.underlying4 (fun _ => rfl) laidOut (by kernel_rfl) hT.below⟩
theorem GeomOne_holds : Rows.GeomOneSaid :=
  OpenClaim.holds_of_wide 6 Try.f6 rfl rfl rfl rfl rfl rfl rfl ⟨rfl, rfl, rfl, rfl, rfl⟩ rfl rfl rfl rfl rfl (by kernel_rfl) Try.func6 (by kernel_rfl)
    (of_decide_eq_true (by kernel_rfl)) (by unfold Func.isWrapper; first | (rw [if_pos (by decide +kernel)]; kernel_rfl) | (rw [if_neg (by decide +kernel)]; exact ⟨rfl, rfl⟩))
    (fun os started H enc _ => GeomOne_lifted os started H enc)

end Go.Proofs.Ytjbcnbhndinjhaa
