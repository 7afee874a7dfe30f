/- GeomCircle returns true for every use of a device and every sector, and turns nothing. -/
import Derived.ProofKit
import Derived.OpenShut
import Derived.SizedLaws
import Derived.Lib.SmallJoins
import Derived.Test.YtjbcnbhndinjhaaGeo
namespace Go.Proofs.Ytjbcnbhndinjhaa
open Go Go.K Go.ChangeShapes Go.WideShapes Go.ChangeAt Go.RowKit Go.Joins
set_option linter.unusedVariables false
set_option linter.unusedSimpArgs false
attribute [local irreducible] Calls Ev GL GC GQ GR Code.wp
theorem own : ownKnob Try.prog.godebug = none := by kernel_rfl
theorem laidOut : laidOutB Try.prog = true := by kernel_rfl
theorem cellsU16 : Try.prog.cellsOf 37 = 1 := by kernel_rfl
theorem cellsGeo : Try.prog.cellsOf 23 = 3 := by kernel_rfl
/- turntable/turntablelaw17.GeomCircle -/
set_option maxHeartbeats 1000000 in
set_option maxRecDepth 100000 in
theorem circle_no (a b c p : Int) (w : World) (hr : rightB a b c = false) :
    Calls Try.prog 7 #[.agg #[.int .i64 a, .int .i64 b, .int .i64 c], .int .u16 p] w fun e w' => e = .returned (.bool true) ∧ Tr w [] w' [] := by
  refine K.enter0 (args := [_, _]) Try.func7 rfl Try.ntmps7 rfl ?_
  refine K.GC.seq ?_
  refine K.GC.region ?_
  refine K.GL.box rfl rfl rfl (fun b2 => ?_)
  refine K.GL.det (K.e_assign rfl) rfl ?_
  refine K.GL.nil ?_
  refine K.GQ.go ?_
  refine K.GC.seq ?_
  refine K.GC.region ?_
  refine K.GL.det (K.e_call1 Try.call8 rfl (fun w hT => head_any w)) rfl ?_
  refine K.GL.det (K.e_assign rfl) rfl ?_
  refine K.GL.nil ?_
  refine K.GQ.go ?_
  refine K.GC.seq ?_
  refine K.GC.seq ?_
  refine K.GC.region ?_
  refine K.GL.det (K.e_loads Try.isAgg23 Try.sizeOf23 rfl rfl) rfl ?_
  refine K.GL.det (K.e_call1 Try.call9 rfl (fun w hT => right_any _ _ _ w)) rfl ?_
  first | refine K.GL.det ((K.e_not rfl).cast_bool (b := false) (by rw [hr]; rfl)) rfl ?_ | refine K.GL.det ((K.e_not rfl).cast_bool (b := true) (by rw [hr]; rfl)) rfl ?_ | refine K.GL.det (K.e_notp rfl) rfl ?_ | refine K.GL.det (K.e_not rfl) rfl ?_
  refine K.GL.nil ?_
  refine K.GQ.go ?_
  refine K.GC.condB rfl (fun h1 => ?_) (fun h1 => ?_)
  · first
    | exact absurd h1 (by decide)
    | try replace h1 := of_decide_eq_true h1
      refine K.GC.seq ?_
      refine K.GC.region ?_
      refine K.GL.det (K.e_move rfl) rfl ?_
      refine K.GL.det (K.e_assign rfl) rfl ?_
      refine K.GL.nil ?_
      refine K.GQ.go ?_
      refine K.GC.ret ?_
      refine K.GQ.then_ret ?_
      refine K.GQ.ret1 Try.results7 rfl (fun w hT => ?_)
      exact ⟨rfl, hT.nil⟩
  · first
    | exact absurd h1 (by decide)
    | try replace h1 := of_decide_eq_false h1
      refine K.GC.skip ?_
      refine K.GQ.go ?_
      refine K.GC.seq ?_
      exfalso; first | contradiction | omega | simp_all
/- turntable/turntablelaw17.GeomCircle -/
set_option maxHeartbeats 1000000 in
set_option maxRecDepth 100000 in
theorem circle_yes (a b c p : Int) (w : World) (hr : rightB a b c = true) (hp : 0 ≤ p ∧ p ≤ 65535) :
    Calls Try.prog 7 #[.agg #[.int .i64 a, .int .i64 b, .int .i64 c], .int .u16 p] w fun e w' => e = .returned (.bool true) ∧ Tr w [] w' [] := by
  have hb := (right_iff a b c).1 hr
  have hm := mul_bd (a := a) (b := b) (by omega) (by omega) (by omega) (by omega)
  obtain ⟨k, hk⟩ : ∃ k, p % (2 + a * b) = k := ⟨_, rfl⟩
  have hk0 : 0 ≤ k := hk ▸ Int.emod_nonneg p (by omega)
  have hk1 : k < 2 + a * b := hk ▸ Int.emod_lt_of_pos p (by omega)
  refine K.enter0 (args := [_, _]) Try.func7 rfl Try.ntmps7 rfl ?_
  refine K.GC.seq ?_
  refine K.GC.region ?_
  refine K.GL.box rfl rfl rfl (fun b2 => ?_)
  refine K.GL.det (K.e_assign rfl) rfl ?_
  refine K.GL.nil ?_
  refine K.GQ.go ?_
  refine K.GC.seq ?_
  refine K.GC.region ?_
  refine K.GL.det (K.e_call1 Try.call8 rfl (fun w hT => head_any w)) rfl ?_
  refine K.GL.det (K.e_assign rfl) rfl ?_
  refine K.GL.nil ?_
  refine K.GQ.go ?_
  refine K.GC.seq ?_
  refine K.GC.seq ?_
  refine K.GC.region ?_
  refine K.GL.det (K.e_loads Try.isAgg23 Try.sizeOf23 rfl rfl) rfl ?_
  refine K.GL.det (K.e_call1 Try.call9 rfl (fun w hT => right_any _ _ _ w)) rfl ?_
  first | refine K.GL.det ((K.e_not rfl).cast_bool (b := false) (by rw [hr]; rfl)) rfl ?_ | refine K.GL.det ((K.e_not rfl).cast_bool (b := true) (by rw [hr]; rfl)) rfl ?_ | refine K.GL.det (K.e_notp rfl) rfl ?_ | refine K.GL.det (K.e_not rfl) rfl ?_
  refine K.GL.nil ?_
  refine K.GQ.go ?_
  refine K.GC.condB rfl (fun h1 => ?_) (fun h1 => ?_)
  · first
    | exact absurd h1 (by decide)
    | try replace h1 := of_decide_eq_true h1
      refine K.GC.seq ?_
      refine K.GC.region ?_
      refine K.GL.det (K.e_move rfl) rfl ?_
      refine K.GL.det (K.e_assign rfl) rfl ?_
      refine K.GL.nil ?_
      refine K.GQ.go ?_
      refine K.GC.ret ?_
      refine K.GQ.then_ret ?_
      refine K.GQ.ret1 Try.results7 rfl (fun w hT => ?_)
      exact ⟨rfl, hT.nil⟩
  · first
    | exact absurd h1 (by decide)
    | try replace h1 := of_decide_eq_false h1
      refine K.GC.skip ?_
      refine K.GQ.go ?_
      refine K.GC.seq ?_
      refine K.GC.region ?_
      refine K.GL.det (K.e_move rfl) rfl ?_
      first | refine K.GL.det (K.e_conv Try.underlying37 Try.underlying3 rfl (K.wrap_i64 (by omega) (by omega))) rfl ?_ | refine K.GL.det (K.e_convw Try.underlying37 Try.underlying3 rfl) rfl ?_
      refine K.GL.det (K.e_loads Try.isAgg23 Try.sizeOf23 rfl rfl) rfl ?_
      refine K.GL.det ((K.e_call1 Try.call11 rfl (fun w hT => size_any _ _ _ w)).cast_int (size_val hr)) rfl ?_
      refine K.GL.det ((K.e_rem rfl rfl (by omega) (by omega) (by omega)).cast_int hk) rfl ?_
      refine K.GL.det (K.e_assign rfl) rfl ?_
      refine K.GL.nil ?_
      refine K.GQ.go ?_
      refine K.GC.seq ?_
      refine K.GC.region ?_
      refine K.GL.det (K.e_assign rfl) rfl ?_
      refine K.GL.nil ?_
      refine K.GQ.go ?_
      refine K.GC.seq ?_
      refine K.GC.seq ?_
      refine K.GC.region ?_
      refine K.GL.det (K.e_assign rfl) rfl ?_
      refine K.GL.nil ?_
      refine K.GQ.go ?_
      refine K.GC.block ?_
      refine K.GC.loopk (α := Int) [2, 4, 5, 6, 42, 43, 44, 45, 46, 47, 48, 49, 50, 51, 52, 53, 54, 55, 56, 57, 58] rfl (fun x => [(7, .int .i64 (if 2 ≤ k ∧ k < 2 + x * b then 1 else 0)), (8, .int .i64 x)]) (fun x => _) (fun x => 0 ≤ x ∧ x ≤ a) (fun x => (a - x).toNat) 0 ⟨by omega, by omega⟩ ⟨by simp [lk] <;> omega, rfl, trivial⟩ (K.Sub.refl _) (fun x hI => ?_)
      obtain ⟨i1, i2⟩ := hI
      have hq := Int.add_mul x 1 b
      have hx0 := Int.mul_nonneg i1 (show 0 ≤ b by omega)
      have hx1 := Int.mul_le_mul_of_nonneg_right i2 (show 0 ≤ b by omega)
      obtain ⟨m, hm1⟩ : ∃ m : Int, (if 2 ≤ k ∧ k < 2 + x * b then (1 : Int) else 0) = m := ⟨_, rfl⟩
      have hm2 : m = 1 ∧ 2 ≤ k ∧ k < 2 + x * b ∨ m = 0 ∧ ¬ (2 ≤ k ∧ k < 2 + x * b) := by rw [← hm1]; split <;> simp_all
      rw [hm1]
      refine K.GC.seq ?_
      refine K.GC.seq ?_
      refine K.GC.region ?_
      refine K.GL.det (K.e_move rfl) rfl ?_
      refine K.GL.det (K.e_fieldAddr fo23_0 rfl) rfl ?_
      first | refine K.GL.det (K.e_load Try.isAgg3 rfl rfl) rfl ?_ | refine K.GL.det (K.e_load0 Try.isAgg3 rfl (by assumption)) rfl ?_
      first | refine K.GL.det ((K.e_lt rfl rfl).yes (by first | omega | assumption | decide +kernel)) rfl ?_ | refine K.GL.det ((K.e_lt rfl rfl).no (by first | omega | assumption | decide +kernel)) rfl ?_ | refine K.GL.det (K.e_lt rfl rfl) rfl ?_
      refine K.GL.nil ?_
      refine K.GQ.go ?_
      refine K.GC.condB rfl (fun h2 => ?_) (fun h2 => ?_)
      · first
        | exact absurd h2 (by decide)
        | try replace h2 := of_decide_eq_true h2
          refine K.GC.skip ?_
          refine K.GQ.go ?_
          refine K.GC.seq ?_
          refine K.GC.block ?_
          refine K.GC.seq ?_
          refine K.GC.region ?_
          refine K.GL.det (K.e_loads Try.isAgg23 Try.sizeOf23 rfl rfl) rfl ?_
          refine K.GL.det (K.e_move rfl) rfl ?_
          refine K.GL.det ((K.e_call1 Try.call13 rfl (fun w hT => first_any _ _ _ _ w ⟨by omega, by omega⟩)).cast_int (first_val hr (by omega) (by omega))) rfl ?_
          refine K.GL.det (K.e_assign rfl) rfl ?_
          refine K.GL.nil ?_
          refine K.GQ.go ?_
          refine K.GC.seq ?_
          refine K.GC.region ?_
          refine K.GL.det (K.e_move rfl) rfl ?_
          refine K.GL.det (K.e_move rfl) rfl ?_
          first | refine K.GL.det ((K.e_ge rfl rfl).yes (by first | omega | assumption | decide +kernel)) rfl ?_ | refine K.GL.det ((K.e_ge rfl rfl).no (by first | omega | assumption | decide +kernel)) rfl ?_ | refine K.GL.det (K.e_ge rfl rfl) rfl ?_
          refine K.GL.det (K.e_move rfl) rfl ?_
          first | refine K.GL.splitB 32 rfl (fun h3 => ?_) (fun h3 => ?_) | skip
          all_goals first | exact absurd h3 (by decide) | replace h3 := of_decide_eq_true h3 | replace h3 := of_decide_eq_false h3 | skip
          all_goals
            first | (refine K.GL.want 32 rfl rfl rfl ?_; first | refine K.GL.det (K.e_move rfl) rfl ?_) | refine K.GL.skip 32 rfl rfl rfl rfl ?_ | refine K.GL.skipU 32 rfl rfl rfl rfl ?_
            first | (refine K.GL.want 32 rfl rfl rfl ?_; first | refine K.GL.det (K.e_move rfl) rfl ?_) | refine K.GL.skip 32 rfl rfl rfl rfl ?_ | refine K.GL.skipU 32 rfl rfl rfl rfl ?_
            first | (refine K.GL.want 32 rfl rfl rfl ?_; first | refine K.GL.det (K.e_fieldAddr fo23_1 rfl) rfl ?_) | refine K.GL.skip 32 rfl rfl rfl rfl ?_ | refine K.GL.skipU 32 rfl rfl rfl rfl ?_
            first | (refine K.GL.want 32 rfl rfl rfl ?_; first | refine K.GL.det (K.e_load Try.isAgg3 rfl rfl) rfl ?_ | refine K.GL.det (K.e_load0 Try.isAgg3 rfl (by assumption)) rfl ?_) | refine K.GL.skip 32 rfl rfl rfl rfl ?_ | refine K.GL.skipU 32 rfl rfl rfl rfl ?_
            first | (refine K.GL.want 32 rfl rfl rfl ?_; first | refine K.GL.det (K.e_add rfl rfl ⟨by omega, by omega⟩) rfl ?_ | refine K.GL.det (K.e_addw rfl rfl) rfl ?_) | refine K.GL.skip 32 rfl rfl rfl rfl ?_ | refine K.GL.skipU 32 rfl rfl rfl rfl ?_
            first | (refine K.GL.want 32 rfl rfl rfl ?_; first | refine K.GL.det ((K.e_lt rfl rfl).yes (by first | omega | assumption | decide +kernel)) rfl ?_ | refine K.GL.det ((K.e_lt rfl rfl).no (by first | omega | assumption | decide +kernel)) rfl ?_ | refine K.GL.det (K.e_lt rfl rfl) rfl ?_) | refine K.GL.skip 32 rfl rfl rfl rfl ?_ | refine K.GL.skipU 32 rfl rfl rfl rfl ?_
            first | refine K.GL.det (K.e_pick_t rfl rfl) rfl ?_ | refine K.GL.det (K.e_pick_f rfl rfl) rfl ?_
            refine K.GL.nil ?_
            refine K.GQ.go ?_
            refine K.GC.condB rfl (fun h4 => ?_) (fun h4 => ?_)
            · first
              | exact absurd h4 (by decide)
              | try replace h4 := of_decide_eq_true h4
                refine K.GC.region ?_
                refine K.GL.det (K.e_move rfl) rfl ?_
                first | refine K.GL.det (K.e_add rfl rfl ⟨by omega, by omega⟩) rfl ?_ | refine K.GL.det (K.e_addw rfl rfl) rfl ?_
                refine K.GL.det (K.e_assign rfl) rfl ?_
                refine K.GL.nil ?_
                refine K.GQ.block_normal ?_
                refine K.GQ.go ?_
                refine K.GC.region ?_
                refine K.GL.det (K.e_move rfl) rfl ?_
                first | refine K.GL.det (K.e_add rfl rfl ⟨by omega, by omega⟩) rfl ?_ | refine K.GL.det (K.e_addw rfl rfl) rfl ?_
                refine K.GL.det (K.e_assign rfl) rfl ?_
                refine K.GL.nil ?_
                exact K.GQ.round (x + 1) (by first | omega | exact ⟨by omega, by omega⟩) (by omega) ⟨by first | rfl | (refine congrArg some (congrArg (Value.int IntKind.i64) ?_); split <;> omega), by (repeat refine ⟨rfl, ?_⟩); exact trivial⟩ K.sub
            · first
              | exact absurd h4 (by decide)
              | try replace h4 := of_decide_eq_false h4
                refine K.GC.skip ?_
                refine K.GQ.block_normal ?_
                refine K.GQ.go ?_
                refine K.GC.region ?_
                refine K.GL.det (K.e_move rfl) rfl ?_
                first | refine K.GL.det (K.e_add rfl rfl ⟨by omega, by omega⟩) rfl ?_ | refine K.GL.det (K.e_addw rfl rfl) rfl ?_
                refine K.GL.det (K.e_assign rfl) rfl ?_
                refine K.GL.nil ?_
                exact K.GQ.round (x + 1) (by first | omega | exact ⟨by omega, by omega⟩) (by omega) ⟨by first | rfl | (refine congrArg some (congrArg (Value.int IntKind.i64) ?_); split <;> omega), by (repeat refine ⟨rfl, ?_⟩); exact trivial⟩ K.sub
      · first
        | exact absurd h2 (by decide)
        | try replace h2 := of_decide_eq_false h2
          refine K.GC.exit ?_
          refine K.GQ.then_exit ?_
          refine K.GQ.then_exit ?_
          refine K.GQ.block_hit ?_
          refine K.GQ.go ?_
          refine K.GC.seq ?_
          have hxa : x * b = a * b := by rw [show x = a by omega]
          refine K.GC.region ?_
          refine K.GL.det (K.e_move rfl) rfl ?_
          refine K.GL.det (K.e_move rfl) rfl ?_
          first | refine K.GL.splitB 43 rfl (fun h5 => ?_) (fun h5 => ?_) | skip
          all_goals first | exact absurd h5 (by decide) | replace h5 := of_decide_eq_true h5 | replace h5 := of_decide_eq_false h5 | skip
          all_goals
            first | (refine K.GL.want 43 rfl rfl rfl ?_; first | refine K.GL.det (K.e_move rfl) rfl ?_) | refine K.GL.skip 43 rfl rfl rfl rfl ?_ | refine K.GL.skipU 43 rfl rfl rfl rfl ?_
            first | (refine K.GL.want 43 rfl rfl rfl ?_; first | refine K.GL.det ((K.e_lt rfl rfl).yes (by first | omega | assumption | decide +kernel)) rfl ?_ | refine K.GL.det ((K.e_lt rfl rfl).no (by first | omega | assumption | decide +kernel)) rfl ?_ | refine K.GL.det (K.e_lt rfl rfl) rfl ?_) | refine K.GL.skip 43 rfl rfl rfl rfl ?_ | refine K.GL.skipU 43 rfl rfl rfl rfl ?_
            first | (refine K.GL.want 43 rfl rfl rfl ?_; first | refine K.GL.det (K.e_move rfl) rfl ?_) | refine K.GL.skip 43 rfl rfl rfl rfl ?_ | refine K.GL.skipU 43 rfl rfl rfl rfl ?_
            first | refine K.GL.splitB 46 rfl (fun h6 => ?_) (fun h6 => ?_) | skip
            all_goals first | exact absurd h6 (by decide) | replace h6 := of_decide_eq_true h6 | replace h6 := of_decide_eq_false h6 | skip
            all_goals
              first | (refine K.GL.want 46 rfl rfl rfl ?_; first | refine K.GL.det (K.e_move rfl) rfl ?_) | refine K.GL.skip 46 rfl rfl rfl rfl ?_ | refine K.GL.skipU 46 rfl rfl rfl rfl ?_
              first | (refine K.GL.want 46 rfl rfl rfl ?_; first | refine K.GL.det ((K.e_eq rfl rfl).yes (by first | omega | assumption | decide +kernel)) rfl ?_ | refine K.GL.det ((K.e_eq rfl rfl).no (by first | omega | assumption | decide +kernel)) rfl ?_ | refine K.GL.det (K.e_eq rfl rfl) rfl ?_) | refine K.GL.skip 46 rfl rfl rfl rfl ?_ | refine K.GL.skipU 46 rfl rfl rfl rfl ?_
              first | (refine K.GL.want 43 rfl rfl rfl ?_; first | refine K.GL.det (K.e_pick_t rfl rfl) rfl ?_ | refine K.GL.det (K.e_pick_f rfl rfl) rfl ?_) | refine K.GL.skip 43 rfl rfl rfl rfl ?_ | refine K.GL.skipU 43 rfl rfl rfl rfl ?_
              first | (refine K.GL.want 43 rfl rfl rfl ?_; first | refine K.GL.det (K.e_move rfl) rfl ?_) | refine K.GL.skip 43 rfl rfl rfl rfl ?_ | refine K.GL.skipU 43 rfl rfl rfl rfl ?_
              first | refine K.GL.splitB 50 rfl (fun h7 => ?_) (fun h7 => ?_) | skip
              all_goals first | exact absurd h7 (by decide) | replace h7 := of_decide_eq_true h7 | replace h7 := of_decide_eq_false h7 | skip
              all_goals
                first | (refine K.GL.want 50 rfl rfl rfl ?_; first | refine K.GL.det (K.e_move rfl) rfl ?_) | refine K.GL.skip 50 rfl rfl rfl rfl ?_ | refine K.GL.skipU 50 rfl rfl rfl rfl ?_
                first | (refine K.GL.want 50 rfl rfl rfl ?_; first | refine K.GL.det ((K.e_ge rfl rfl).yes (by first | omega | assumption | decide +kernel)) rfl ?_ | refine K.GL.det ((K.e_ge rfl rfl).no (by first | omega | assumption | decide +kernel)) rfl ?_ | refine K.GL.det (K.e_ge rfl rfl) rfl ?_) | refine K.GL.skip 50 rfl rfl rfl rfl ?_ | refine K.GL.skipU 50 rfl rfl rfl rfl ?_
                first | (refine K.GL.want 50 rfl rfl rfl ?_; first | refine K.GL.det (K.e_move rfl) rfl ?_) | refine K.GL.skip 50 rfl rfl rfl rfl ?_ | refine K.GL.skipU 50 rfl rfl rfl rfl ?_
                first | refine K.GL.splitB 53 rfl (fun h8 => ?_) (fun h8 => ?_) | skip
                all_goals first | exact absurd h8 (by decide) | replace h8 := of_decide_eq_true h8 | replace h8 := of_decide_eq_false h8 | skip
                all_goals
                  first | (refine K.GL.want 53 rfl rfl rfl ?_; first | refine K.GL.det (K.e_move rfl) rfl ?_) | refine K.GL.skip 53 rfl rfl rfl rfl ?_ | refine K.GL.skipU 53 rfl rfl rfl rfl ?_
                  first | (refine K.GL.want 53 rfl rfl rfl ?_; first | refine K.GL.det ((K.e_eq rfl rfl).yes (by first | omega | assumption | decide +kernel)) rfl ?_ | refine K.GL.det ((K.e_eq rfl rfl).no (by first | omega | assumption | decide +kernel)) rfl ?_ | refine K.GL.det (K.e_eq rfl rfl) rfl ?_) | refine K.GL.skip 53 rfl rfl rfl rfl ?_ | refine K.GL.skipU 53 rfl rfl rfl rfl ?_
                  first | (refine K.GL.want 50 rfl rfl rfl ?_; first | refine K.GL.det (K.e_pick_t rfl rfl) rfl ?_ | refine K.GL.det (K.e_pick_f rfl rfl) rfl ?_) | refine K.GL.skip 50 rfl rfl rfl rfl ?_ | refine K.GL.skipU 50 rfl rfl rfl rfl ?_
                  first | (refine K.GL.want 43 rfl rfl rfl ?_; first | refine K.GL.det (K.e_pick_t rfl rfl) rfl ?_ | refine K.GL.det (K.e_pick_f rfl rfl) rfl ?_) | refine K.GL.skip 43 rfl rfl rfl rfl ?_ | refine K.GL.skipU 43 rfl rfl rfl rfl ?_
                  first | refine K.GL.det (K.e_pick_t rfl rfl) rfl ?_ | refine K.GL.det (K.e_pick_f rfl rfl) rfl ?_
                  refine K.GL.det (K.e_assign rfl) rfl ?_
                  refine K.GL.nil ?_
                  refine K.GQ.go ?_
                  refine K.GC.ret ?_
                  refine K.GQ.ret1 Try.results7 rfl (fun w hT => ?_)
                  exact ⟨rfl, hT.nil⟩

set_option maxHeartbeats 1000000 in
set_option maxRecDepth 100000 in
theorem GeomCircle_lifted (os : Os) (started : os.Started) (H : Type) (enc : TypeId × Value → H) :
    ReturnsInHanded {} Try.checked os 7 .any (Rows.geomCircleSpec.pre6 enc Try.prog Try.f7 Rows.geomCircleRow.domain false) (Rows.geomCircleSpec.post enc Try.prog Try.f7 false true false false) := by
  refine returnsInHanded_of_change_sized (C := Try.checked) own started (by kernel_rfl) Try.func7
    (ChangeSpec.witness6 (enc := enc) (C := Try.checked) false ⟨#[], #[.agg #[.int .i64 0, .int .i64 0, .int .i64 0], .int .u16 0], []⟩ 8 (by kernel_rfl) (by kernel_rfl) (by kernel_rfl) (by kernel_rfl)) ?_
  intro W base args ds gs before hval0 hW _ hsz0 _
  have hval : ∀ (j : Nat) t v, Try.f7.params[j]? = some t → args[j]? = some v → Value.okWide Try.prog W .any base t v := hval0
  have hsz : (DataW.weightsEach Try.prog (Try.f7.params.toList ++ []) (ds ++ gs)).all (· ≤ reachBytes) = true := hsz0
  have hW' := hW
  obtain ⟨p, q, hA0, hV, hpe, hfz, hnd⟩ := hW
  have hA : DataW.TrodAll enc Try.prog W 0 (fun _ => true) true Try.f7.params.toList args.toList ds p := hA0
  obtain ⟨rfl, rfl⟩ := trodVars_none hV
  rw [Try.params7] at hA hval hsz
  obtain ⟨v0, vs0, d0, ds0, p0, q0, hargs, rfl, rfl, h0, r0⟩ := trodAll_cons hA
  obtain ⟨v1, vs1, d1, ds1, p1, q1, rfl, rfl, rfl, h1, r1⟩ := trodAll_cons r0
  obtain ⟨rfl, rfl, rfl⟩ := trodAll_nil r1
  obtain rfl : args = #[v0, v1] := by cases args; simp_all
  clear hA0 hval0 hsz0 hA hargs
  obtain ⟨c0, c1, c2, y0, y1, y2, m, rfl, rfl, rfl, hy0, hy1, hy2⟩ := open_agg3 Try.underlying23 (by kernel_rfl) cellsGeo (hval 0 23 _ rfl rfl) h0
  obtain ⟨a, e0, rfl, wa⟩ := DataW.trod_int Try.underlying3 hy0
  obtain ⟨b, e1, rfl, wb⟩ := DataW.trod_int Try.underlying3 hy1
  obtain ⟨c, e2, rfl, wc⟩ := DataW.trod_int Try.underlying3 hy2
  simp only [List.cons.injEq, and_true] at e0 e1 e2
  subst e0 e1 e2
  have ia := (bounds_i64 wa)
  obtain ⟨x, rfl, rfl, rfl, wx⟩ := open_int Try.underlying37 (hval 1 37 _ rfl rfl) h1
  have bx := bounds_u16 wx
  have core : Calls Try.prog 7 #[.agg #[.int .i64 a, .int .i64 b, .int .i64 c], .int .u16 x] W fun e W' => e = .returned (.bool true) ∧ Tr W [] W' [] := by
    cases hr : rightB a b c
    · exact circle_no a b c x W hr
    · exact circle_yes a b c x W hr bx
  exact core.mono fun e W' ⟨he, hT⟩ => ⟨_, he, law_post (tb := 4) hW' rfl rfl Try.underlying4 (fun _ => rfl) laidOut (by kernel_rfl) hT.below⟩
theorem GeomCircle_holds : Rows.GeomCircleSaid :=
  OpenClaim.holds_of_wide 7 Try.f7 rfl rfl rfl rfl rfl rfl rfl ⟨rfl, rfl, rfl, rfl, rfl⟩ rfl rfl rfl rfl rfl (by kernel_rfl) Try.func7 (by kernel_rfl)
    (of_decide_eq_true (by kernel_rfl)) (by unfold Func.isWrapper; first | (rw [if_pos (by decide +kernel)]; kernel_rfl) | (rw [if_neg (by decide +kernel)]; exact ⟨rfl, rfl⟩))
    (fun os started H enc _ => GeomCircle_lifted os started H enc)

end Go.Proofs.Ytjbcnbhndinjhaa
