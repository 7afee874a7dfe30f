/- GeomApart returns true for every use of a device and any two extents, and turns nothing. -/
import Derived.ProofKit
import Derived.OpenShut
import Derived.SizedLaws
import Derived.Lib.SmallJoins
import Derived.Test.YtjbcnbhndinjhaaGeo
namespace Go.Proofs.Ytjbcnbhndinjhaa
open Go Go.K Go.ChangeShapes Go.WideShapes Go.ChangeAt Go.RowKit Go.Joins
set_option linter.unusedVariables false
set_option linter.unusedSimpArgs false
attribute [local irreducible] Calls Ev GL GC GQ GR Code.wp
theorem own : ownKnob Try.prog.godebug = none := by kernel_rfl
theorem laidOut : laidOutB Try.prog = true := by kernel_rfl
theorem cellsU16 : Try.prog.cellsOf 37 = 1 := by kernel_rfl
theorem cellsGeo : Try.prog.cellsOf 23 = 3 := by kernel_rfl
theorem mul_lt {x y b : Int} (h : x + 1 ≤ y) (hb : 0 ≤ b) : x * b + b ≤ y * b := by
  have := Int.mul_le_mul_of_nonneg_right h hb
  rw [Int.add_mul] at this
  omega
theorem apart {a b c i k : Int} (hr : rightB a b c = true) (hi0 : 0 ≤ i) (hi : i < a) (hk0 : 0 ≤ k) (hk : k < a) :
    ∃ X Y n, firstP a b c i = X ∧ firstP a b c k = Y ∧ sizeP a b c = n ∧ 2 ≤ X ∧ X + b ≤ n ∧ n ≤ 4096 ∧ 2 ≤ Y ∧ Y ≤ 4096 ∧ (i = k → X = Y) ∧ (i ≠ k → (X + b ≤ Y ∨ Y + b ≤ X)) := by
  refine ⟨_, _, _, first_val hr hi0 hi, first_val hr hk0 hk, size_val hr, ?_⟩
  rw [right_iff] at hr
  have h1 := mul_lt (x := i) (y := a) (b := b) (by omega) (by omega)
  have h1' := mul_lt (x := k) (y := a) (b := b) (by omega) (by omega)
  have h2 := mul_bd (a := a) (b := b) (by omega) (by omega) (by omega) (by omega)
  have h3 := Int.mul_nonneg hi0 (show 0 ≤ b by omega)
  have h4 := Int.mul_nonneg hk0 (show 0 ≤ b by omega)
  refine ⟨by omega, by omega, by omega, by omega, by omega, fun e => by rw [e], fun e => ?_⟩
  rcases (by omega : i + 1 ≤ k ∨ k + 1 ≤ i) with h | h
  · have := mul_lt (b := b) h (by omega); omega
  · have := mul_lt (b := b) h (by omega); omega
theorem blank_right (bl n : Nat) (w : World) (h1 : w.heap[bl]? = some (.cells (zeros [.int .i64 0, .int .i64 0] n).toArray 45 (0, 0))) (h4 : 4 ≤ n) (hn : n ≤ 8) :
    Calls Try.prog 22 #[tabV bl n] w fun e w' => e = .returned (.bool true) ∧ Tr w [] w' [] := by
  have hz : (zeros [.int .i64 0, .int .i64 0] n).length = n * 2 := by rw [zeros_length]; rfl
  have s1 := Sl.of_block (k := 2) h1 hz
  rw [zeros_exts] at s1
  refine (tright_any 1 (-1) _ n n _ w s1 (by omega)).mono fun e w' ⟨he, ht⟩ => ⟨?_, ht⟩
  rw [he]
  have : tRight 1 (-1) (List.replicate n (XExt.mk 0 0)) := by
    refine ⟨by omega, by omega, by simpa using h4, by simpa using hn, by omega, by simp; omega, ?_, ?_, .inl (by omega)⟩
    · intro x hx; rw [List.eq_of_mem_replicate hx]; decide
    · rw [List.pairwise_replicate]; exact .inr (by decide)
  rw [decide_eq_true this]

/- turntable/turntablelaw17.GeomApart -/
set_option maxHeartbeats 1000000 in
set_option maxRecDepth 100000 in
theorem apart_no (a b c p q : Int) (w : World) (hr : rightB a b c = false) :
    Calls Try.prog 4 #[.agg #[.int .i64 a, .int .i64 b, .int .i64 c], .int .u8 p, .int .u8 q] w fun e w' => e = .returned (.bool true) ∧ Tr w [] w' [] := by
  refine K.enter0 (args := [_, _, _]) Try.func4 rfl Try.ntmps4 rfl ?_
  refine K.GC.seq ?_
  refine K.GC.region ?_
  refine K.GL.box rfl rfl rfl (fun b3 => ?_)
  refine K.GL.det (K.e_assign rfl) rfl ?_
  refine K.GL.nil ?_
  refine K.GQ.go ?_
  refine K.GC.seq ?_
  refine K.GC.region ?_
  refine K.GL.det (K.e_call1 Try.call8 rfl (fun w hT => head_any w)) rfl ?_
  refine K.GL.det (K.e_assign rfl) rfl ?_
  refine K.GL.nil ?_
  refine K.GQ.go ?_
  refine K.GC.seq ?_
  refine K.GC.seq ?_
  refine K.GC.region ?_
  refine K.GL.det (K.e_loads Try.isAgg23 Try.sizeOf23 rfl rfl) rfl ?_
  refine K.GL.det (K.e_call1 Try.call9 rfl (fun w hT => right_any _ _ _ w)) rfl ?_
  first | refine K.GL.det ((K.e_not rfl).cast_bool (b := false) (by rw [hr]; rfl)) rfl ?_ | refine K.GL.det ((K.e_not rfl).cast_bool (b := true) (by rw [hr]; rfl)) rfl ?_ | refine K.GL.det (K.e_notp rfl) rfl ?_ | refine K.GL.det (K.e_not rfl) rfl ?_
  refine K.GL.nil ?_
  refine K.GQ.go ?_
  refine K.GC.condB rfl (fun h1 => ?_) (fun h1 => ?_)
  · first
    | exact absurd h1 (by decide)
    | try replace h1 := of_decide_eq_true h1
      refine K.GC.seq ?_
      refine K.GC.region ?_
      refine K.GL.det (K.e_move rfl) rfl ?_
      refine K.GL.det (K.e_assign rfl) rfl ?_
      refine K.GL.nil ?_
      refine K.GQ.go ?_
      refine K.GC.ret ?_
      refine K.GQ.then_ret ?_
      refine K.GQ.ret1 Try.results4 rfl (fun w hT => ?_)
      exact ⟨rfl, hT.nil⟩
  · first
    | exact absurd h1 (by decide)
    | try replace h1 := of_decide_eq_false h1
      refine K.GC.skip ?_
      refine K.GQ.go ?_
      refine K.GC.seq ?_
      exfalso; first | contradiction | omega | simp_all
/- turntable/turntablelaw17.GeomApart -/
set_option maxHeartbeats 1000000 in
set_option maxRecDepth 100000 in
theorem apart_yes (a b c p q : Int) (w : World) (hr : rightB a b c = true) (hp : 0 ≤ p ∧ p ≤ 255) (hq : 0 ≤ q ∧ q ≤ 255) :
    Calls Try.prog 4 #[.agg #[.int .i64 a, .int .i64 b, .int .i64 c], .int .u8 p, .int .u8 q] w fun e w' => e = .returned (.bool true) ∧ Tr w [] w' [] := by
  have hb := (right_iff a b c).1 hr
  obtain ⟨i, hi⟩ : ∃ i, p % a = i := ⟨_, rfl⟩
  obtain ⟨k, hk⟩ : ∃ k, q % a = k := ⟨_, rfl⟩
  have hi0 : 0 ≤ i := hi ▸ Int.emod_nonneg p (by omega)
  have hi1 : i < a := hi ▸ Int.emod_lt_of_pos p (by omega)
  have hk0 : 0 ≤ k := hk ▸ Int.emod_nonneg q (by omega)
  have hk1 : k < a := hk ▸ Int.emod_lt_of_pos q (by omega)
  obtain ⟨X, Y, n, hX, hY, hN, x1, x2, x3, x4, x5, x6, x7⟩ := apart hr hi0 hi1 hk0 hk1
  have nn : n = n + 0 := by omega
  rcases (by omega : i = k ∨ i ≠ k) with hik | hik
  all_goals
  refine K.enter0 (args := [_, _, _]) Try.func4 rfl Try.ntmps4 rfl ?_
  refine K.GC.seq ?_
  refine K.GC.region ?_
  refine K.GL.box rfl rfl rfl (fun b3 => ?_)
  refine K.GL.det (K.e_assign rfl) rfl ?_
  refine K.GL.nil ?_
  refine K.GQ.go ?_
  refine K.GC.seq ?_
  refine K.GC.region ?_
  refine K.GL.det (K.e_call1 Try.call8 rfl (fun w hT => head_any w)) rfl ?_
  refine K.GL.det (K.e_assign rfl) rfl ?_
  refine K.GL.nil ?_
  refine K.GQ.go ?_
  refine K.GC.seq ?_
  refine K.GC.seq ?_
  refine K.GC.region ?_
  refine K.GL.det (K.e_loads Try.isAgg23 Try.sizeOf23 rfl rfl) rfl ?_
  refine K.GL.det (K.e_call1 Try.call9 rfl (fun w hT => right_any _ _ _ w)) rfl ?_
  first | refine K.GL.det ((K.e_not rfl).cast_bool (b := false) (by rw [hr]; rfl)) rfl ?_ | refine K.GL.det ((K.e_not rfl).cast_bool (b := true) (by rw [hr]; rfl)) rfl ?_ | refine K.GL.det (K.e_notp rfl) rfl ?_ | refine K.GL.det (K.e_not rfl) rfl ?_
  refine K.GL.nil ?_
  refine K.GQ.go ?_
  refine K.GC.condB rfl (fun h1 => ?_) (fun h1 => ?_)
  · first
    | exact absurd h1 (by decide)
    | try replace h1 := of_decide_eq_true h1
      refine K.GC.seq ?_
      refine K.GC.region ?_
      refine K.GL.det (K.e_move rfl) rfl ?_
      refine K.GL.det (K.e_assign rfl) rfl ?_
      refine K.GL.nil ?_
      refine K.GQ.go ?_
      refine K.GC.ret ?_
      refine K.GQ.then_ret ?_
      refine K.GQ.ret1 Try.results4 rfl (fun w hT => ?_)
      exact ⟨rfl, hT.nil⟩
  · first
    | exact absurd h1 (by decide)
    | try replace h1 := of_decide_eq_false h1
      refine K.GC.skip ?_
      refine K.GQ.go ?_
      refine K.GC.seq ?_
      refine K.GC.region ?_
      refine K.GL.det (K.e_move rfl) rfl ?_
      first | refine K.GL.det (K.e_conv Try.underlying5 Try.underlying3 rfl (K.wrap_i64 (by omega) (by omega))) rfl ?_ | refine K.GL.det (K.e_convw Try.underlying5 Try.underlying3 rfl) rfl ?_
      refine K.GL.det (K.e_fieldAddr fo23_0 rfl) rfl ?_
      first | refine K.GL.det (K.e_load Try.isAgg3 rfl rfl) rfl ?_ | refine K.GL.det (K.e_load0 Try.isAgg3 rfl (by assumption)) rfl ?_
      refine K.GL.det ((K.e_rem rfl rfl (by omega) (by omega) (by omega)).cast_int hi) rfl ?_
      refine K.GL.det (K.e_assign rfl) rfl ?_
      refine K.GL.nil ?_
      refine K.GQ.go ?_
      refine K.GC.seq ?_
      refine K.GC.region ?_
      refine K.GL.det (K.e_move rfl) rfl ?_
      first | refine K.GL.det (K.e_conv Try.underlying5 Try.underlying3 rfl (K.wrap_i64 (by omega) (by omega))) rfl ?_ | refine K.GL.det (K.e_convw Try.underlying5 Try.underlying3 rfl) rfl ?_
      refine K.GL.det (K.e_fieldAddr fo23_0 rfl) rfl ?_
      first | refine K.GL.det (K.e_load Try.isAgg3 rfl rfl) rfl ?_ | refine K.GL.det (K.e_load0 Try.isAgg3 rfl (by assumption)) rfl ?_
      refine K.GL.det ((K.e_rem rfl rfl (by omega) (by omega) (by omega)).cast_int hk) rfl ?_
      refine K.GL.det (K.e_assign rfl) rfl ?_
      refine K.GL.nil ?_
      refine K.GQ.go ?_
      refine K.GC.seq ?_
      refine K.GC.region ?_
      refine K.GL.det (K.e_loads Try.isAgg23 Try.sizeOf23 rfl rfl) rfl ?_
      refine K.GL.det (K.e_move rfl) rfl ?_
      refine K.GL.det ((K.e_call1 Try.call13 rfl (fun w hT => first_any _ _ _ _ w ⟨by omega, by omega⟩)).cast_int hX) rfl ?_
      refine K.GL.det (K.e_assign rfl) rfl ?_
      refine K.GL.nil ?_
      refine K.GQ.go ?_
      refine K.GC.seq ?_
      refine K.GC.region ?_
      refine K.GL.det (K.e_loads Try.isAgg23 Try.sizeOf23 rfl rfl) rfl ?_
      refine K.GL.det (K.e_move rfl) rfl ?_
      refine K.GL.det ((K.e_call1 Try.call13 rfl (fun w hT => first_any _ _ _ _ w ⟨by omega, by omega⟩)).cast_int hY) rfl ?_
      refine K.GL.det (K.e_assign rfl) rfl ?_
      refine K.GL.nil ?_
      refine K.GQ.go ?_
      refine K.GC.seq ?_
      refine K.GC.region ?_
      refine K.GL.det (K.e_loads Try.isAgg23 Try.sizeOf23 rfl rfl) rfl ?_
      refine K.GL.det ((K.e_call1 Try.call11 rfl (fun w hT => size_any _ _ _ w)).cast_int hN) rfl ?_
      refine K.GL.det (K.e_assign rfl) rfl ?_
      refine K.GL.nil ?_
      refine K.GQ.go ?_
      refine K.GC.seq ?_
      refine K.GC.region ?_
      refine K.GL.det (K.e_move rfl) rfl ?_
      refine K.GL.det (K.e_move rfl) rfl ?_
      first | refine K.GL.splitB 37 rfl (fun h2 => ?_) (fun h2 => ?_) | skip
      all_goals first | exact absurd h2 (by decide) | replace h2 := of_decide_eq_true h2 | replace h2 := of_decide_eq_false h2 | skip
      all_goals
        first | (refine K.GL.want 37 rfl rfl rfl ?_; first | refine K.GL.det (K.e_move rfl) rfl ?_) | refine K.GL.skip 37 rfl rfl rfl rfl ?_ | refine K.GL.skipU 37 rfl rfl rfl rfl ?_
        first | (refine K.GL.want 37 rfl rfl rfl ?_; first | refine K.GL.det ((K.e_ge rfl rfl).yes (by first | omega | assumption | decide +kernel)) rfl ?_ | refine K.GL.det ((K.e_ge rfl rfl).no (by first | omega | assumption | decide +kernel)) rfl ?_ | refine K.GL.det (K.e_ge rfl rfl) rfl ?_) | refine K.GL.skip 37 rfl rfl rfl rfl ?_ | refine K.GL.skipU 37 rfl rfl rfl rfl ?_
        first | refine K.GL.det (K.e_pick_t rfl rfl) rfl ?_ | refine K.GL.det (K.e_pick_f rfl rfl) rfl ?_
        refine K.GL.det (K.e_move rfl) rfl ?_
        first | refine K.GL.splitB 41 rfl (fun h3 => ?_) (fun h3 => ?_) | skip
        all_goals first | exact absurd h3 (by decide) | replace h3 := of_decide_eq_true h3 | replace h3 := of_decide_eq_false h3 | skip
        all_goals
          first | (refine K.GL.want 41 rfl rfl rfl ?_; first | refine K.GL.det (K.e_move rfl) rfl ?_) | refine K.GL.skip 41 rfl rfl rfl rfl ?_ | refine K.GL.skipU 41 rfl rfl rfl rfl ?_
          first | (refine K.GL.want 41 rfl rfl rfl ?_; first | refine K.GL.det (K.e_fieldAddr fo23_1 rfl) rfl ?_) | refine K.GL.skip 41 rfl rfl rfl rfl ?_ | refine K.GL.skipU 41 rfl rfl rfl rfl ?_
          first | (refine K.GL.want 41 rfl rfl rfl ?_; first | refine K.GL.det (K.e_load Try.isAgg3 rfl rfl) rfl ?_ | refine K.GL.det (K.e_load0 Try.isAgg3 rfl (by assumption)) rfl ?_) | refine K.GL.skip 41 rfl rfl rfl rfl ?_ | refine K.GL.skipU 41 rfl rfl rfl rfl ?_
          first | (refine K.GL.want 41 rfl rfl rfl ?_; first | refine K.GL.det (K.e_add rfl rfl ⟨by omega, by omega⟩) rfl ?_ | refine K.GL.det (K.e_addw rfl rfl) rfl ?_) | refine K.GL.skip 41 rfl rfl rfl rfl ?_ | refine K.GL.skipU 41 rfl rfl rfl rfl ?_
          first | (refine K.GL.want 41 rfl rfl rfl ?_; first | refine K.GL.det (K.e_move rfl) rfl ?_) | refine K.GL.skip 41 rfl rfl rfl rfl ?_ | refine K.GL.skipU 41 rfl rfl rfl rfl ?_
          first | (refine K.GL.want 41 rfl rfl rfl ?_; first | refine K.GL.det ((K.e_le rfl rfl).yes (by first | omega | assumption | decide +kernel)) rfl ?_ | refine K.GL.det ((K.e_le rfl rfl).no (by first | omega | assumption | decide +kernel)) rfl ?_ | refine K.GL.det (K.e_le rfl rfl) rfl ?_) | refine K.GL.skip 41 rfl rfl rfl rfl ?_ | refine K.GL.skipU 41 rfl rfl rfl rfl ?_
          first | refine K.GL.det (K.e_pick_t rfl rfl) rfl ?_ | refine K.GL.det (K.e_pick_f rfl rfl) rfl ?_
          refine K.GL.det (K.e_move rfl) rfl ?_
          first | refine K.GL.splitB 49 rfl (fun h4 => ?_) (fun h4 => ?_) | skip
          all_goals first | exact absurd h4 (by decide) | replace h4 := of_decide_eq_true h4 | replace h4 := of_decide_eq_false h4 | skip
          all_goals
            first | (refine K.GL.want 49 rfl rfl rfl ?_; first | refine K.GL.det (K.e_move rfl) rfl ?_) | refine K.GL.skip 49 rfl rfl rfl rfl ?_ | refine K.GL.skipU 49 rfl rfl rfl rfl ?_
            first | (refine K.GL.want 49 rfl rfl rfl ?_; first | refine K.GL.det ((K.e_le rfl rfl).yes (by first | omega | assumption | decide +kernel)) rfl ?_ | refine K.GL.det ((K.e_le rfl rfl).no (by first | omega | assumption | decide +kernel)) rfl ?_ | refine K.GL.det (K.e_le rfl rfl) rfl ?_) | refine K.GL.skip 49 rfl rfl rfl rfl ?_ | refine K.GL.skipU 49 rfl rfl rfl rfl ?_
            first | refine K.GL.det (K.e_pick_t rfl rfl) rfl ?_ | refine K.GL.det (K.e_pick_f rfl rfl) rfl ?_
            refine K.GL.det (K.e_move rfl) rfl ?_
            first | refine K.GL.splitB 53 rfl (fun h5 => ?_) (fun h5 => ?_) | skip
            all_goals first | exact absurd h5 (by decide) | replace h5 := of_decide_eq_true h5 | replace h5 := of_decide_eq_false h5 | skip
            all_goals
              first | (refine K.GL.want 53 rfl rfl rfl ?_; first | refine K.GL.det (K.e_move rfl) rfl ?_) | refine K.GL.skip 53 rfl rfl rfl rfl ?_ | refine K.GL.skipU 53 rfl rfl rfl rfl ?_
              first | (refine K.GL.want 53 rfl rfl rfl ?_; first | refine K.GL.det (K.e_move rfl) rfl ?_) | refine K.GL.skip 53 rfl rfl rfl rfl ?_ | refine K.GL.skipU 53 rfl rfl rfl rfl ?_
              first | (refine K.GL.want 53 rfl rfl rfl ?_; first | refine K.GL.det ((K.e_eq rfl rfl).yes (by first | omega | assumption | decide +kernel)) rfl ?_ | refine K.GL.det ((K.e_eq rfl rfl).no (by first | omega | assumption | decide +kernel)) rfl ?_ | refine K.GL.det (K.e_eq rfl rfl) rfl ?_) | refine K.GL.skip 53 rfl rfl rfl rfl ?_ | refine K.GL.skipU 53 rfl rfl rfl rfl ?_
              first | (refine K.GL.want 53 rfl rfl rfl ?_; first | refine K.GL.det (K.e_move rfl) rfl ?_) | refine K.GL.skip 53 rfl rfl rfl rfl ?_ | refine K.GL.skipU 53 rfl rfl rfl rfl ?_
              first | refine K.GL.splitB 57 rfl (fun h6 => ?_) (fun h6 => ?_) | skip
              all_goals first | exact absurd h6 (by decide) | replace h6 := of_decide_eq_true h6 | replace h6 := of_decide_eq_false h6 | skip
              all_goals
                first | (refine K.GL.want 57 rfl rfl rfl ?_; first | refine K.GL.det (K.e_move rfl) rfl ?_) | refine K.GL.skip 57 rfl rfl rfl rfl ?_ | refine K.GL.skipU 57 rfl rfl rfl rfl ?_
                first | (refine K.GL.want 57 rfl rfl rfl ?_; first | refine K.GL.det (K.e_fieldAddr fo23_1 rfl) rfl ?_) | refine K.GL.skip 57 rfl rfl rfl rfl ?_ | refine K.GL.skipU 57 rfl rfl rfl rfl ?_
                first | (refine K.GL.want 57 rfl rfl rfl ?_; first | refine K.GL.det (K.e_load Try.isAgg3 rfl rfl) rfl ?_ | refine K.GL.det (K.e_load0 Try.isAgg3 rfl (by assumption)) rfl ?_) | refine K.GL.skip 57 rfl rfl rfl rfl ?_ | refine K.GL.skipU 57 rfl rfl rfl rfl ?_
                first | (refine K.GL.want 57 rfl rfl rfl ?_; first | refine K.GL.det (K.e_add rfl rfl ⟨by omega, by omega⟩) rfl ?_ | refine K.GL.det (K.e_addw rfl rfl) rfl ?_) | refine K.GL.skip 57 rfl rfl rfl rfl ?_ | refine K.GL.skipU 57 rfl rfl rfl rfl ?_
                first | (refine K.GL.want 57 rfl rfl rfl ?_; first | refine K.GL.det (K.e_move rfl) rfl ?_) | refine K.GL.skip 57 rfl rfl rfl rfl ?_ | refine K.GL.skipU 57 rfl rfl rfl rfl ?_
                first | (refine K.GL.want 57 rfl rfl rfl ?_; first | refine K.GL.det ((K.e_le rfl rfl).yes (by first | omega | assumption | decide +kernel)) rfl ?_ | refine K.GL.det ((K.e_le rfl rfl).no (by first | omega | assumption | decide +kernel)) rfl ?_ | refine K.GL.det (K.e_le rfl rfl) rfl ?_) | refine K.GL.skip 57 rfl rfl rfl rfl ?_ | refine K.GL.skipU 57 rfl rfl rfl rfl ?_
                first | (refine K.GL.want 53 rfl rfl rfl ?_; first | refine K.GL.det (K.e_pick_t rfl rfl) rfl ?_ | refine K.GL.det (K.e_pick_f rfl rfl) rfl ?_) | refine K.GL.skip 53 rfl rfl rfl rfl ?_ | refine K.GL.skipU 53 rfl rfl rfl rfl ?_
                first | (refine K.GL.want 53 rfl rfl rfl ?_; first | refine K.GL.det (K.e_move rfl) rfl ?_) | refine K.GL.skip 53 rfl rfl rfl rfl ?_ | refine K.GL.skipU 53 rfl rfl rfl rfl ?_
                first | refine K.GL.splitB 65 rfl (fun h7 => ?_) (fun h7 => ?_) | skip
                all_goals first | exact absurd h7 (by decide) | replace h7 := of_decide_eq_true h7 | replace h7 := of_decide_eq_false h7 | skip
                all_goals
                  first | (refine K.GL.want 65 rfl rfl rfl ?_; first | refine K.GL.det (K.e_move rfl) rfl ?_) | refine K.GL.skip 65 rfl rfl rfl rfl ?_ | refine K.GL.skipU 65 rfl rfl rfl rfl ?_
                  first | (refine K.GL.want 65 rfl rfl rfl ?_; first | refine K.GL.det (K.e_fieldAddr fo23_1 rfl) rfl ?_) | refine K.GL.skip 65 rfl rfl rfl rfl ?_ | refine K.GL.skipU 65 rfl rfl rfl rfl ?_
                  first | (refine K.GL.want 65 rfl rfl rfl ?_; first | refine K.GL.det (K.e_load Try.isAgg3 rfl rfl) rfl ?_ | refine K.GL.det (K.e_load0 Try.isAgg3 rfl (by assumption)) rfl ?_) | refine K.GL.skip 65 rfl rfl rfl rfl ?_ | refine K.GL.skipU 65 rfl rfl rfl rfl ?_
                  first | (refine K.GL.want 65 rfl rfl rfl ?_; first | refine K.GL.det (K.e_add rfl rfl ⟨by omega, by omega⟩) rfl ?_ | refine K.GL.det (K.e_addw rfl rfl) rfl ?_) | refine K.GL.skip 65 rfl rfl rfl rfl ?_ | refine K.GL.skipU 65 rfl rfl rfl rfl ?_
                  first | (refine K.GL.want 65 rfl rfl rfl ?_; first | refine K.GL.det (K.e_move rfl) rfl ?_) | refine K.GL.skip 65 rfl rfl rfl rfl ?_ | refine K.GL.skipU 65 rfl rfl rfl rfl ?_
                  first | (refine K.GL.want 65 rfl rfl rfl ?_; first | refine K.GL.det ((K.e_le rfl rfl).yes (by first | omega | assumption | decide +kernel)) rfl ?_ | refine K.GL.det ((K.e_le rfl rfl).no (by first | omega | assumption | decide +kernel)) rfl ?_ | refine K.GL.det (K.e_le rfl rfl) rfl ?_) | refine K.GL.skip 65 rfl rfl rfl rfl ?_ | refine K.GL.skipU 65 rfl rfl rfl rfl ?_
                  first | (refine K.GL.want 53 rfl rfl rfl ?_; first | refine K.GL.det (K.e_pick_t rfl rfl) rfl ?_ | refine K.GL.det (K.e_pick_f rfl rfl) rfl ?_) | refine K.GL.skip 53 rfl rfl rfl rfl ?_ | refine K.GL.skipU 53 rfl rfl rfl rfl ?_
                  first | refine K.GL.det (K.e_pick_t rfl rfl) rfl ?_ | refine K.GL.det (K.e_pick_f rfl rfl) rfl ?_
                  refine K.GL.det (K.e_move rfl) rfl ?_
                  first | refine K.GL.splitB 74 rfl (fun h8 => ?_) (fun h8 => ?_) | skip
                  all_goals first | exact absurd h8 (by decide) | replace h8 := of_decide_eq_true h8 | replace h8 := of_decide_eq_false h8 | skip
                  all_goals
                    first | (refine K.GL.want 74 rfl rfl rfl ?_; first | refine K.GL.det (K.e_move rfl) rfl ?_) | refine K.GL.skip 74 rfl rfl rfl rfl ?_ | refine K.GL.skipU 74 rfl rfl rfl rfl ?_
                    first | (refine K.GL.want 74 rfl rfl rfl ?_; first | refine K.GL.det (K.e_move rfl) rfl ?_) | refine K.GL.skip 74 rfl rfl rfl rfl ?_ | refine K.GL.skipU 74 rfl rfl rfl rfl ?_
                    first | (refine K.GL.want 74 rfl rfl rfl ?_; first | refine K.GL.det ((K.e_eq rfl rfl).yes (by first | omega | assumption | decide +kernel)) rfl ?_ | refine K.GL.det ((K.e_eq rfl rfl).no (by first | omega | assumption | decide +kernel)) rfl ?_ | refine K.GL.det (K.e_eq rfl rfl) rfl ?_) | refine K.GL.skip 74 rfl rfl rfl rfl ?_ | refine K.GL.skipU 74 rfl rfl rfl rfl ?_
                    first | (refine K.GL.want 74 rfl rfl rfl ?_; first | refine K.GL.det (K.e_move rfl) rfl ?_) | refine K.GL.skip 74 rfl rfl rfl rfl ?_ | refine K.GL.skipU 74 rfl rfl rfl rfl ?_
                    first | (refine K.GL.want 74 rfl rfl rfl ?_; first | refine K.GL.det (K.e_move rfl) rfl ?_) | refine K.GL.skip 74 rfl rfl rfl rfl ?_ | refine K.GL.skipU 74 rfl rfl rfl rfl ?_
                    first | (refine K.GL.want 74 rfl rfl rfl ?_; first | refine K.GL.det ((K.e_eq rfl rfl).yes (by first | omega | assumption | decide +kernel)) rfl ?_ | refine K.GL.det ((K.e_eq rfl rfl).no (by first | omega | assumption | decide +kernel)) rfl ?_ | refine K.GL.det (K.e_eq rfl rfl) rfl ?_) | refine K.GL.skip 74 rfl rfl rfl rfl ?_ | refine K.GL.skipU 74 rfl rfl rfl rfl ?_
                    first | (refine K.GL.want 74 rfl rfl rfl ?_; first | refine K.GL.det ((K.e_eqb Try.underlying4 rfl rfl).cast_bool (b := true) (by first | rfl | simp [*])) rfl ?_ | refine K.GL.det ((K.e_eqb Try.underlying4 rfl rfl).cast_bool (b := false) (by first | rfl | simp [*])) rfl ?_ | refine K.GL.det (K.e_eqb Try.underlying4 rfl rfl) rfl ?_) | refine K.GL.skip 74 rfl rfl rfl rfl ?_ | refine K.GL.skipU 74 rfl rfl rfl rfl ?_
                    first | refine K.GL.det (K.e_pick_t rfl rfl) rfl ?_ | refine K.GL.det (K.e_pick_f rfl rfl) rfl ?_
                    refine K.GL.det (K.e_move rfl) rfl ?_
                    first | refine K.GL.splitB 83 rfl (fun h9 => ?_) (fun h9 => ?_) | skip
                    all_goals first | exact absurd h9 (by decide) | replace h9 := of_decide_eq_true h9 | replace h9 := of_decide_eq_false h9 | skip
                    all_goals
                      first | (refine K.GL.want 83 rfl rfl rfl ?_; first | refine K.GL.det (K.e_loads Try.isAgg23 Try.sizeOf23 rfl rfl) rfl ?_) | refine K.GL.skip 83 rfl rfl rfl rfl ?_ | refine K.GL.skipU 83 rfl rfl rfl rfl ?_
                      refine K.GL.want 83 rfl rfl rfl ?_
                      refine K.GL.ev (K.e_call Try.call20 rfl (fun w hT => blank_yes a b c w hr)) rfl (fun v hv => ?_)
                      obtain ⟨bl, rfl⟩ := hv
                      refine K.GL.want 83 rfl rfl rfl ?_
                      refine K.GL.det (K.e_call1 Try.call22 (x := .bool true) (vs := [tabV bl a.toNat]) rfl (fun w hT => blank_right bl a.toNat w (hT.ok _ List.mem_cons_self) (by omega) (by omega))) rfl ?_
                      first | refine K.GL.det (K.e_pick_t rfl rfl) rfl ?_ | refine K.GL.det (K.e_pick_f rfl rfl) rfl ?_
                      refine K.GL.det (K.e_assign rfl) rfl ?_
                      refine K.GL.nil ?_
                      refine K.GQ.go ?_
                      refine K.GC.ret ?_
                      refine K.GQ.ret1 Try.results4 rfl (fun w hT => ?_)
                      exact ⟨rfl, hT.nil⟩

set_option maxHeartbeats 1000000 in
set_option maxRecDepth 100000 in
theorem GeomApart_lifted (os : Os) (started : os.Started) (H : Type) (enc : TypeId × Value → H) :
    ReturnsInHanded {} Try.checked os 4 .any (Rows.geomApartSpec.pre6 enc Try.prog Try.f4 Rows.geomApartRow.domain false) (Rows.geomApartSpec.post enc Try.prog Try.f4 false true false false) := by
  refine returnsInHanded_of_change_sized (C := Try.checked) own started (by kernel_rfl) Try.func4
    (ChangeSpec.witness6 (enc := enc) (C := Try.checked) false ⟨#[], #[.agg #[.int .i64 0, .int .i64 0, .int .i64 0], .int .u8 0, .int .u8 0], []⟩ 8 (by kernel_rfl) (by kernel_rfl) (by kernel_rfl) (by kernel_rfl)) ?_
  intro W base args ds gs before hval0 hW _ hsz0 _
  have hval : ∀ (j : Nat) t v, Try.f4.params[j]? = some t → args[j]? = some v → Value.okWide Try.prog W .any base t v := hval0
  have hsz : (DataW.weightsEach Try.prog (Try.f4.params.toList ++ []) (ds ++ gs)).all (· ≤ reachBytes) = true := hsz0
  have hW' := hW
  obtain ⟨p, q, hA0, hV, hpe, hfz, hnd⟩ := hW
  have hA : DataW.TrodAll enc Try.prog W 0 (fun _ => true) true Try.f4.params.toList args.toList ds p := hA0
  obtain ⟨rfl, rfl⟩ := trodVars_none hV
  rw [Try.params4] at hA hval hsz
  obtain ⟨v0, vs0, d0, ds0, p0, q0, hargs, rfl, rfl, h0, r0⟩ := trodAll_cons hA
  obtain ⟨v1, vs1, d1, ds1, p1, q1, rfl, rfl, rfl, h1, r1⟩ := trodAll_cons r0
  obtain ⟨v2, vs2, d2, ds2, p2, q2, rfl, rfl, rfl, h2, r2⟩ := trodAll_cons r1
  obtain ⟨rfl, rfl, rfl⟩ := trodAll_nil r2
  obtain rfl : args = #[v0, v1, v2] := by cases args; simp_all
  clear hA0 hval0 hsz0 hA hargs
  obtain ⟨c0, c1, c2, y0, y1, y2, m, rfl, rfl, rfl, hy0, hy1, hy2⟩ := open_agg3 Try.underlying23 (by kernel_rfl) cellsGeo (hval 0 23 _ rfl rfl) h0
  obtain ⟨a, e0, rfl, wa⟩ := DataW.trod_int Try.underlying3 hy0
  obtain ⟨b, e1, rfl, wb⟩ := DataW.trod_int Try.underlying3 hy1
  obtain ⟨c, e2, rfl, wc⟩ := DataW.trod_int Try.underlying3 hy2
  simp only [List.cons.injEq, and_true] at e0 e1 e2
  subst e0 e1 e2
  have ia := (bounds_i64 wa)
  obtain ⟨x, rfl, rfl, rfl, wx⟩ := open_int Try.underlying5 (hval 1 5 _ rfl rfl) h1
  obtain ⟨y, rfl, rfl, rfl, wy⟩ := open_int Try.underlying5 (hval 2 5 _ rfl rfl) h2
  have bx := bounds_u8 wx
  have bY := bounds_u8 wy
  have core : Calls Try.prog 4 #[.agg #[.int .i64 a, .int .i64 b, .int .i64 c], .int .u8 x, .int .u8 y] W fun e W' => e = .returned (.bool true) ∧ Tr W [] W' [] := by
    cases hr : rightB a b c
    · exact apart_no a b c x y W hr
    · exact apart_yes a b c x y W hr bx bY
  exact core.mono fun e W' ⟨he, hT⟩ => ⟨_, he, law_post (tb := 4) hW' rfl rfl Try.underlying4 (fun _ => rfl) laidOut (by kernel_rfl) hT.below⟩
theorem GeomApart_holds : Rows.GeomApartSaid :=
  OpenClaim.holds_of_wide 4 Try.f4 rfl rfl rfl rfl rfl rfl rfl ⟨rfl, rfl, rfl, rfl, rfl⟩ rfl rfl rfl rfl rfl (by kernel_rfl) Try.func4 (by kernel_rfl)
    (of_decide_eq_true (by kernel_rfl)) (by unfold Func.isWrapper; first | (rw [if_pos (by decide +kernel)]; kernel_rfl) | (rw [if_neg (by decide +kernel)]; exact ⟨rfl, rfl⟩))
    (fun os started H enc _ => GeomApart_lifted os started H enc)

end Go.Proofs.Ytjbcnbhndinjhaa
