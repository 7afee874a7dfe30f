/- DevCuts returns true for all two numbers, and turns nothing. -/
import Derived.ProofKit
import Derived.OpenShut
import Derived.SizedLaws
import Derived.Lib.SmallJoins
import Derived.Test.YtgkdnecjokhkcaaRows
import Derived.Test.YtgkdnecjokhkcaaDevH
import Derived.Test.YtgkdnecjokhkcaaDevM
namespace Go.Proofs.Ytgkdnecjokhkcaa
open Go Go.K Go.ChangeShapes Go.WideShapes Go.ChangeAt Go.RowKit Go.Joins
set_option linter.unusedVariables false
set_option linter.unusedSimpArgs false
attribute [local irreducible] Calls Ev GL GC GQ GR Code.wp
theorem own : ownKnob Try.prog.godebug = none := by kernel_rfl
theorem laidOut : laidOutB Try.prog = true := by kernel_rfl
/- turntable/turntablelaw07.DevCuts -/
set_option maxHeartbeats 4000000 in
set_option maxRecDepth 100000 in
theorem cuts_any (m a : Nat) (hm : m < 256) (ha : a < 256) (w : World) :
    Calls Try.prog 6 #[.int .u8 (m : Int), .int .u8 (a : Int)] w fun e w' => e = .returned (.bool true) ∧ Tr w [] w' [] := by
  refine K.enter0 (args := [_, _]) Try.func6 rfl Try.ntmps6 rfl ?_
  refine K.GC.seq ?_
  refine K.GC.region ?_
  refine K.GL.det (K.e_assign rfl) rfl ?_
  refine K.GL.nil ?_
  refine K.GQ.go ?_
  refine K.GC.seq ?_
  refine K.GC.region ?_
  refine K.GL.det (K.e_call1 Try.call9 rfl (fun w hT => head_con)) rfl ?_
  refine K.GL.det (K.e_assign rfl) rfl ?_
  refine K.GL.nil ?_
  refine K.GQ.go ?_
  refine K.GC.seq ?_
  refine K.GC.region ?_
  refine gl_new (n := 4) Try.call11 rfl (by omega) rfl (fun d g1 hkg1 hvg1 => ?_)
  refine K.GL.det (K.e_assign rfl) rfl ?_
  refine K.GL.nil ?_
  refine K.GQ.go ?_
  refine K.GC.seq ?_
  refine K.GC.seq ?_
  refine K.GC.region ?_
  refine K.GL.det (K.e_move rfl) rfl ?_
  refine K.GL.det ((K.e_eqlp Try.underlying25 rfl rfl).cast_bool (b := false) rfl) rfl ?_
  refine K.GL.nil ?_
  refine K.GQ.go ?_
  refine K.GC.condB rfl (fun h1 => ?_) (fun h1 => ?_)
  · first
    | exact absurd h1 (by decide)
    | try replace h1 := of_decide_eq_true h1
      refine K.GC.seq ?_
      refine K.GC.region ?_
      refine K.GL.det (K.e_assign rfl) rfl ?_
      refine K.GL.nil ?_
      refine K.GQ.go ?_
      refine K.GC.ret ?_
      refine K.GQ.then_ret ?_
      refine K.GQ.ret1 Try.results6 rfl (fun w hT => ?_)
      exact ⟨rfl, hT.nil⟩
  · first
    | exact absurd h1 (by decide)
    | try replace h1 := of_decide_eq_false h1
      refine K.GC.skip ?_
      refine K.GQ.go ?_
      refine K.GC.seq ?_
      refine K.GC.region ?_
      refine K.GL.det (K.e_move rfl) rfl ?_
      refine K.GL.det (K.e_move rfl) rfl ?_
      first | refine K.GL.det (K.e_conv Try.underlying5 Try.underlying3 rfl (K.wrap_i64 (by omega) (by omega))) rfl ?_ | refine K.GL.det (K.e_convw Try.underlying5 Try.underlying3 rfl) rfl ?_
      refine gl_cut (i := (a : Int)) Try.call19 rfl hkg1 (by unfold I64; omega) rfl (fun g2 hkg2 hvg2 u21 => ?_)
      have hc0 : Cut4 g2.v a 0 := by rw [hvg2, hvg1]; exact Cut4.new a
      refine K.GL.nil ?_
      refine K.GQ.go ?_
      refine K.GC.seq ?_
      refine K.GC.seq ?_
      refine K.GC.region ?_
      refine K.GL.det (K.e_assign rfl) rfl ?_
      refine K.GL.nil ?_
      refine K.GQ.go ?_
      refine K.GC.block ?_
      refine K.GC.loopk (α := Nat × DG) [0, 1, 5, 6, 9, 10, 12, 13, 50, 51, 52, 53, 54, 55, 56, 57, 58, 59, 60, 61, 62, 63, 64, 65, 66, 67, 68, 69, 70, 71, 72, 73, 74, 75, 76, 77, 78, 79, 80, 81, 82, 83, 84, 85, 86, 87, 88, 89, 90, 91, 92, 93, 94, 95, 96, 97, 98, 99, 100, 101, 102, 104, 105, 106, 107, 108, 109, 110, 111, 112, 113, 114, 115, 116, 117, 118, 119, 120] rfl (fun x => [(7, .int .i64 (x.1 : Int))]) (fun x => [DevR d x.2]) (fun x => x.1 ≤ m ∧ x.2.Ok ∧ Cut4 x.2.v a x.1) (fun x => (m - x.1)) (0, g2) ⟨by simp only; omega, hkg2, hc0⟩ (by (repeat refine ⟨rfl, ?_⟩); exact trivial) (K.Sub.refl _) (fun x hI => ?_)
      obtain ⟨x, g⟩ := x
      obtain ⟨hx, hk, hc⟩ := hI
      simp only at hx hk hc ⊢
      refine K.GC.seq ?_
      refine K.GC.seq ?_
      refine K.GC.region ?_
      refine K.GL.det (K.e_move rfl) rfl ?_
      refine K.GL.det (K.e_move rfl) rfl ?_
      first | refine K.GL.det (K.e_conv Try.underlying5 Try.underlying3 rfl (K.wrap_i64 (by omega) (by omega))) rfl ?_ | refine K.GL.det (K.e_convw Try.underlying5 Try.underlying3 rfl) rfl ?_
      first | refine K.GL.det ((K.e_lt rfl rfl).yes (by first | omega | assumption | decide +kernel)) rfl ?_ | refine K.GL.det ((K.e_lt rfl rfl).no (by first | omega | assumption | decide +kernel)) rfl ?_ | refine K.GL.det (K.e_lt rfl rfl) rfl ?_
      refine K.GL.nil ?_
      refine K.GQ.go ?_
      refine K.GC.condB rfl (fun h2 => ?_) (fun h2 => ?_)
      · first
        | exact absurd h2 (by decide)
        | try replace h2 := of_decide_eq_true h2
          refine K.GC.skip ?_
          refine K.GQ.go ?_
          refine K.GC.seq ?_
          refine K.GC.block ?_
          refine K.GC.seq ?_
          refine K.GC.region ?_
          refine K.GL.det (K.e_move rfl) rfl ?_
          refine K.GL.det (K.e_move rfl) rfl ?_
          refine K.GL.det ((K.e_rem rfl rfl (by omega) (by omega) (by omega)).cast_int (b := ((x % 4 : Nat) : Int)) (by omega)) rfl ?_
          refine K.GL.det (K.e_move rfl) rfl ?_
          refine K.GL.det ((K.e_conv Try.underlying3 Try.underlying5 rfl (K.wrap_u8 (by omega) (by omega))).cast_int (b := ((UInt8.ofNat x).toNat : Int)) (by simp; omega)) rfl ?_
          refine gl_full (c := UInt8.ofNat x) Try.call23 rfl rfl (fun b33 => ?_)
          refine gl_write (i := ((x % 4 : Nat) : Int)) (bs := (secOf (UInt8.ofNat x)).1) Try.call13 rfl hk (fun w hT => own_slice hT (by simp)) rfl (fun g3 hkg3 hvg3 => ?_)
          obtain ⟨hc3, he⟩ := Cut4.step (k := x % 4) (y := secOf (UInt8.ofNat x)) hc ha (by omega)
          rw [← hvg3] at hc3
          rcases he with ⟨he, hlt⟩ | ⟨he, hlt⟩ <;> rw [he]
          all_goals
            refine K.GL.det (K.e_assign rfl) rfl ?_
            refine K.GL.nil ?_
            refine K.GQ.go ?_
            refine K.GC.seq ?_
            refine K.GC.region ?_
            refine K.GL.det (K.e_move rfl) rfl ?_
            first | refine K.GL.det ((K.e_eq rfl rfl).yes (by first | omega | assumption | decide +kernel)) rfl ?_ | refine K.GL.det ((K.e_eq rfl rfl).no (by first | omega | assumption | decide +kernel)) rfl ?_ | refine K.GL.det (K.e_eq rfl rfl) rfl ?_
            refine K.GL.det (K.e_move rfl) rfl ?_
            refine K.GL.det (K.e_move rfl) rfl ?_
            first | refine K.GL.det (K.e_conv Try.underlying5 Try.underlying3 rfl (K.wrap_i64 (by omega) (by omega))) rfl ?_ | refine K.GL.det (K.e_convw Try.underlying5 Try.underlying3 rfl) rfl ?_
            first | refine K.GL.det ((K.e_ge rfl rfl).yes (by first | omega | assumption | decide +kernel)) rfl ?_ | refine K.GL.det ((K.e_ge rfl rfl).no (by first | omega | assumption | decide +kernel)) rfl ?_ | refine K.GL.det (K.e_ge rfl rfl) rfl ?_
            first | refine K.GL.det ((K.e_neb Try.underlying4 rfl rfl).cast_bool (b := true) rfl) rfl ?_ | refine K.GL.det ((K.e_neb Try.underlying4 rfl rfl).cast_bool (b := false) rfl) rfl ?_ | refine K.GL.det ((K.e_neb Try.underlying4 rfl rfl).cast_bool (b := true) (by first | rfl | simp [*])) rfl ?_ | refine K.GL.det ((K.e_neb Try.underlying4 rfl rfl).cast_bool (b := false) (by first | rfl | simp [*])) rfl ?_ | refine K.GL.det (K.e_neb Try.underlying4 rfl rfl) rfl ?_
            refine K.GL.det (K.e_move rfl) rfl ?_
            first | refine K.GL.splitB 42 rfl (fun h3 => ?_) (fun h3 => ?_) | skip
            all_goals first | exact absurd h3 (by decide) | replace h3 := of_decide_eq_true h3 | replace h3 := of_decide_eq_false h3 | skip
            all_goals
              first | (refine K.GL.want 42 rfl rfl rfl ?_; first | refine K.GL.det (K.e_move rfl) rfl ?_) | refine K.GL.skip 42 rfl rfl rfl rfl ?_ | refine K.GL.skipU 42 rfl rfl rfl rfl ?_
              first | (refine K.GL.want 42 rfl rfl rfl ?_; first | refine K.GL.det ((K.e_ne rfl rfl).yes (by first | omega | assumption | decide +kernel)) rfl ?_ | refine K.GL.det ((K.e_ne rfl rfl).no (by first | omega | assumption | decide +kernel)) rfl ?_ | refine K.GL.det (K.e_ne rfl rfl) rfl ?_) | refine K.GL.skip 42 rfl rfl rfl rfl ?_ | refine K.GL.skipU 42 rfl rfl rfl rfl ?_
              first | (refine K.GL.want 42 rfl rfl rfl ?_; first | refine K.GL.det (K.e_move rfl) rfl ?_) | refine K.GL.skip 42 rfl rfl rfl rfl ?_ | refine K.GL.skipU 42 rfl rfl rfl rfl ?_
              first | refine K.GL.splitB 45 rfl (fun h4 => ?_) (fun h4 => ?_) | skip
              all_goals first | exact absurd h4 (by decide) | replace h4 := of_decide_eq_true h4 | replace h4 := of_decide_eq_false h4 | skip
              all_goals
                first | (refine K.GL.want 45 rfl rfl rfl ?_; first | refine K.GL.det (K.e_move rfl) rfl ?_) | refine K.GL.skip 45 rfl rfl rfl rfl ?_ | refine K.GL.skipU 45 rfl rfl rfl rfl ?_
                first | (refine K.GL.want 45 rfl rfl rfl ?_; first | refine K.GL.det ((K.e_ne rfl rfl).yes (by first | omega | assumption | decide +kernel)) rfl ?_ | refine K.GL.det ((K.e_ne rfl rfl).no (by first | omega | assumption | decide +kernel)) rfl ?_ | refine K.GL.det (K.e_ne rfl rfl) rfl ?_) | refine K.GL.skip 45 rfl rfl rfl rfl ?_ | refine K.GL.skipU 45 rfl rfl rfl rfl ?_
                first | (refine K.GL.want 42 rfl rfl rfl ?_; first | refine K.GL.det (K.e_pick_t rfl rfl) rfl ?_ | refine K.GL.det (K.e_pick_f rfl rfl) rfl ?_) | refine K.GL.skip 42 rfl rfl rfl rfl ?_ | refine K.GL.skipU 42 rfl rfl rfl rfl ?_
                first | refine K.GL.det (K.e_pick_t rfl rfl) rfl ?_ | refine K.GL.det (K.e_pick_f rfl rfl) rfl ?_
                refine K.GL.nil ?_
                refine K.GQ.go ?_
                refine K.GC.condB rfl (fun h5 => ?_) (fun h5 => ?_)
                · first
                  | exact absurd h5 (by decide)
                  | try replace h5 := of_decide_eq_true h5
                    refine K.GC.seq ?_
                    refine K.GC.region ?_
                    refine K.GL.det (K.e_assign rfl) rfl ?_
                    refine K.GL.nil ?_
                    refine K.GQ.go ?_
                    refine K.GC.ret ?_
                    refine K.GQ.block_ret ?_
                    refine K.GQ.then_ret ?_
                    refine K.GQ.then_ret ?_
                    refine K.GQ.block_ret ?_
                    refine K.GQ.then_ret ?_
                    refine K.GQ.ret1 Try.results6 rfl (fun w hT => ?_)
                    exact ⟨rfl, hT.nil⟩
                · first
                  | exact absurd h5 (by decide)
                  | try replace h5 := of_decide_eq_false h5
                    refine K.GC.skip ?_
                    refine K.GQ.block_normal ?_
                    refine K.GQ.go ?_
                    refine K.GC.region ?_
                    refine K.GL.det (K.e_move rfl) rfl ?_
                    first | refine K.GL.det (K.e_add rfl rfl ⟨by omega, by omega⟩) rfl ?_ | refine K.GL.det (K.e_addw rfl rfl) rfl ?_
                    refine K.GL.det (K.e_assign rfl) rfl ?_
                    refine K.GL.nil ?_
                    exact K.GQ.round (x + 1, g3) ⟨by simp only; omega, hkg3, hc3⟩ (by simp only; omega) (by (repeat refine ⟨rfl, ?_⟩); exact trivial) (Sub.take (i := 0) rfl (Sub.nil _))
      · first
        | exact absurd h2 (by decide)
        | try replace h2 := of_decide_eq_false h2
          refine K.GC.exit ?_
          refine K.GQ.then_exit ?_
          refine K.GQ.then_exit ?_
          refine K.GQ.block_hit ?_
          refine K.GQ.go ?_
          refine K.GC.seq ?_
          obtain rfl : x = m := by omega
          rcases cut_tells hc with ⟨hxa, hdn, hdo, hr0, hfl⟩ | ⟨hxa, hdn, hdo, hr0, hfl⟩ | ⟨hxa, hdn, hdo, hr0, hfl⟩
          all_goals
            refine K.GC.region ?_
            refine K.GL.det (K.e_move rfl) rfl ?_
            first | refine K.GL.det (K.e_conv Try.underlying5 Try.underlying3 rfl (K.wrap_i64 (by omega) (by omega))) rfl ?_ | refine K.GL.det (K.e_convw Try.underlying5 Try.underlying3 rfl) rfl ?_
            refine K.GL.det (K.e_move rfl) rfl ?_
            first | refine K.GL.det (K.e_conv Try.underlying5 Try.underlying3 rfl (K.wrap_i64 (by omega) (by omega))) rfl ?_ | refine K.GL.det (K.e_convw Try.underlying5 Try.underlying3 rfl) rfl ?_
            refine K.GL.det (K.e_min rfl rfl) rfl ?_
            refine K.GL.det (K.e_assign rfl) rfl ?_
            refine K.GL.nil ?_
            refine K.GQ.go ?_
            refine K.GC.seq ?_
            refine K.GC.region ?_
            refine K.GL.det (K.e_move rfl) rfl ?_
            first | refine K.GL.det (K.e_conv Try.underlying5 Try.underlying3 rfl (K.wrap_i64 (by omega) (by omega))) rfl ?_ | refine K.GL.det (K.e_convw Try.underlying5 Try.underlying3 rfl) rfl ?_
            refine K.GL.det (K.e_move rfl) rfl ?_
            first | refine K.GL.det (K.e_conv Try.underlying5 Try.underlying3 rfl (K.wrap_i64 (by omega) (by omega))) rfl ?_ | refine K.GL.det (K.e_convw Try.underlying5 Try.underlying3 rfl) rfl ?_
            first | refine K.GL.det ((K.e_gt rfl rfl).yes (by first | omega | assumption | decide +kernel)) rfl ?_ | refine K.GL.det ((K.e_gt rfl rfl).no (by first | omega | assumption | decide +kernel)) rfl ?_ | refine K.GL.det (K.e_gt rfl rfl) rfl ?_
            refine K.GL.det (K.e_assign rfl) rfl ?_
            refine K.GL.nil ?_
            refine K.GQ.go ?_
            refine K.GC.seq ?_
            refine K.GC.region ?_
            refine K.GL.det (K.e_move rfl) rfl ?_
            refine gl_read (i := 0) Try.call17 rfl hk rfl (fun a62 c62 => ?_)
            refine K.GL.det (K.e_move rfl) rfl ?_
            refine K.GL.det (K.e_extract rfl rfl) rfl ?_
            refine K.GL.det (K.e_extract rfl rfl) rfl ?_
            refine K.GL.det (K.e_assign rfl) rfl ?_
            refine K.GL.det (K.e_assign rfl) rfl ?_
            refine K.GL.nil ?_
            refine K.GQ.go ?_
            refine K.GC.seq ?_
            refine K.GC.seq ?_
            refine K.GC.region ?_
            refine K.GL.det (K.e_move rfl) rfl ?_
            refine K.GL.det (K.e_call1 Try.call29 rfl (fun w hT => done_con (hT.ok _ Pick.mem))) rfl ?_
            refine K.GL.det (K.e_move rfl) rfl ?_
            first | refine K.GL.det ((K.e_ne rfl rfl).yes (by first | omega | assumption | decide +kernel)) rfl ?_ | refine K.GL.det ((K.e_ne rfl rfl).no (by first | omega | assumption | decide +kernel)) rfl ?_ | refine K.GL.det (K.e_ne rfl rfl) rfl ?_
            refine K.GL.det (K.e_move rfl) rfl ?_
            first | refine K.GL.splitB 69 rfl (fun h6 => ?_) (fun h6 => ?_) | skip
            all_goals first | exact absurd h6 (by decide) | replace h6 := of_decide_eq_true h6 | replace h6 := of_decide_eq_false h6 | skip
            all_goals
              first | (refine K.GL.want 69 rfl rfl rfl ?_; first | refine K.GL.det (K.e_move rfl) rfl ?_) | refine K.GL.skip 69 rfl rfl rfl rfl ?_ | refine K.GL.skipU 69 rfl rfl rfl rfl ?_
              first | (refine K.GL.want 69 rfl rfl rfl ?_; first | refine K.GL.det ((K.e_call1 Try.call27 rfl (fun w hT => down_con (hT.ok _ Pick.mem))).cast_bool (b := true) (by assumption)) rfl ?_ | refine K.GL.det ((K.e_call1 Try.call27 rfl (fun w hT => down_con (hT.ok _ Pick.mem))).cast_bool (b := false) (by assumption)) rfl ?_ | refine K.GL.det (K.e_call1 Try.call27 rfl (fun w hT => down_con (hT.ok _ Pick.mem))) rfl ?_) | refine K.GL.skip 69 rfl rfl rfl rfl ?_ | refine K.GL.skipU 69 rfl rfl rfl rfl ?_
              first | (refine K.GL.want 69 rfl rfl rfl ?_; first | refine K.GL.det (K.e_move rfl) rfl ?_) | refine K.GL.skip 69 rfl rfl rfl rfl ?_ | refine K.GL.skipU 69 rfl rfl rfl rfl ?_
              first | (refine K.GL.want 69 rfl rfl rfl ?_; first | refine K.GL.det ((K.e_neb Try.underlying4 rfl rfl).cast_bool (b := true) rfl) rfl ?_ | refine K.GL.det ((K.e_neb Try.underlying4 rfl rfl).cast_bool (b := false) rfl) rfl ?_ | refine K.GL.det ((K.e_neb Try.underlying4 rfl rfl).cast_bool (b := true) (by first | rfl | simp [*])) rfl ?_ | refine K.GL.det ((K.e_neb Try.underlying4 rfl rfl).cast_bool (b := false) (by first | rfl | simp [*])) rfl ?_ | refine K.GL.det (K.e_neb Try.underlying4 rfl rfl) rfl ?_) | refine K.GL.skip 69 rfl rfl rfl rfl ?_ | refine K.GL.skipU 69 rfl rfl rfl rfl ?_
              first | refine K.GL.det (K.e_pick_t rfl rfl) rfl ?_ | refine K.GL.det (K.e_pick_f rfl rfl) rfl ?_
              refine K.GL.det (K.e_move rfl) rfl ?_
              first | refine K.GL.splitB 75 rfl (fun h7 => ?_) (fun h7 => ?_) | skip
              all_goals first | exact absurd h7 (by decide) | replace h7 := of_decide_eq_true h7 | replace h7 := of_decide_eq_false h7 | skip
              all_goals
                first | (refine K.GL.want 75 rfl rfl rfl ?_; first | refine K.GL.det (K.e_move rfl) rfl ?_) | refine K.GL.skip 75 rfl rfl rfl rfl ?_ | refine K.GL.skipU 75 rfl rfl rfl rfl ?_
                first | (refine K.GL.want 75 rfl rfl rfl ?_; first | refine K.GL.det ((K.e_eq rfl rfl).yes (by first | omega | assumption | decide +kernel)) rfl ?_ | refine K.GL.det ((K.e_eq rfl rfl).no (by first | omega | assumption | decide +kernel)) rfl ?_ | refine K.GL.det (K.e_eq rfl rfl) rfl ?_) | refine K.GL.skip 75 rfl rfl rfl rfl ?_ | refine K.GL.skipU 75 rfl rfl rfl rfl ?_
                first | (refine K.GL.want 75 rfl rfl rfl ?_; first | refine K.GL.det (K.e_move rfl) rfl ?_) | refine K.GL.skip 75 rfl rfl rfl rfl ?_ | refine K.GL.skipU 75 rfl rfl rfl rfl ?_
                first | (refine K.GL.want 75 rfl rfl rfl ?_; first | refine K.GL.det ((K.e_neb Try.underlying4 rfl rfl).cast_bool (b := true) rfl) rfl ?_ | refine K.GL.det ((K.e_neb Try.underlying4 rfl rfl).cast_bool (b := false) rfl) rfl ?_ | refine K.GL.det ((K.e_neb Try.underlying4 rfl rfl).cast_bool (b := true) (by first | rfl | simp [*])) rfl ?_ | refine K.GL.det ((K.e_neb Try.underlying4 rfl rfl).cast_bool (b := false) (by first | rfl | simp [*])) rfl ?_ | refine K.GL.det (K.e_neb Try.underlying4 rfl rfl) rfl ?_) | refine K.GL.skip 75 rfl rfl rfl rfl ?_ | refine K.GL.skipU 75 rfl rfl rfl rfl ?_
                first | refine K.GL.det (K.e_pick_t rfl rfl) rfl ?_ | refine K.GL.det (K.e_pick_f rfl rfl) rfl ?_
                refine K.GL.nil ?_
                refine K.GQ.go ?_
                refine K.GC.condB rfl (fun h8 => ?_) (fun h8 => ?_)
                · first
                  | exact absurd h8 (by decide)
                  | try replace h8 := of_decide_eq_true h8
                    refine K.GC.seq ?_
                    refine K.GC.region ?_
                    refine K.GL.det (K.e_assign rfl) rfl ?_
                    refine K.GL.nil ?_
                    refine K.GQ.go ?_
                    refine K.GC.ret ?_
                    refine K.GQ.then_ret ?_
                    refine K.GQ.ret1 Try.results6 rfl (fun w hT => ?_)
                    exact ⟨rfl, hT.nil⟩
                · first
                  | exact absurd h8 (by decide)
                  | try replace h8 := of_decide_eq_false h8
                    refine K.GC.skip ?_
                    refine K.GQ.go ?_
                    refine K.GC.seq ?_
                    refine K.GC.region ?_
                    refine K.GL.det (K.e_move rfl) rfl ?_
                    refine gl_flush Try.call15 rfl hk rfl (fun g5 hkg5 hvg5 => ?_)
                    refine K.GL.det (K.e_assign rfl) rfl ?_
                    refine K.GL.nil ?_
                    refine K.GQ.go ?_
                    refine K.GC.seq ?_
                    refine K.GC.seq ?_
                    refine K.GC.region ?_
                    refine K.GL.det (K.e_move rfl) rfl ?_
                    refine K.GL.det (K.e_move rfl) rfl ?_
                    first | refine K.GL.splitB 84 rfl (fun h9 => ?_) (fun h9 => ?_) | skip
                    all_goals first | exact absurd h9 (by decide) | replace h9 := of_decide_eq_true h9 | replace h9 := of_decide_eq_false h9 | skip
                    all_goals
                      first | (refine K.GL.want 84 rfl rfl rfl ?_; first | refine K.GL.det (K.e_move rfl) rfl ?_) | refine K.GL.skip 84 rfl rfl rfl rfl ?_ | refine K.GL.skipU 84 rfl rfl rfl rfl ?_
                      first | (refine K.GL.want 84 rfl rfl rfl ?_; first | refine K.GL.det ((K.e_ne rfl rfl).yes (by first | omega | assumption | decide +kernel)) rfl ?_ | refine K.GL.det ((K.e_ne rfl rfl).no (by first | omega | assumption | decide +kernel)) rfl ?_ | refine K.GL.det (K.e_ne rfl rfl) rfl ?_) | refine K.GL.skip 84 rfl rfl rfl rfl ?_ | refine K.GL.skipU 84 rfl rfl rfl rfl ?_
                      first | refine K.GL.det (K.e_pick_t rfl rfl) rfl ?_ | refine K.GL.det (K.e_pick_f rfl rfl) rfl ?_
                      refine K.GL.det (K.e_move rfl) rfl ?_
                      first | refine K.GL.splitB 88 rfl (fun h10 => ?_) (fun h10 => ?_) | skip
                      all_goals first | exact absurd h10 (by decide) | replace h10 := of_decide_eq_true h10 | replace h10 := of_decide_eq_false h10 | skip
                      all_goals
                        first | (refine K.GL.want 88 rfl rfl rfl ?_; first | refine K.GL.det (K.e_move rfl) rfl ?_) | refine K.GL.skip 88 rfl rfl rfl rfl ?_ | refine K.GL.skipU 88 rfl rfl rfl rfl ?_
                        first | (refine K.GL.want 88 rfl rfl rfl ?_; first | refine K.GL.det (K.e_notp rfl) rfl ?_ | refine K.GL.det (K.e_not rfl) rfl ?_) | refine K.GL.skip 88 rfl rfl rfl rfl ?_ | refine K.GL.skipU 88 rfl rfl rfl rfl ?_
                        first | (refine K.GL.want 88 rfl rfl rfl ?_; first | refine K.GL.det (K.e_move rfl) rfl ?_) | refine K.GL.skip 88 rfl rfl rfl rfl ?_ | refine K.GL.skipU 88 rfl rfl rfl rfl ?_
                        first | refine K.GL.splitB 91 rfl (fun h11 => ?_) (fun h11 => ?_) | skip
                        all_goals first | exact absurd h11 (by decide) | replace h11 := of_decide_eq_true h11 | replace h11 := of_decide_eq_false h11 | skip
                        all_goals
                          first | (refine K.GL.want 91 rfl rfl rfl ?_; first | refine K.GL.det (K.e_move rfl) rfl ?_) | refine K.GL.skip 91 rfl rfl rfl rfl ?_ | refine K.GL.skipU 91 rfl rfl rfl rfl ?_
                          first | (refine K.GL.want 91 rfl rfl rfl ?_; first | refine K.GL.det ((K.e_eq rfl rfl).yes (by first | omega | assumption | decide +kernel)) rfl ?_ | refine K.GL.det ((K.e_eq rfl rfl).no (by first | omega | assumption | decide +kernel)) rfl ?_ | refine K.GL.det (K.e_eq rfl rfl) rfl ?_) | refine K.GL.skip 91 rfl rfl rfl rfl ?_ | refine K.GL.skipU 91 rfl rfl rfl rfl ?_
                          first | (refine K.GL.want 91 rfl rfl rfl ?_; first | refine K.GL.det (K.e_move rfl) rfl ?_) | refine K.GL.skip 91 rfl rfl rfl rfl ?_ | refine K.GL.skipU 91 rfl rfl rfl rfl ?_
                          first | (refine K.GL.want 91 rfl rfl rfl ?_; first | refine K.GL.det (K.e_conv Try.underlying5 Try.underlying3 rfl (K.wrap_i64 (by omega) (by omega))) rfl ?_ | refine K.GL.det (K.e_convw Try.underlying5 Try.underlying3 rfl) rfl ?_) | refine K.GL.skip 91 rfl rfl rfl rfl ?_ | refine K.GL.skipU 91 rfl rfl rfl rfl ?_
                          first | (refine K.GL.want 91 rfl rfl rfl ?_; first | refine K.GL.det (K.e_move rfl) rfl ?_) | refine K.GL.skip 91 rfl rfl rfl rfl ?_ | refine K.GL.skipU 91 rfl rfl rfl rfl ?_
                          first | (refine K.GL.want 91 rfl rfl rfl ?_; first | refine K.GL.det (K.e_conv Try.underlying5 Try.underlying3 rfl (K.wrap_i64 (by omega) (by omega))) rfl ?_ | refine K.GL.det (K.e_convw Try.underlying5 Try.underlying3 rfl) rfl ?_) | refine K.GL.skip 91 rfl rfl rfl rfl ?_ | refine K.GL.skipU 91 rfl rfl rfl rfl ?_
                          first | (refine K.GL.want 91 rfl rfl rfl ?_; first | refine K.GL.det ((K.e_lt rfl rfl).yes (by first | omega | assumption | decide +kernel)) rfl ?_ | refine K.GL.det ((K.e_lt rfl rfl).no (by first | omega | assumption | decide +kernel)) rfl ?_ | refine K.GL.det (K.e_lt rfl rfl) rfl ?_) | refine K.GL.skip 91 rfl rfl rfl rfl ?_ | refine K.GL.skipU 91 rfl rfl rfl rfl ?_
                          first | (refine K.GL.want 91 rfl rfl rfl ?_; first | refine K.GL.det ((K.e_neb Try.underlying4 rfl rfl).cast_bool (b := true) rfl) rfl ?_ | refine K.GL.det ((K.e_neb Try.underlying4 rfl rfl).cast_bool (b := false) rfl) rfl ?_ | refine K.GL.det ((K.e_neb Try.underlying4 rfl rfl).cast_bool (b := true) (by first | rfl | simp [*])) rfl ?_ | refine K.GL.det ((K.e_neb Try.underlying4 rfl rfl).cast_bool (b := false) (by first | rfl | simp [*])) rfl ?_ | refine K.GL.det (K.e_neb Try.underlying4 rfl rfl) rfl ?_) | refine K.GL.skip 91 rfl rfl rfl rfl ?_ | refine K.GL.skipU 91 rfl rfl rfl rfl ?_
                          first | (refine K.GL.want 88 rfl rfl rfl ?_; first | refine K.GL.det (K.e_pick_t rfl rfl) rfl ?_ | refine K.GL.det (K.e_pick_f rfl rfl) rfl ?_) | refine K.GL.skip 88 rfl rfl rfl rfl ?_ | refine K.GL.skipU 88 rfl rfl rfl rfl ?_
                          first | refine K.GL.det (K.e_pick_t rfl rfl) rfl ?_ | refine K.GL.det (K.e_pick_f rfl rfl) rfl ?_
                          refine K.GL.nil ?_
                          refine K.GQ.go ?_
                          refine K.GC.condB rfl (fun h12 => ?_) (fun h12 => ?_)
                          · first
                            | exact absurd h12 (by decide)
                            | try replace h12 := of_decide_eq_true h12
                              refine K.GC.seq ?_
                              refine K.GC.region ?_
                              refine K.GL.det (K.e_assign rfl) rfl ?_
                              refine K.GL.nil ?_
                              refine K.GQ.go ?_
                              refine K.GC.ret ?_
                              refine K.GQ.then_ret ?_
                              refine K.GQ.ret1 Try.results6 rfl (fun w hT => ?_)
                              exact ⟨rfl, hT.nil⟩
                          · first
                            | exact absurd h12 (by decide)
                            | try replace h12 := of_decide_eq_false h12
                              refine K.GC.skip ?_
                              refine K.GQ.go ?_
                              refine K.GC.seq ?_
                              refine K.GC.region ?_
                              refine K.GL.det (K.e_move rfl) rfl ?_
                              refine gl_boot (ks := []) (hs := []) Try.call21 rfl hkg5 (fun w hT => ⟨⟨Sl.nil w 1, fun h => absurd h (by omega)⟩, Sl.nil w 3, fun h => absurd h (by omega)⟩) (by simp) (by omega) rfl (fun g6 hkg6 hvg6 u103 => ?_)
                              have hu := DS.boot_up (s := g5.v) rfl [] []
                              rw [← hvg6] at hu
                              have hd6 : g6.down = false := hu.down
                              have hf6 : g6.v.flush.2 = 0 := hu.flush.2.1
                              refine K.GL.nil ?_
                              refine K.GQ.go ?_
                              refine K.GC.seq ?_
                              refine K.GC.region ?_
                              refine K.GL.det (K.e_move rfl) rfl ?_
                              refine K.GL.det (K.e_move rfl) rfl ?_
                              first | refine K.GL.splitB 105 rfl (fun h13 => ?_) (fun h13 => ?_) | skip
                              all_goals first | exact absurd h13 (by decide) | replace h13 := of_decide_eq_true h13 | replace h13 := of_decide_eq_false h13 | skip
                              all_goals
                                first | (refine K.GL.want 105 rfl rfl rfl ?_; first | refine K.GL.det (K.e_move rfl) rfl ?_) | refine K.GL.skip 105 rfl rfl rfl rfl ?_ | refine K.GL.skipU 105 rfl rfl rfl rfl ?_
                                first | (refine K.GL.want 105 rfl rfl rfl ?_; first | refine K.GL.det ((K.e_call1 Try.call27 rfl (fun w hT => down_con (hT.ok _ Pick.mem))).cast_bool (b := true) (by assumption)) rfl ?_ | refine K.GL.det ((K.e_call1 Try.call27 rfl (fun w hT => down_con (hT.ok _ Pick.mem))).cast_bool (b := false) (by assumption)) rfl ?_ | refine K.GL.det (K.e_call1 Try.call27 rfl (fun w hT => down_con (hT.ok _ Pick.mem))) rfl ?_) | refine K.GL.skip 105 rfl rfl rfl rfl ?_ | refine K.GL.skipU 105 rfl rfl rfl rfl ?_
                                first | (refine K.GL.want 105 rfl rfl rfl ?_; first | refine K.GL.det (K.e_notp rfl) rfl ?_ | refine K.GL.det (K.e_not rfl) rfl ?_) | refine K.GL.skip 105 rfl rfl rfl rfl ?_ | refine K.GL.skipU 105 rfl rfl rfl rfl ?_
                                first | refine K.GL.det (K.e_pick_t rfl rfl) rfl ?_ | refine K.GL.det (K.e_pick_f rfl rfl) rfl ?_
                                refine K.GL.det (K.e_move rfl) rfl ?_
                                first | refine K.GL.splitB 110 rfl (fun h14 => ?_) (fun h14 => ?_) | skip
                                all_goals first | exact absurd h14 (by decide) | replace h14 := of_decide_eq_true h14 | replace h14 := of_decide_eq_false h14 | skip
                                all_goals
                                  first | (refine K.GL.want 110 rfl rfl rfl ?_; first | refine K.GL.det (K.e_move rfl) rfl ?_) | refine K.GL.skip 110 rfl rfl rfl rfl ?_ | refine K.GL.skipU 110 rfl rfl rfl rfl ?_
                                  refine K.GL.want 110 rfl rfl rfl ?_
                                  refine gl_flush Try.call15 rfl hkg6 rfl (fun g7 hkg7 hvg7 => ?_)
                                  have hl7 : g7.v.list.length = 0 := by rw [hvg7, DS.list_nil hu.flush.2.2.2.2]; rfl
                                  first | (refine K.GL.want 110 rfl rfl rfl ?_; first | refine K.GL.det ((K.e_eq rfl rfl).yes (by first | omega | assumption | decide +kernel)) rfl ?_ | refine K.GL.det ((K.e_eq rfl rfl).no (by first | omega | assumption | decide +kernel)) rfl ?_ | refine K.GL.det (K.e_eq rfl rfl) rfl ?_) | refine K.GL.skip 110 rfl rfl rfl rfl ?_ | refine K.GL.skipU 110 rfl rfl rfl rfl ?_
                                  first | refine K.GL.det (K.e_pick_t rfl rfl) rfl ?_ | refine K.GL.det (K.e_pick_f rfl rfl) rfl ?_
                                  refine K.GL.det (K.e_move rfl) rfl ?_
                                  first | refine K.GL.splitB 115 rfl (fun h15 => ?_) (fun h15 => ?_) | skip
                                  all_goals first | exact absurd h15 (by decide) | replace h15 := of_decide_eq_true h15 | replace h15 := of_decide_eq_false h15 | skip
                                  all_goals
                                    first | (refine K.GL.want 115 rfl rfl rfl ?_; first | refine K.GL.det (K.e_move rfl) rfl ?_) | refine K.GL.skip 115 rfl rfl rfl rfl ?_ | refine K.GL.skipU 115 rfl rfl rfl rfl ?_
                                    refine K.GL.want 115 rfl rfl rfl ?_
                                    refine gl_loose Try.call25 rfl hkg7 rfl (fun a117 c117 => ?_)
                                    first | (refine K.GL.want 115 rfl rfl rfl ?_; first | refine K.GL.det (K.e_len Try.underlying43 rfl) rfl ?_) | refine K.GL.skip 115 rfl rfl rfl rfl ?_ | refine K.GL.skipU 115 rfl rfl rfl rfl ?_
                                    first | (refine K.GL.want 115 rfl rfl rfl ?_; first | refine K.GL.det ((K.e_eq rfl rfl).yes (by first | omega | assumption | decide +kernel)) rfl ?_ | refine K.GL.det ((K.e_eq rfl rfl).no (by first | omega | assumption | decide +kernel)) rfl ?_ | refine K.GL.det (K.e_eq rfl rfl) rfl ?_) | refine K.GL.skip 115 rfl rfl rfl rfl ?_ | refine K.GL.skipU 115 rfl rfl rfl rfl ?_
                                    first | refine K.GL.det (K.e_pick_t rfl rfl) rfl ?_ | refine K.GL.det (K.e_pick_f rfl rfl) rfl ?_
                                    refine K.GL.det (K.e_assign rfl) rfl ?_
                                    refine K.GL.nil ?_
                                    refine K.GQ.go ?_
                                    refine K.GC.ret ?_
                                    refine K.GQ.ret1 Try.results6 rfl (fun w hT => ?_)
                                    exact ⟨rfl, hT.nil⟩

set_option maxHeartbeats 1000000 in
set_option maxRecDepth 100000 in
theorem DevCuts_lifted (os : Os) (started : os.Started) (H : Type) (enc : TypeId × Value → H) :
    ReturnsInHanded {} Try.checked os 6 .any (Rows.devCutsSpec.pre6 enc Try.prog Try.f6 Rows.devCutsRow.domain false) (Rows.devCutsSpec.post enc Try.prog Try.f6 false true false false) := by
  refine returnsInHanded_of_change_sized (C := Try.checked) own started (by kernel_rfl) Try.func6
    (ChangeSpec.witness6 (enc := enc) (C := Try.checked) false ⟨#[], #[.int .u8 0, .int .u8 0], []⟩ 8 (by kernel_rfl) (by kernel_rfl) (by kernel_rfl) (by kernel_rfl)) ?_
  intro W base args ds gs before hval0 hW _ hsz0 _
  have hval : ∀ (j : Nat) t v, Try.f6.params[j]? = some t → args[j]? = some v → Value.okWide Try.prog W .any base t v := hval0
  have hsz : (DataW.weightsEach Try.prog (Try.f6.params.toList ++ []) (ds ++ gs)).all (· ≤ reachBytes) = true := hsz0
  have hW' := hW
  obtain ⟨p, q, hA0, hV, hpe, hfz, hnd⟩ := hW
  have hA : DataW.TrodAll enc Try.prog W 0 (fun _ => true) true Try.f6.params.toList args.toList ds p := hA0
  obtain ⟨rfl, rfl⟩ := trodVars_none hV
  rw [Try.params6] at hA hval hsz
  obtain ⟨v0, vs0, d0, ds0, p0, q0, hargs, rfl, rfl, h0, r0⟩ := trodAll_cons hA
  obtain ⟨v1, vs1, d1, ds1, p1, q1, rfl, rfl, rfl, h1, r1⟩ := trodAll_cons r0
  obtain ⟨rfl, rfl, rfl⟩ := trodAll_nil r1
  obtain rfl : args = #[v0, v1] := by cases args; simp_all
  clear hA0 hval0 hsz0 hA hargs
  obtain ⟨m, rfl, rfl, rfl, wm⟩ := open_int Try.underlying5 (hval 0 5 _ rfl rfl) h0
  obtain ⟨a, rfl, rfl, rfl, wa⟩ := open_int Try.underlying5 (hval 1 5 _ rfl rfl) h1
  have bm := bounds_u8 wm
  have ba := bounds_u8 wa
  obtain ⟨m, rfl⟩ := Int.eq_ofNat_of_zero_le bm.1
  obtain ⟨a, rfl⟩ := Int.eq_ofNat_of_zero_le ba.1
  have core : Calls Try.prog 6 #[.int .u8 (m : Int), .int .u8 (a : Int)] W fun e W' => e = .returned (.bool true) ∧ Tr W [] W' [] := cuts_any m a (by omega) (by omega) W
  exact core.mono fun e W' ⟨he, hT⟩ => ⟨_, he, law_post (tb := 4) hW' rfl rfl Try.underlying4 (fun _ => rfl) laidOut (by kernel_rfl) hT.below⟩
theorem DevCuts_holds : Rows.DevCutsSaid :=
  OpenClaim.holds_of_wide 6 Try.f6 rfl rfl rfl rfl rfl rfl rfl ⟨rfl, rfl, rfl, rfl, rfl⟩ rfl rfl rfl rfl rfl (by kernel_rfl) Try.func6 (by kernel_rfl)
    (of_decide_eq_true (by kernel_rfl)) (by unfold Func.isWrapper; first | (rw [if_pos (by decide +kernel)]; kernel_rfl) | (rw [if_neg (by decide +kernel)]; exact ⟨rfl, rfl⟩))
    (fun os started H enc _ => DevCuts_lifted os started H enc)

end Go.Proofs.Ytgkdnecjokhkcaa
