/- GeomTells returns true for every use of a device and every number of an extent, and turns nothing. -/
import Derived.ProofKit
import Derived.OpenShut
import Derived.SizedLaws
import Derived.Lib.SmallJoins
import Derived.Test.YtjbcnbhndinjhaaGeo
namespace Go.Proofs.Ytjbcnbhndinjhaa
open Go Go.K Go.ChangeShapes Go.WideShapes Go.ChangeAt Go.RowKit Go.Joins
set_option linter.unusedVariables false
set_option linter.unusedSimpArgs false
attribute [local irreducible] Calls Ev GL GC GQ GR Code.wp
theorem own : ownKnob Try.prog.godebug = none := by kernel_rfl
theorem laidOut : laidOutB Try.prog = true := by kernel_rfl
theorem cellsU16 : Try.prog.cellsOf 37 = 1 := by kernel_rfl
theorem cellsGeo : Try.prog.cellsOf 23 = 3 := by kernel_rfl
/- turntable/turntablelaw17.GeomTells -/
set_option maxHeartbeats 1000000 in
set_option maxRecDepth 100000 in
theorem tells_no (a b c x : Int) (w : World) (hi : I64 a) (hr : rightB a b c = false) :
    Calls Try.prog 3 #[.agg #[.int .i64 a, .int .i64 b, .int .i64 c], .int .i64 x] w fun e w' => e = .returned (.bool true) ∧ Tr w [] w' [] := by
  refine K.enter0 (args := [_, _]) Try.func3 rfl Try.ntmps3 rfl ?_
  refine K.GC.seq ?_
  refine K.GC.region ?_
  refine K.GL.box rfl rfl rfl (fun b2 => ?_)
  refine K.GL.det (K.e_assign rfl) rfl ?_
  refine K.GL.nil ?_
  refine K.GQ.go ?_
  refine K.GC.seq ?_
  refine K.GC.region ?_
  refine K.GL.det (K.e_call1 Try.call8 rfl (fun w hT => head_any w)) rfl ?_
  refine K.GL.det (K.e_assign rfl) rfl ?_
  refine K.GL.nil ?_
  refine K.GQ.go ?_
  refine K.GC.seq ?_
  refine K.GC.drawn 46 [[], [0], [0, 1], [0, 1, 2], [0, 1], [0, 1, 2, 3, 4], [0, 1, 2, 3, 4, 5], [0, 1, 2, 3, 4, 5, 6], [0, 1, 2, 3, 4, 5, 6, 7], [0, 1, 2, 3, 4, 5, 6, 7, 8], [0, 1, 2, 3, 4, 5, 6, 7, 8, 9], [0, 1, 2, 3, 4, 5, 6, 7, 8], [0, 1, 2, 3, 4, 5, 6, 7, 8, 9, 10, 11], [0, 1, 2, 3, 4, 5, 6, 7, 8, 9, 10, 11, 12], [0, 1, 2, 3, 4, 5, 6, 7, 8, 9, 10, 11, 12, 13], [0, 1, 2, 3, 4, 5, 6, 7, 8, 9, 10, 11, 12, 13, 14], [0, 1, 2, 3, 4, 5, 6, 7, 8, 9, 10, 11, 12, 13, 14, 15], [0, 1, 2, 3, 4, 5, 6, 7, 8, 9, 10, 11, 12, 13, 14, 15], [0, 1, 2, 3, 4, 5, 6, 7, 8, 9, 10, 11, 12, 13, 14, 15, 16, 17], [0, 1, 2, 3, 4, 5, 6, 7, 8, 9, 10, 11, 12, 13, 14, 15], [0, 1, 2, 3, 4, 5, 6, 7, 8, 9, 10, 11, 12, 13, 14, 15], [0, 1, 2, 3, 4, 5, 6, 7, 8, 9, 10, 11, 12, 13, 14, 15, 16, 17, 18, 19, 20], [0, 1, 2, 3, 4, 5, 6, 7, 8, 9, 10, 11, 12, 13, 14, 15, 16, 17, 18, 19, 20, 21], [0, 1, 2, 3, 4, 5, 6, 7, 8, 9, 10, 11, 12, 13, 14, 15, 16, 17, 18, 19, 20, 21, 22], [0, 1, 2, 3, 4, 5, 6, 7, 8, 9, 10, 11, 12, 13, 14, 15, 16, 17, 18, 19, 20, 21, 22, 23], [0, 1, 2, 3, 4, 5, 6, 7, 8, 9, 10, 11, 12, 13, 14, 15, 16, 17, 18, 19, 20, 21, 22, 23, 24], [0, 1, 2, 3, 4, 5, 6, 7, 8, 9, 10, 11, 12, 13, 14, 15, 16, 17, 18, 19, 20, 21, 22, 23, 24, 25], [0, 1, 2, 3, 4, 5, 6, 7, 8, 9, 10, 11, 12, 13, 14, 15, 16, 17, 18, 19, 20, 21, 22, 23, 24], [0, 1, 2, 3, 4, 5, 6, 7, 8, 9, 10, 11, 12, 13, 14, 15, 16, 17, 18, 19, 20, 21, 22, 23, 24, 25, 26, 27], [0, 1, 2, 3, 4, 5, 6, 7, 8, 9, 10, 11, 12, 13, 14, 15, 16, 17, 18, 19, 20, 21, 22, 23, 24, 25, 26, 27, 28], [0, 1, 2, 3, 4, 5, 6, 7, 8, 9, 10, 11, 12, 13, 14, 15, 16, 17, 18, 19, 20, 21, 22, 23, 24, 25, 26, 27, 28, 29], [0, 1, 2, 3, 4, 5, 6, 7, 8, 9, 10, 11, 12, 13, 14, 15, 16, 17, 18, 19, 20, 21, 22, 23, 24, 25, 26, 27, 28, 29, 30], [0, 1, 2, 3, 4, 5, 6, 7, 8, 9, 10, 11, 12, 13, 14, 15, 16, 17, 18, 19, 20, 21, 22, 23, 24, 25, 26, 27, 28, 29, 30, 31], [0, 1, 2, 3, 4, 5, 6, 7, 8, 9, 10, 11, 12, 13, 14, 15, 16, 17, 18, 19, 20, 21, 22, 23, 24, 25, 26, 27, 28, 29, 30, 31, 32], [0, 1, 2, 3, 4, 5, 6, 7, 8, 9, 10, 11, 12, 13, 14, 15, 16, 17, 18, 19, 20, 21, 22, 23, 24, 25, 26, 27, 28, 29, 30, 31], [0, 1, 2, 3, 4, 5, 6, 7, 8, 9, 10, 11, 12, 13, 14, 15, 16, 17, 18, 19, 20, 21, 22, 23, 24, 25, 26, 27, 28, 29, 30, 31, 32, 33, 34], [0, 1, 2, 3, 4, 5, 6, 7, 8, 9, 10, 11, 12, 13, 14, 15, 16, 17, 18, 19, 20, 21, 22, 23, 24, 25, 26, 27, 28, 29, 30, 31, 32, 33, 34, 35], [0, 1, 2, 3, 4, 5, 6, 7, 8, 9, 10, 11, 12, 13, 14, 15, 16, 17, 18, 19, 20, 21, 22, 23, 24, 25, 26, 27, 28, 29, 30, 31, 32, 33, 34, 35, 36], [0, 1, 2, 3, 4, 5, 6, 7, 8, 9, 10, 11, 12, 13, 14, 15, 16, 17, 18, 19, 20, 21, 22, 23, 24, 25, 26, 27, 28, 29, 30, 31, 32, 33, 34, 35, 36, 37], [0, 1, 2, 3, 4, 5, 6, 7, 8, 9, 10, 11, 12, 13, 14, 15, 16, 17, 18, 19, 20, 21, 22, 23, 24, 25, 26, 27, 28, 29, 30, 31, 32, 33, 34, 35, 36, 37, 38], [0, 1, 2, 3, 4, 5, 6, 7, 8, 9, 10, 11, 12, 13, 14, 15, 16, 17, 18, 19, 20, 21, 22, 23, 24, 25, 26, 27, 28, 29, 30, 31, 32, 33, 34, 35, 36, 37, 38, 39], [0, 1, 2, 3, 4, 5, 6, 7, 8, 9, 10, 11, 12, 13, 14, 15, 16, 17, 18, 19, 20, 21, 22, 23, 24, 25, 26, 27, 28, 29, 30, 31, 32, 33, 34, 35, 36, 37, 38], [0, 1, 2, 3, 4, 5, 6, 7, 8, 9, 10, 11, 12, 13, 14, 15, 16, 17, 18, 19, 20, 21, 22, 23, 24, 25, 26, 27, 28, 29, 30, 31, 32, 33, 34, 35, 36, 37, 38, 39, 40, 41], [0, 1, 2, 3, 4, 5, 6, 7, 8, 9, 10, 11, 12, 13, 14, 15, 16, 17, 18, 19, 20, 21, 22, 23, 24, 25, 26, 27, 28, 29, 30, 31, 32, 33, 34, 35, 36, 37, 38, 39, 40, 41, 42], [0, 1, 2, 3, 4, 5, 6, 7, 8, 9, 10, 11, 12, 13, 14, 15, 16, 17, 18, 19, 20, 21, 22, 23, 24, 25, 26, 27, 28, 29, 30, 31, 32, 33, 34, 35, 36, 37, 38, 39, 40, 41, 42, 43], [0, 1, 2, 3, 4, 5, 6, 7, 8, 9, 10, 11, 12, 13, 14, 15, 16, 17, 18, 19, 20, 21, 22, 23, 24, 25, 26, 27, 28, 29, 30, 31, 32, 33, 34, 35, 36, 37, 38, 39, 40, 41, 42, 43, 44]] [[], [0], [1], [1, 2], [1], [1, 4], [1, 3, 5], [1, 6], [7], [8], [8, 9], [8], [8, 11], [8, 10, 12], [8, 13], [14], [15], [15], [15, 16, 17], [15], [15], [15, 19, 20], [15, 18, 21], [15, 22], [23], [24], [24, 25], [24], [24, 27], [24, 26, 28], [24, 29], [30], [31], [31, 32], [31], [31, 34], [31, 33, 35], [31, 36], [37], [38], [38, 39], [38], [38, 41], [38, 40, 42], [38, 43], [44]] [1, 2, 5] (by kernel_rfl) (by kernel_rfl) rfl ?_
  refine K.DW.det rfl (fun vs => K.e_move rfl) ?_
  refine K.DW.det rfl (fun vs => K.e_move rfl) ?_
  first | (refine K.DW.want (fun _ => rfl) ?_; first | refine K.DW.det rfl (fun vs => K.e_loads Try.isAgg23 Try.sizeOf23 rfl rfl) ?_) | refine K.DW.skip (fun _ => rfl) ?_
  first | (refine K.DW.want (fun _ => rfl) ?_; first | refine K.DW.det rfl (fun vs => K.e_call1 Try.call9 rfl (fun w hT => right_any _ _ _ w)) ?_) | refine K.DW.skip (fun _ => rfl) ?_
  first | (refine K.DW.want (fun _ => rfl) ?_; first | refine K.DW.det rfl (fun vs => K.e_loads Try.isAgg23 Try.sizeOf23 rfl rfl) ?_) | refine K.DW.skip (fun _ => rfl) ?_
  first | (refine K.DW.want (fun _ => rfl) ?_; first | refine K.DW.det rfl (fun vs => K.e_call1 Try.call10 rfl (fun w hT => rright_any _ _ _ w)) ?_) | refine K.DW.skip (fun _ => rfl) ?_
  first | (refine K.DW.want (fun _ => rfl) ?_; first | refine K.DW.det rfl (fun vs => (K.e_eqb Try.underlying4 rfl rfl).cast_bool (b := true) (by first | rfl | simp [*])) ?_ | refine K.DW.det rfl (fun vs => (K.e_eqb Try.underlying4 rfl rfl).cast_bool (b := false) (by first | rfl | simp [*])) ?_ | refine K.DW.det rfl (fun vs => K.e_eqb Try.underlying4 rfl rfl) ?_) | refine K.DW.skip (fun _ => rfl) ?_
  first | refine K.DW.det rfl (fun vs => K.e_pick_t rfl rfl) ?_ | refine K.DW.det rfl (fun vs => K.e_pick_f rfl rfl) ?_
  refine K.DW.det rfl (fun vs => K.e_move rfl) ?_
  first | (refine K.DW.want (fun _ => rfl) ?_; first | refine K.DW.det rfl (fun vs => K.e_loads Try.isAgg23 Try.sizeOf23 rfl rfl) ?_) | refine K.DW.skip (fun _ => rfl) ?_
  first | (refine K.DW.want (fun _ => rfl) ?_; first | refine K.DW.det rfl (fun vs => K.e_call1 Try.call11 rfl (fun w hT => size_any _ _ _ w)) ?_) | refine K.DW.skip (fun _ => rfl) ?_
  first | (refine K.DW.want (fun _ => rfl) ?_; first | refine K.DW.det rfl (fun vs => K.e_loads Try.isAgg23 Try.sizeOf23 rfl rfl) ?_) | refine K.DW.skip (fun _ => rfl) ?_
  first | (refine K.DW.want (fun _ => rfl) ?_; first | refine K.DW.det rfl (fun vs => K.e_call1 Try.call12 rfl (fun w hT => rsize_any _ _ _ w)) ?_) | refine K.DW.skip (fun _ => rfl) ?_
  first | (refine K.DW.want (fun _ => rfl) ?_; first | refine K.DW.det rfl (fun vs => (K.e_eq rfl rfl).yes (by first | omega | assumption | decide +kernel)) ?_ | refine K.DW.det rfl (fun vs => (K.e_eq rfl rfl).no (by first | omega | assumption | decide +kernel)) ?_ | refine K.DW.det rfl (fun vs => K.e_eq rfl rfl) ?_) | refine K.DW.skip (fun _ => rfl) ?_
  first | refine K.DW.det rfl (fun vs => K.e_pick_t rfl rfl) ?_ | refine K.DW.det rfl (fun vs => K.e_pick_f rfl rfl) ?_
  refine K.DW.det rfl (fun vs => K.e_move rfl) ?_
  first | (refine K.DW.want (fun _ => rfl) ?_; first | refine K.DW.det rfl (fun vs => K.e_loads Try.isAgg23 Try.sizeOf23 rfl rfl) ?_) | refine K.DW.skip (fun _ => rfl) ?_
  first | (refine K.DW.want (fun _ => rfl) ?_; first | refine K.DW.det rfl (fun vs => K.e_move rfl) ?_) | refine K.DW.skip (fun _ => rfl) ?_
  first | (refine K.DW.want (fun _ => rfl) ?_; first | refine K.DW.det rfl (fun vs => K.e_call1 Try.call13 rfl (fun w hT => first_any _ _ _ _ w (by first | assumption | exact ⟨by omega, by omega⟩))) ?_) | refine K.DW.skip (fun _ => rfl) ?_
  first | (refine K.DW.want (fun _ => rfl) ?_; first | refine K.DW.det rfl (fun vs => K.e_loads Try.isAgg23 Try.sizeOf23 rfl rfl) ?_) | refine K.DW.skip (fun _ => rfl) ?_
  first | (refine K.DW.want (fun _ => rfl) ?_; first | refine K.DW.det rfl (fun vs => K.e_move rfl) ?_) | refine K.DW.skip (fun _ => rfl) ?_
  first | (refine K.DW.want (fun _ => rfl) ?_; first | refine K.DW.det rfl (fun vs => K.e_call1 Try.call14 rfl (fun w hT => rfirst_any _ _ _ _ w)) ?_) | refine K.DW.skip (fun _ => rfl) ?_
  first | (refine K.DW.want (fun _ => rfl) ?_; first | refine K.DW.det rfl (fun vs => (K.e_eq rfl rfl).yes (by first | omega | assumption | decide +kernel)) ?_ | refine K.DW.det rfl (fun vs => (K.e_eq rfl rfl).no (by first | omega | assumption | decide +kernel)) ?_ | refine K.DW.det rfl (fun vs => K.e_eq rfl rfl) ?_) | refine K.DW.skip (fun _ => rfl) ?_
  first | refine K.DW.det rfl (fun vs => K.e_pick_t rfl rfl) ?_ | refine K.DW.det rfl (fun vs => K.e_pick_f rfl rfl) ?_
  refine K.DW.det rfl (fun vs => K.e_move rfl) ?_
  first | (refine K.DW.want (fun _ => rfl) ?_; first | refine K.DW.det rfl (fun vs => K.e_loads Try.isAgg23 Try.sizeOf23 rfl rfl) ?_) | refine K.DW.skip (fun _ => rfl) ?_
  first | (refine K.DW.want (fun _ => rfl) ?_; first | refine K.DW.det rfl (fun vs => K.e_call1 Try.call15 rfl (fun w hT => groom_any _ _ _ w)) ?_) | refine K.DW.skip (fun _ => rfl) ?_
  first | (refine K.DW.want (fun _ => rfl) ?_; first | refine K.DW.det rfl (fun vs => K.e_loads Try.isAgg23 Try.sizeOf23 rfl rfl) ?_) | refine K.DW.skip (fun _ => rfl) ?_
  first | (refine K.DW.want (fun _ => rfl) ?_; first | refine K.DW.det rfl (fun vs => K.e_call1 Try.call16 rfl (fun w hT => rgroom_any _ _ _ w)) ?_) | refine K.DW.skip (fun _ => rfl) ?_
  first | (refine K.DW.want (fun _ => rfl) ?_; first | refine K.DW.det rfl (fun vs => (K.e_eq rfl rfl).yes (by first | omega | assumption | decide +kernel)) ?_ | refine K.DW.det rfl (fun vs => (K.e_eq rfl rfl).no (by first | omega | assumption | decide +kernel)) ?_ | refine K.DW.det rfl (fun vs => K.e_eq rfl rfl) ?_) | refine K.DW.skip (fun _ => rfl) ?_
  first | refine K.DW.det rfl (fun vs => K.e_pick_t rfl rfl) ?_ | refine K.DW.det rfl (fun vs => K.e_pick_f rfl rfl) ?_
  refine K.DW.det rfl (fun vs => K.e_move rfl) ?_
  first | (refine K.DW.want (fun _ => rfl) ?_; first | refine K.DW.det rfl (fun vs => K.e_loads Try.isAgg23 Try.sizeOf23 rfl rfl) ?_) | refine K.DW.skip (fun _ => rfl) ?_
  first | (refine K.DW.want (fun _ => rfl) ?_; first | refine K.DW.det rfl (fun vs => K.e_call1 Try.call17 rfl (fun w hT => budget_any _ _ _ w)) ?_) | refine K.DW.skip (fun _ => rfl) ?_
  first | (refine K.DW.want (fun _ => rfl) ?_; first | refine K.DW.det rfl (fun vs => K.e_loads Try.isAgg23 Try.sizeOf23 rfl rfl) ?_) | refine K.DW.skip (fun _ => rfl) ?_
  first | (refine K.DW.want (fun _ => rfl) ?_; first | refine K.DW.det rfl (fun vs => K.e_call1 Try.call18 rfl (fun w hT => rbudget_any _ _ _ w)) ?_) | refine K.DW.skip (fun _ => rfl) ?_
  first | (refine K.DW.want (fun _ => rfl) ?_; first | refine K.DW.det rfl (fun vs => (K.e_eq rfl rfl).yes (by first | omega | assumption | decide +kernel)) ?_ | refine K.DW.det rfl (fun vs => (K.e_eq rfl rfl).no (by first | omega | assumption | decide +kernel)) ?_ | refine K.DW.det rfl (fun vs => K.e_eq rfl rfl) ?_) | refine K.DW.skip (fun _ => rfl) ?_
  first | refine K.DW.det rfl (fun vs => K.e_pick_t rfl rfl) ?_ | refine K.DW.det rfl (fun vs => K.e_pick_f rfl rfl) ?_
  refine K.DW.det rfl (fun vs => K.e_move rfl) ?_
  first | (refine K.DW.want (fun _ => rfl) ?_; first | refine K.DW.det rfl (fun vs => K.e_loads Try.isAgg23 Try.sizeOf23 rfl rfl) ?_) | refine K.DW.skip (fun _ => rfl) ?_
  first | (refine K.DW.want (fun _ => rfl) ?_; first | refine K.DW.det rfl (fun vs => K.e_call1 Try.call20 rfl (fun w hT => blank_no a b c w hr)) ?_) | refine K.DW.skip (fun _ => rfl) ?_
  first | (refine K.DW.want (fun _ => rfl) ?_; first | refine K.DW.det rfl (fun vs => K.e_loads Try.isAgg23 Try.sizeOf23 rfl rfl) ?_) | refine K.DW.skip (fun _ => rfl) ?_
  first | (refine K.DW.want (fun _ => rfl) ?_; first | refine K.DW.det rfl (fun vs => K.e_call1 Try.call21 rfl (fun w hT => rblank_no a b c w hr)) ?_) | refine K.DW.skip (fun _ => rfl) ?_
  first | (refine K.DW.want (fun _ => rfl) ?_; first | refine K.DW.det rfl (fun vs => (K.e_call1 Try.call19 rfl (fun w hT => same_any 0 0 0 0 none none 0 0 0 0 [] [] w (Sl.nil w 2) (Sl.nil w 2) (by omega))).cast_bool (b := true) (by simp)) ?_) | refine K.DW.skip (fun _ => rfl) ?_
  first | refine K.DW.det rfl (fun vs => K.e_pick_t rfl rfl) ?_ | refine K.DW.det rfl (fun vs => K.e_pick_f rfl rfl) ?_
  refine K.DW.det rfl (fun vs => K.e_assign rfl) ?_
  refine K.DW.fin0 rfl (fun vs => ?_)
  refine K.GL.keep [4] rfl ?_
  clear vs
  refine K.GL.nil ?_
  refine K.GQ.go ?_
  refine K.GC.ret ?_
  refine K.GQ.ret1 Try.results3 rfl (fun w hT => ?_)
  exact ⟨rfl, hT.nil⟩
theorem same_new (b1 b2 n : Nat) (w : World) (h1 : w.heap[b1]? = some (.cells (zeros [.int .i64 0, .int .i64 0] n).toArray 45 (0, 0))) (h2 : w.heap[b2]? = some (.cells (zeros [.int .i64 0, .int .i64 0] n).toArray 45 (0, 0))) (hn : n ≤ 8) :
    Calls Try.prog 19 #[tabV b1 n, tabV b2 n] w fun e w' => e = .returned (.bool true) ∧ Tr w [] w' [] := by
  have hz : (zeros [.int .i64 0, .int .i64 0] n).length = n * 2 := by rw [zeros_length]; rfl
  have s1 := Sl.of_block (k := 2) h1 hz
  have s2 := Sl.of_block (k := 2) h2 hz
  rw [zeros_exts] at s1 s2
  exact (same_any 1 (-1) 1 (-1) _ _ n n n n _ _ w s1 s2 (by omega)).mono fun e w' ⟨he, ht⟩ => ⟨by rw [he]; simp, ht⟩

/- turntable/turntablelaw17.GeomTells -/
set_option maxHeartbeats 1000000 in
set_option maxRecDepth 100000 in
theorem tells_yes (a b c x : Int) (w : World) (hi : I64 a) (hr : rightB a b c = true) :
    Calls Try.prog 3 #[.agg #[.int .i64 a, .int .i64 b, .int .i64 c], .int .i64 x] w fun e w' => e = .returned (.bool true) ∧ Tr w [] w' [] := by
  have hb := (right_iff a b c).1 hr
  refine K.enter0 (args := [_, _]) Try.func3 rfl Try.ntmps3 rfl ?_
  refine K.GC.seq ?_
  refine K.GC.region ?_
  refine K.GL.box rfl rfl rfl (fun b2 => ?_)
  refine K.GL.det (K.e_assign rfl) rfl ?_
  refine K.GL.nil ?_
  refine K.GQ.go ?_
  refine K.GC.seq ?_
  refine K.GC.region ?_
  refine K.GL.det (K.e_call1 Try.call8 rfl (fun w hT => head_any w)) rfl ?_
  refine K.GL.det (K.e_assign rfl) rfl ?_
  refine K.GL.nil ?_
  refine K.GQ.go ?_
  refine K.GC.seq ?_
  refine K.GC.drawn 46 [[], [0], [0, 1], [0, 1, 2], [0, 1], [0, 1, 2, 3, 4], [0, 1, 2, 3, 4, 5], [0, 1, 2, 3, 4, 5, 6], [0, 1, 2, 3, 4, 5, 6, 7], [0, 1, 2, 3, 4, 5, 6, 7, 8], [0, 1, 2, 3, 4, 5, 6, 7, 8, 9], [0, 1, 2, 3, 4, 5, 6, 7, 8], [0, 1, 2, 3, 4, 5, 6, 7, 8, 9, 10, 11], [0, 1, 2, 3, 4, 5, 6, 7, 8, 9, 10, 11, 12], [0, 1, 2, 3, 4, 5, 6, 7, 8, 9, 10, 11, 12, 13], [0, 1, 2, 3, 4, 5, 6, 7, 8, 9, 10, 11, 12, 13, 14], [0, 1, 2, 3, 4, 5, 6, 7, 8, 9, 10, 11, 12, 13, 14, 15], [0, 1, 2, 3, 4, 5, 6, 7, 8, 9, 10, 11, 12, 13, 14, 15], [0, 1, 2, 3, 4, 5, 6, 7, 8, 9, 10, 11, 12, 13, 14, 15, 16, 17], [0, 1, 2, 3, 4, 5, 6, 7, 8, 9, 10, 11, 12, 13, 14, 15], [0, 1, 2, 3, 4, 5, 6, 7, 8, 9, 10, 11, 12, 13, 14, 15], [0, 1, 2, 3, 4, 5, 6, 7, 8, 9, 10, 11, 12, 13, 14, 15, 16, 17, 18, 19, 20], [0, 1, 2, 3, 4, 5, 6, 7, 8, 9, 10, 11, 12, 13, 14, 15, 16, 17, 18, 19, 20, 21], [0, 1, 2, 3, 4, 5, 6, 7, 8, 9, 10, 11, 12, 13, 14, 15, 16, 17, 18, 19, 20, 21, 22], [0, 1, 2, 3, 4, 5, 6, 7, 8, 9, 10, 11, 12, 13, 14, 15, 16, 17, 18, 19, 20, 21, 22, 23], [0, 1, 2, 3, 4, 5, 6, 7, 8, 9, 10, 11, 12, 13, 14, 15, 16, 17, 18, 19, 20, 21, 22, 23, 24], [0, 1, 2, 3, 4, 5, 6, 7, 8, 9, 10, 11, 12, 13, 14, 15, 16, 17, 18, 19, 20, 21, 22, 23, 24, 25], [0, 1, 2, 3, 4, 5, 6, 7, 8, 9, 10, 11, 12, 13, 14, 15, 16, 17, 18, 19, 20, 21, 22, 23, 24], [0, 1, 2, 3, 4, 5, 6, 7, 8, 9, 10, 11, 12, 13, 14, 15, 16, 17, 18, 19, 20, 21, 22, 23, 24, 25, 26, 27], [0, 1, 2, 3, 4, 5, 6, 7, 8, 9, 10, 11, 12, 13, 14, 15, 16, 17, 18, 19, 20, 21, 22, 23, 24, 25, 26, 27, 28], [0, 1, 2, 3, 4, 5, 6, 7, 8, 9, 10, 11, 12, 13, 14, 15, 16, 17, 18, 19, 20, 21, 22, 23, 24, 25, 26, 27, 28, 29], [0, 1, 2, 3, 4, 5, 6, 7, 8, 9, 10, 11, 12, 13, 14, 15, 16, 17, 18, 19, 20, 21, 22, 23, 24, 25, 26, 27, 28, 29, 30], [0, 1, 2, 3, 4, 5, 6, 7, 8, 9, 10, 11, 12, 13, 14, 15, 16, 17, 18, 19, 20, 21, 22, 23, 24, 25, 26, 27, 28, 29, 30, 31], [0, 1, 2, 3, 4, 5, 6, 7, 8, 9, 10, 11, 12, 13, 14, 15, 16, 17, 18, 19, 20, 21, 22, 23, 24, 25, 26, 27, 28, 29, 30, 31, 32], [0, 1, 2, 3, 4, 5, 6, 7, 8, 9, 10, 11, 12, 13, 14, 15, 16, 17, 18, 19, 20, 21, 22, 23, 24, 25, 26, 27, 28, 29, 30, 31], [0, 1, 2, 3, 4, 5, 6, 7, 8, 9, 10, 11, 12, 13, 14, 15, 16, 17, 18, 19, 20, 21, 22, 23, 24, 25, 26, 27, 28, 29, 30, 31, 32, 33, 34], [0, 1, 2, 3, 4, 5, 6, 7, 8, 9, 10, 11, 12, 13, 14, 15, 16, 17, 18, 19, 20, 21, 22, 23, 24, 25, 26, 27, 28, 29, 30, 31, 32, 33, 34, 35], [0, 1, 2, 3, 4, 5, 6, 7, 8, 9, 10, 11, 12, 13, 14, 15, 16, 17, 18, 19, 20, 21, 22, 23, 24, 25, 26, 27, 28, 29, 30, 31, 32, 33, 34, 35, 36], [0, 1, 2, 3, 4, 5, 6, 7, 8, 9, 10, 11, 12, 13, 14, 15, 16, 17, 18, 19, 20, 21, 22, 23, 24, 25, 26, 27, 28, 29, 30, 31, 32, 33, 34, 35, 36, 37], [0, 1, 2, 3, 4, 5, 6, 7, 8, 9, 10, 11, 12, 13, 14, 15, 16, 17, 18, 19, 20, 21, 22, 23, 24, 25, 26, 27, 28, 29, 30, 31, 32, 33, 34, 35, 36, 37, 38], [0, 1, 2, 3, 4, 5, 6, 7, 8, 9, 10, 11, 12, 13, 14, 15, 16, 17, 18, 19, 20, 21, 22, 23, 24, 25, 26, 27, 28, 29, 30, 31, 32, 33, 34, 35, 36, 37, 38, 39], [0, 1, 2, 3, 4, 5, 6, 7, 8, 9, 10, 11, 12, 13, 14, 15, 16, 17, 18, 19, 20, 21, 22, 23, 24, 25, 26, 27, 28, 29, 30, 31, 32, 33, 34, 35, 36, 37, 38], [0, 1, 2, 3, 4, 5, 6, 7, 8, 9, 10, 11, 12, 13, 14, 15, 16, 17, 18, 19, 20, 21, 22, 23, 24, 25, 26, 27, 28, 29, 30, 31, 32, 33, 34, 35, 36, 37, 38, 39, 40, 41], [0, 1, 2, 3, 4, 5, 6, 7, 8, 9, 10, 11, 12, 13, 14, 15, 16, 17, 18, 19, 20, 21, 22, 23, 24, 25, 26, 27, 28, 29, 30, 31, 32, 33, 34, 35, 36, 37, 38, 39, 40, 41, 42], [0, 1, 2, 3, 4, 5, 6, 7, 8, 9, 10, 11, 12, 13, 14, 15, 16, 17, 18, 19, 20, 21, 22, 23, 24, 25, 26, 27, 28, 29, 30, 31, 32, 33, 34, 35, 36, 37, 38, 39, 40, 41, 42, 43], [0, 1, 2, 3, 4, 5, 6, 7, 8, 9, 10, 11, 12, 13, 14, 15, 16, 17, 18, 19, 20, 21, 22, 23, 24, 25, 26, 27, 28, 29, 30, 31, 32, 33, 34, 35, 36, 37, 38, 39, 40, 41, 42, 43, 44]] [[], [0], [1], [1, 2], [1], [1, 4], [1, 3, 5], [1, 6], [7], [8], [8, 9], [8], [8, 11], [8, 10, 12], [8, 13], [14], [15], [15], [15, 16, 17], [15], [15], [15, 19, 20], [15, 18, 21], [15, 22], [23], [24], [24, 25], [24], [24, 27], [24, 26, 28], [24, 29], [30], [31], [31, 32], [31], [31, 34], [31, 33, 35], [31, 36], [37], [38], [38, 39], [38], [38, 41], [38, 40, 42], [38, 43], [44]] [1, 2, 5] (by kernel_rfl) (by kernel_rfl) rfl ?_
  refine K.DW.det rfl (fun vs => K.e_move rfl) ?_
  refine K.DW.det rfl (fun vs => K.e_move rfl) ?_
  first | (refine K.DW.want (fun _ => rfl) ?_; first | refine K.DW.det rfl (fun vs => K.e_loads Try.isAgg23 Try.sizeOf23 rfl rfl) ?_) | refine K.DW.skip (fun _ => rfl) ?_
  first | (refine K.DW.want (fun _ => rfl) ?_; first | refine K.DW.det rfl (fun vs => K.e_call1 Try.call9 rfl (fun w hT => right_any _ _ _ w)) ?_) | refine K.DW.skip (fun _ => rfl) ?_
  first | (refine K.DW.want (fun _ => rfl) ?_; first | refine K.DW.det rfl (fun vs => K.e_loads Try.isAgg23 Try.sizeOf23 rfl rfl) ?_) | refine K.DW.skip (fun _ => rfl) ?_
  first | (refine K.DW.want (fun _ => rfl) ?_; first | refine K.DW.det rfl (fun vs => K.e_call1 Try.call10 rfl (fun w hT => rright_any _ _ _ w)) ?_) | refine K.DW.skip (fun _ => rfl) ?_
  first | (refine K.DW.want (fun _ => rfl) ?_; first | refine K.DW.det rfl (fun vs => (K.e_eqb Try.underlying4 rfl rfl).cast_bool (b := true) (by first | rfl | simp [*])) ?_ | refine K.DW.det rfl (fun vs => (K.e_eqb Try.underlying4 rfl rfl).cast_bool (b := false) (by first | rfl | simp [*])) ?_ | refine K.DW.det rfl (fun vs => K.e_eqb Try.underlying4 rfl rfl) ?_) | refine K.DW.skip (fun _ => rfl) ?_
  first | refine K.DW.det rfl (fun vs => K.e_pick_t rfl rfl) ?_ | refine K.DW.det rfl (fun vs => K.e_pick_f rfl rfl) ?_
  refine K.DW.det rfl (fun vs => K.e_move rfl) ?_
  first | (refine K.DW.want (fun _ => rfl) ?_; first | refine K.DW.det rfl (fun vs => K.e_loads Try.isAgg23 Try.sizeOf23 rfl rfl) ?_) | refine K.DW.skip (fun _ => rfl) ?_
  first | (refine K.DW.want (fun _ => rfl) ?_; first | refine K.DW.det rfl (fun vs => K.e_call1 Try.call11 rfl (fun w hT => size_any _ _ _ w)) ?_) | refine K.DW.skip (fun _ => rfl) ?_
  first | (refine K.DW.want (fun _ => rfl) ?_; first | refine K.DW.det rfl (fun vs => K.e_loads Try.isAgg23 Try.sizeOf23 rfl rfl) ?_) | refine K.DW.skip (fun _ => rfl) ?_
  first | (refine K.DW.want (fun _ => rfl) ?_; first | refine K.DW.det rfl (fun vs => K.e_call1 Try.call12 rfl (fun w hT => rsize_any _ _ _ w)) ?_) | refine K.DW.skip (fun _ => rfl) ?_
  first | (refine K.DW.want (fun _ => rfl) ?_; first | refine K.DW.det rfl (fun vs => (K.e_eq rfl rfl).yes (by first | omega | assumption | decide +kernel)) ?_ | refine K.DW.det rfl (fun vs => (K.e_eq rfl rfl).no (by first | omega | assumption | decide +kernel)) ?_ | refine K.DW.det rfl (fun vs => K.e_eq rfl rfl) ?_) | refine K.DW.skip (fun _ => rfl) ?_
  first | refine K.DW.det rfl (fun vs => K.e_pick_t rfl rfl) ?_ | refine K.DW.det rfl (fun vs => K.e_pick_f rfl rfl) ?_
  refine K.DW.det rfl (fun vs => K.e_move rfl) ?_
  first | (refine K.DW.want (fun _ => rfl) ?_; first | refine K.DW.det rfl (fun vs => K.e_loads Try.isAgg23 Try.sizeOf23 rfl rfl) ?_) | refine K.DW.skip (fun _ => rfl) ?_
  first | (refine K.DW.want (fun _ => rfl) ?_; first | refine K.DW.det rfl (fun vs => K.e_move rfl) ?_) | refine K.DW.skip (fun _ => rfl) ?_
  first | (refine K.DW.want (fun _ => rfl) ?_; first | refine K.DW.det rfl (fun vs => K.e_call1 Try.call13 rfl (fun w hT => first_any _ _ _ _ w (by first | assumption | exact ⟨by omega, by omega⟩))) ?_) | refine K.DW.skip (fun _ => rfl) ?_
  first | (refine K.DW.want (fun _ => rfl) ?_; first | refine K.DW.det rfl (fun vs => K.e_loads Try.isAgg23 Try.sizeOf23 rfl rfl) ?_) | refine K.DW.skip (fun _ => rfl) ?_
  first | (refine K.DW.want (fun _ => rfl) ?_; first | refine K.DW.det rfl (fun vs => K.e_move rfl) ?_) | refine K.DW.skip (fun _ => rfl) ?_
  first | (refine K.DW.want (fun _ => rfl) ?_; first | refine K.DW.det rfl (fun vs => K.e_call1 Try.call14 rfl (fun w hT => rfirst_any _ _ _ _ w)) ?_) | refine K.DW.skip (fun _ => rfl) ?_
  first | (refine K.DW.want (fun _ => rfl) ?_; first | refine K.DW.det rfl (fun vs => (K.e_eq rfl rfl).yes (by first | omega | assumption | decide +kernel)) ?_ | refine K.DW.det rfl (fun vs => (K.e_eq rfl rfl).no (by first | omega | assumption | decide +kernel)) ?_ | refine K.DW.det rfl (fun vs => K.e_eq rfl rfl) ?_) | refine K.DW.skip (fun _ => rfl) ?_
  first | refine K.DW.det rfl (fun vs => K.e_pick_t rfl rfl) ?_ | refine K.DW.det rfl (fun vs => K.e_pick_f rfl rfl) ?_
  refine K.DW.det rfl (fun vs => K.e_move rfl) ?_
  first | (refine K.DW.want (fun _ => rfl) ?_; first | refine K.DW.det rfl (fun vs => K.e_loads Try.isAgg23 Try.sizeOf23 rfl rfl) ?_) | refine K.DW.skip (fun _ => rfl) ?_
  first | (refine K.DW.want (fun _ => rfl) ?_; first | refine K.DW.det rfl (fun vs => K.e_call1 Try.call15 rfl (fun w hT => groom_any _ _ _ w)) ?_) | refine K.DW.skip (fun _ => rfl) ?_
  first | (refine K.DW.want (fun _ => rfl) ?_; first | refine K.DW.det rfl (fun vs => K.e_loads Try.isAgg23 Try.sizeOf23 rfl rfl) ?_) | refine K.DW.skip (fun _ => rfl) ?_
  first | (refine K.DW.want (fun _ => rfl) ?_; first | refine K.DW.det rfl (fun vs => K.e_call1 Try.call16 rfl (fun w hT => rgroom_any _ _ _ w)) ?_) | refine K.DW.skip (fun _ => rfl) ?_
  first | (refine K.DW.want (fun _ => rfl) ?_; first | refine K.DW.det rfl (fun vs => (K.e_eq rfl rfl).yes (by first | omega | assumption | decide +kernel)) ?_ | refine K.DW.det rfl (fun vs => (K.e_eq rfl rfl).no (by first | omega | assumption | decide +kernel)) ?_ | refine K.DW.det rfl (fun vs => K.e_eq rfl rfl) ?_) | refine K.DW.skip (fun _ => rfl) ?_
  first | refine K.DW.det rfl (fun vs => K.e_pick_t rfl rfl) ?_ | refine K.DW.det rfl (fun vs => K.e_pick_f rfl rfl) ?_
  refine K.DW.det rfl (fun vs => K.e_move rfl) ?_
  first | (refine K.DW.want (fun _ => rfl) ?_; first | refine K.DW.det rfl (fun vs => K.e_loads Try.isAgg23 Try.sizeOf23 rfl rfl) ?_) | refine K.DW.skip (fun _ => rfl) ?_
  first | (refine K.DW.want (fun _ => rfl) ?_; first | refine K.DW.det rfl (fun vs => K.e_call1 Try.call17 rfl (fun w hT => budget_any _ _ _ w)) ?_) | refine K.DW.skip (fun _ => rfl) ?_
  first | (refine K.DW.want (fun _ => rfl) ?_; first | refine K.DW.det rfl (fun vs => K.e_loads Try.isAgg23 Try.sizeOf23 rfl rfl) ?_) | refine K.DW.skip (fun _ => rfl) ?_
  first | (refine K.DW.want (fun _ => rfl) ?_; first | refine K.DW.det rfl (fun vs => K.e_call1 Try.call18 rfl (fun w hT => rbudget_any _ _ _ w)) ?_) | refine K.DW.skip (fun _ => rfl) ?_
  first | (refine K.DW.want (fun _ => rfl) ?_; first | refine K.DW.det rfl (fun vs => (K.e_eq rfl rfl).yes (by first | omega | assumption | decide +kernel)) ?_ | refine K.DW.det rfl (fun vs => (K.e_eq rfl rfl).no (by first | omega | assumption | decide +kernel)) ?_ | refine K.DW.det rfl (fun vs => K.e_eq rfl rfl) ?_) | refine K.DW.skip (fun _ => rfl) ?_
  first | refine K.DW.det rfl (fun vs => K.e_pick_t rfl rfl) ?_ | refine K.DW.det rfl (fun vs => K.e_pick_f rfl rfl) ?_
  refine K.DW.det rfl (fun vs => K.e_move rfl) ?_
  first | (refine K.DW.want (fun _ => rfl) ?_; first | refine K.DW.det rfl (fun vs => K.e_loads Try.isAgg23 Try.sizeOf23 rfl rfl) ?_) | refine K.DW.skip (fun _ => rfl) ?_
  refine K.DW.evgO (fun _ => rfl) (fun vs hf => K.e_call Try.call20 rfl (fun w hT => blank_yes a b c w hr)) ?_
  first | (refine K.DW.want (fun _ => rfl) ?_; first | refine K.DW.det rfl (fun vs => K.e_loads Try.isAgg23 Try.sizeOf23 rfl rfl) ?_) | refine K.DW.skip (fun _ => rfl) ?_
  refine K.DW.evgO (fun _ => rfl) (fun vs hf => K.e_call Try.call21 rfl (fun w hT => rblank_yes a b c w hr)) ?_
  refine K.DW.detgO (fun _ => rfl) (fun vs hf => by
        obtain ⟨⟨b1, e1⟩, ⟨b2, e2⟩, _⟩ := hf
        refine K.e_call1 Try.call19 (x := .bool true) (vs := [tabV b1 a.toNat, tabV b2 a.toNat]) (by rw [← e1, ← e2]; rfl) (fun w hT => ?_)
        have r1 := hT.ok _ (List.mem_cons_self)
        have r2 := hT.ok _ (List.mem_cons_of_mem _ List.mem_cons_self)
        rw [e1] at r1
        rw [e2] at r2
        exact same_new b1 b2 a.toNat w r1 r2 (by omega)) ?_
  first | refine K.DW.det rfl (fun vs => K.e_pick_t rfl rfl) ?_ | refine K.DW.det rfl (fun vs => K.e_pick_f rfl rfl) ?_
  refine K.DW.det rfl (fun vs => K.e_assign rfl) ?_
  refine K.DW.fin (fun vs hf => ?_)
  refine K.GL.keep [4] rfl ?_
  skip
  refine K.GL.nil ?_
  refine K.GQ.go ?_
  refine K.GC.ret ?_
  refine K.GQ.ret1 Try.results3 rfl (fun w hT => ?_)
  exact ⟨rfl, hT.nil⟩

set_option maxHeartbeats 1000000 in
set_option maxRecDepth 100000 in
theorem GeomTells_lifted (os : Os) (started : os.Started) (H : Type) (enc : TypeId × Value → H) :
    ReturnsInHanded {} Try.checked os 3 .any (Rows.geomTellsSpec.pre6 enc Try.prog Try.f3 Rows.geomTellsRow.domain false) (Rows.geomTellsSpec.post enc Try.prog Try.f3 false true false false) := by
  refine returnsInHanded_of_change_sized (C := Try.checked) own started (by kernel_rfl) Try.func3
    (ChangeSpec.witness6 (enc := enc) (C := Try.checked) false ⟨#[], #[.agg #[.int .i64 0, .int .i64 0, .int .i64 0], .int .i64 0], []⟩ 8 (by kernel_rfl) (by kernel_rfl) (by kernel_rfl) (by kernel_rfl)) ?_
  intro W base args ds gs before hval0 hW _ hsz0 _
  have hval : ∀ (j : Nat) t v, Try.f3.params[j]? = some t → args[j]? = some v → Value.okWide Try.prog W .any base t v := hval0
  have hsz : (DataW.weightsEach Try.prog (Try.f3.params.toList ++ []) (ds ++ gs)).all (· ≤ reachBytes) = true := hsz0
  have hW' := hW
  obtain ⟨p, q, hA0, hV, hpe, hfz, hnd⟩ := hW
  have hA : DataW.TrodAll enc Try.prog W 0 (fun _ => true) true Try.f3.params.toList args.toList ds p := hA0
  obtain ⟨rfl, rfl⟩ := trodVars_none hV
  rw [Try.params3] at hA hval hsz
  obtain ⟨v0, vs0, d0, ds0, p0, q0, hargs, rfl, rfl, h0, r0⟩ := trodAll_cons hA
  obtain ⟨v1, vs1, d1, ds1, p1, q1, rfl, rfl, rfl, h1, r1⟩ := trodAll_cons r0
  obtain ⟨rfl, rfl, rfl⟩ := trodAll_nil r1
  obtain rfl : args = #[v0, v1] := by cases args; simp_all
  clear hA0 hval0 hsz0 hA hargs
  obtain ⟨c0, c1, c2, y0, y1, y2, m, rfl, rfl, rfl, hy0, hy1, hy2⟩ := open_agg3 Try.underlying23 (by kernel_rfl) cellsGeo (hval 0 23 _ rfl rfl) h0
  obtain ⟨a, e0, rfl, wa⟩ := DataW.trod_int Try.underlying3 hy0
  obtain ⟨b, e1, rfl, wb⟩ := DataW.trod_int Try.underlying3 hy1
  obtain ⟨c, e2, rfl, wc⟩ := DataW.trod_int Try.underlying3 hy2
  simp only [List.cons.injEq, and_true] at e0 e1 e2
  subst e0 e1 e2
  have ia := (bounds_i64 wa)
  obtain ⟨x, rfl, rfl, rfl, wx⟩ := open_int Try.underlying3 (hval 1 3 _ rfl rfl) h1
  have I : I64 a := ⟨by have := bounds_i64 wa; omega, by have := bounds_i64 wa; omega⟩
  have core : Calls Try.prog 3 #[.agg #[.int .i64 a, .int .i64 b, .int .i64 c], .int .i64 x] W fun e W' => e = .returned (.bool true) ∧ Tr W [] W' [] := by
    cases hr : rightB a b c
    · exact tells_no a b c x W I hr
    · exact tells_yes a b c x W I hr
  exact core.mono fun e W' ⟨he, hT⟩ => ⟨_, he, law_post (tb := 4) hW' rfl rfl Try.underlying4 (fun _ => rfl) laidOut (by kernel_rfl) hT.below⟩
theorem GeomTells_holds : Rows.GeomTellsSaid :=
  OpenClaim.holds_of_wide 3 Try.f3 rfl rfl rfl rfl rfl rfl rfl ⟨rfl, rfl, rfl, rfl, rfl⟩ rfl rfl rfl rfl rfl (by kernel_rfl) Try.func3 (by kernel_rfl)
    (of_decide_eq_true (by kernel_rfl)) (by unfold Func.isWrapper; first | (rw [if_pos (by decide +kernel)]; kernel_rfl) | (rw [if_neg (by decide +kernel)]; exact ⟨rfl, rfl⟩))
    (fun os started H enc _ => GeomTells_lifted os started H enc)

end Go.Proofs.Ytjbcnbhndinjhaa
