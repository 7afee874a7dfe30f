/- The live question of the laws of a device is answered as it is to be. -/
import Derived.Test.YtgkdnecjokhkcaaDevL
import Derived.Test.YtgkdnecjokhkcaaKd
namespace Go.Proofs.Ytgkdnecjokhkcaa
open Go Go.K
set_option linter.unusedVariables false
set_option linter.unusedSimpArgs false
attribute [local irreducible] Calls Ev GL GC GQ GR Code.wp

def hd0 : DS := DS.new 4
def hd1 : DS := (hd0.write 1 (secOf 7).1).1
def hd2 : DS := hd1.flush.1
def hd3 : DS := (hd2.write 1 (secOf 8).1).1
def hd4 : DS := (hd3.write 3 (secOf 9).1).1
def hd5 : DS := hd4.setCut 0
def hd6 : DS := (hd5.write 2 (secOf 1).1).1
def hd7 : DS := hd6.boot [false, true] [⟨1, 510, 7⟩]
def hd8 : DS := (hd7.write 0 []).1
theorem hf1 : (hd0.write 1 (secOf 7).1).2 = 0 := by decide +kernel
theorem hf2 : hd1.flush.2 = 0 := by decide +kernel
theorem hf3 : hd4.list = [1, 3] := by decide +kernel
theorem hf4 : (hd5.write 2 (secOf 1).1).2 = 71 := by decide +kernel
theorem hf5 : hd6.down = true := by decide +kernel
theorem hf6 : hd7.read 1 = ((secOf 7).1, 0) := by decide +kernel
theorem hf7 : (hd7.read 3).1.length = 64 ∧ (hd7.read 3).1[62]? = some 9 ∧ (hd7.read 3).1[63]? = some 201 ∧ (hd7.read 3).2 = 0 := by decide +kernel
theorem hf8 : (hd7.write 0 []).2 = 1 := by decide +kernel
theorem hf9 : hd8.done = 4 ∧ hd8.kept.length = 4 ∧ hd8.down = false := by decide +kernel


theorem get_bv {l : Bytes} {j : Nat} {b : UInt8} (h : l[j]? = some b) : (bv l)[j]? = some (.int .u8 (b.toNat : Int)) := by rw [bv_get, h]; rfl
theorem own_at {w0 w : World} {L0 L : List Res} {d b i j n k : Nat} {T : TypeId} {xs : List Value} {g : DG} (hT : Tr w0 L0 w L) (hi : L[i]? = some (cl b T xs)) (hj : L[j]? = some (DevR d g)) (hij : i ≠ j) (hl : xs.length = n * k) : Sl w k (some ⟨b, 0, none⟩) n xs ∧ (0 < n → ¬ (DevR d g).fp (bk (some ⟨b, 0, none⟩))) :=
  ⟨Sl.of_block (hT.ok _ (List.mem_of_getElem? hi)) hl, fun _ hf => hT.disj i j _ _ hij hi hj b rfl hf⟩
theorem own_slice {w0 w : World} {L0 L : List Res} {d b : Nat} {g : DG} {y : Sec} (hT : Tr w0 L0 w (cl b 5 (sv y) :: L)) (hm : DevR d g ∈ L) : Sl w 1 (some ⟨b, 0, none⟩) 64 (bv y.1) ∧ (0 < 64 → ¬ (DevR d g).fp (bk (some ⟨b, 0, none⟩))) :=
  ⟨Sl.of_block (hT.ok _ List.mem_cons_self) (by rw [bv_length, y.2]), fun _ hf => hT.disj.head hm b rfl hf⟩

theorem lay51 : K.layout Try.prog 51 = some ([.int .i64 0, .int .i64 0, .int .u32 0], [(0, 1), (1, 1), (2, 1)]) := by kernel_rfl
theorem mk30 : K.mkOf Try.prog 30 = some (4, [.bool false], 1) := by kernel_rfl
theorem mk31 : K.mkOf Try.prog 31 = some (51, [.int .i64 0, .int .i64 0, .int .u32 0], 24) := by kernel_rfl
theorem mk43 : K.mkOf Try.prog 43 = some (3, [.int .i64 0], 8) := by kernel_rfl
/- turntable/turntablelaw07.head -/
set_option maxHeartbeats 4000000 in
set_option maxRecDepth 100000 in
theorem head_con {w : World} :
    Calls Try.prog 9 #[] w fun e w' => e = .returned (.bool true) ∧ Tr w [] w' [] := by
  refine K.enter0 (args := []) Try.func9 rfl Try.ntmps9 rfl ?_
  refine K.GC.seq ?_
  refine K.GC.region ?_
  refine K.GL.det (K.e_assign rfl) rfl ?_
  refine K.GL.nil ?_
  refine K.GQ.go ?_
  refine K.GC.seq ?_
  refine K.GC.region ?_
  refine gl_new (n := 4) Try.call11 rfl (by omega) rfl (fun d g1 hk1 hv1 => ?_)
  refine K.GL.det (K.e_assign rfl) rfl ?_
  refine K.GL.nil ?_
  refine K.GQ.go ?_
  refine K.GC.seq ?_
  refine K.GC.seq ?_
  refine K.GC.region ?_
  refine K.GL.det (K.e_move rfl) rfl ?_
  refine K.GL.det ((K.e_eqlp Try.underlying25 rfl rfl).cast_bool (b := false) rfl) rfl ?_
  refine K.GL.det (K.e_move rfl) rfl ?_
  first | refine K.GL.splitB 15 rfl (fun h1 => ?_) (fun h1 => ?_) | skip
  all_goals first | exact absurd h1 (by decide) | replace h1 := of_decide_eq_true h1 | replace h1 := of_decide_eq_false h1 | skip
  all_goals
    refine K.GL.want 15 rfl rfl rfl ?_
    refine gl_new0 (n := 0) Try.call11 rfl (by omega) rfl ?_
    first | (refine K.GL.want 15 rfl rfl rfl ?_; first | refine K.GL.det ((K.e_neqp Try.underlying25 rfl rfl).cast_bool (b := false) rfl) rfl ?_) | refine K.GL.skip 15 rfl rfl rfl rfl ?_ | refine K.GL.skipU 15 rfl rfl rfl rfl ?_
    first | refine K.GL.det (K.e_pick_t rfl rfl) rfl ?_ | refine K.GL.det (K.e_pick_f rfl rfl) rfl ?_
    refine K.GL.det (K.e_move rfl) rfl ?_
    first | refine K.GL.splitB 19 rfl (fun h2 => ?_) (fun h2 => ?_) | skip
    all_goals first | exact absurd h2 (by decide) | replace h2 := of_decide_eq_true h2 | replace h2 := of_decide_eq_false h2 | skip
    all_goals
      refine K.GL.want 19 rfl rfl rfl ?_
      refine gl_new0 (n := 4097) Try.call11 rfl (by omega) rfl ?_
      first | (refine K.GL.want 19 rfl rfl rfl ?_; first | refine K.GL.det ((K.e_neqp Try.underlying25 rfl rfl).cast_bool (b := false) rfl) rfl ?_) | refine K.GL.skip 19 rfl rfl rfl rfl ?_ | refine K.GL.skipU 19 rfl rfl rfl rfl ?_
      first | refine K.GL.det (K.e_pick_t rfl rfl) rfl ?_ | refine K.GL.det (K.e_pick_f rfl rfl) rfl ?_
      refine K.GL.nil ?_
      refine K.GQ.go ?_
      refine K.GC.condB rfl (fun h3 => ?_) (fun h3 => ?_)
      · first
        | exact absurd h3 (by decide)
        | try replace h3 := of_decide_eq_true h3
          refine K.GC.seq ?_
          refine K.GC.region ?_
          refine K.GL.det (K.e_assign rfl) rfl ?_
          refine K.GL.nil ?_
          refine K.GQ.go ?_
          refine K.GC.ret ?_
          refine K.GQ.then_ret ?_
          refine K.GQ.ret1 Try.results9 rfl (fun w hT => ?_)
          exact ⟨rfl, hT.nil⟩
      · first
        | exact absurd h3 (by decide)
        | try replace h3 := of_decide_eq_false h3
          refine K.GC.skip ?_
          refine K.GQ.go ?_
          refine K.GC.seq ?_
          refine K.GC.region ?_
          refine K.GL.det (K.e_move rfl) rfl ?_
          refine gl_full (c := 7) Try.call23 rfl rfl (fun b24 => ?_)
          refine gl_write Try.call13 rfl (i := 1) (bs := (secOf 7).1) hk1 (fun w hT => own_slice hT (by simp)) rfl (fun g2 hk2 hv2 => ?_)
          rw [hv1] at hv2
          refine K.GL.det (K.e_assign rfl) rfl ?_
          refine K.GL.nil ?_
          refine K.GQ.go ?_
          refine K.GC.seq ?_
          refine K.GC.region ?_
          refine K.GL.det (K.e_move rfl) rfl ?_
          refine gl_flush Try.call15 rfl hk2 rfl (fun g3 hk3 hv3 => ?_)
          rw [hv2] at hv3
          refine K.GL.det (K.e_assign rfl) rfl ?_
          refine K.GL.nil ?_
          refine K.GQ.go ?_
          refine K.GC.seq ?_
          refine K.GC.region ?_
          refine K.GL.det (K.e_move rfl) rfl ?_
          refine gl_full (c := 8) Try.call23 rfl rfl (fun b29 => ?_)
          refine gl_write Try.call13 rfl (i := 1) (bs := (secOf 8).1) hk3 (fun w hT => own_slice hT (by simp)) rfl (fun g4 hk4 hv4 => ?_)
          rw [hv3] at hv4
          refine K.GL.nil ?_
          refine K.GQ.go ?_
          refine K.GC.seq ?_
          refine K.GC.region ?_
          refine K.GL.det (K.e_move rfl) rfl ?_
          refine gl_full (c := 9) Try.call23 rfl rfl (fun b32 => ?_)
          refine gl_write Try.call13 rfl (i := 3) (bs := (secOf 9).1) hk4 (fun w hT => own_slice hT (by simp)) rfl (fun g5 hk5 hv5 => ?_)
          rw [hv4] at hv5
          refine K.GL.nil ?_
          refine K.GQ.go ?_
          refine K.GC.seq ?_
          refine K.GC.region ?_
          refine K.GL.det (K.e_move rfl) rfl ?_
          refine gl_loose Try.call25 rfl hk5 rfl (fun a35 c35 => ?_)
          refine K.GL.det (K.e_assign rfl) rfl ?_
          refine K.GL.nil ?_
          refine K.GQ.go ?_
          refine K.GC.seq ?_
          refine K.GC.region ?_
          refine K.GL.det (K.e_move rfl) rfl ?_
          refine gl_cut (i := 0) Try.call19 rfl hk5 (by unfold I64; omega) rfl (fun g6 hk6 hv6 u37 => ?_)
          rw [hv5] at hv6
          refine K.GL.nil ?_
          refine K.GQ.go ?_
          refine K.GC.seq ?_
          refine K.GC.region ?_
          refine K.GL.det (K.e_move rfl) rfl ?_
          refine gl_full (c := 1) Try.call23 rfl rfl (fun b39 => ?_)
          refine gl_write Try.call13 rfl (i := 2) (bs := (secOf 1).1) hk6 (fun w hT => own_slice hT (by simp)) rfl (fun g7 hk7 hv7 => ?_)
          rw [hv6] at hv7
          refine K.GL.det (K.e_assign rfl) rfl ?_
          refine K.GL.nil ?_
          refine K.GQ.go ?_
          refine K.GC.seq ?_
          refine K.GC.region ?_
          refine K.GL.det (K.e_move rfl) rfl ?_
          refine K.GL.det (K.e_call1 Try.call27 rfl (fun w hT => down_con (hT.ok _ Pick.mem))) rfl ?_
          refine K.GL.det (K.e_assign rfl) rfl ?_
          refine K.GL.nil ?_
          refine K.GQ.go ?_
          refine K.GC.seq ?_
          refine K.GC.region ?_
          refine K.GL.det (K.e_move rfl) rfl ?_
          refine K.GL.buildSlice mk30 rfl rfl rfl (fun b44 => ?_)
          refine K.GL.det (K.e_build lay51 rfl) rfl ?_
          refine K.GL.buildSlice mk31 rfl rfl rfl (fun b46 => ?_)
          refine gl_boot (ks := [false, true]) (hs := [⟨1, 510, 7⟩]) Try.call21 rfl hk7 (fun w hT => ⟨own_at (i := 1) (j := 2) hT rfl rfl (by decide) rfl, own_at (i := 0) (j := 2) hT rfl rfl (by decide) rfl⟩) (by simp) (by omega) rfl (fun g8 hk8 hv8 u47 => ?_)
          rw [hv7] at hv8
          refine K.GL.nil ?_
          refine K.GQ.go ?_
          refine K.GC.seq ?_
          refine K.GC.region ?_
          refine K.GL.det (K.e_move rfl) rfl ?_
          refine gl_read (i := 1) Try.call17 rfl hk8 rfl (fun a50 c50 => ?_)
          refine K.GL.det (K.e_move rfl) rfl ?_
          refine K.GL.det (K.e_extract rfl rfl) rfl ?_
          refine K.GL.det (K.e_extract rfl rfl) rfl ?_
          refine K.GL.det (K.e_assign rfl) rfl ?_
          refine K.GL.det (K.e_assign rfl) rfl ?_
          refine K.GL.nil ?_
          refine K.GQ.go ?_
          refine K.GC.seq ?_
          refine K.GC.region ?_
          refine K.GL.det (K.e_move rfl) rfl ?_
          refine gl_read (i := 3) Try.call17 rfl hk8 rfl (fun a55 c55 => ?_)
          refine K.GL.det (K.e_move rfl) rfl ?_
          refine K.GL.det (K.e_extract rfl rfl) rfl ?_
          refine K.GL.det (K.e_extract rfl rfl) rfl ?_
          refine K.GL.det (K.e_assign rfl) rfl ?_
          refine K.GL.det (K.e_assign rfl) rfl ?_
          refine K.GL.nil ?_
          refine K.GQ.go ?_
          refine K.GC.seq ?_
          refine K.GC.region ?_
          refine K.GL.det (K.e_move rfl) rfl ?_
          refine gl_write (i := 0) (bs := []) Try.call13 rfl hk8 (fun w hT => ⟨Sl.nil w 1, fun h => absurd h (by omega)⟩) rfl (fun g9 hk9 hv9 => ?_)
          rw [hv8] at hv9
          have e8 : g8.v = hd7 := hv8
          have e9 : g9.v = hd8 := hv9
          have hl55 : (g8.v.read 3).1.length = 64 := by rw [e8]; exact hf7.1
          refine K.GL.det (K.e_assign rfl) rfl ?_
          refine K.GL.nil ?_
          refine K.GQ.go ?_
          refine K.GC.seq ?_
          refine K.GC.seq ?_
          refine K.GC.region ?_
          refine K.GL.det (K.e_move rfl) rfl ?_
          refine K.GL.det (K.e_len Try.underlying29 rfl) rfl ?_
          first | refine K.GL.det ((K.e_ne rfl rfl).yes (by first | omega | assumption | decide +kernel)) rfl ?_ | refine K.GL.det ((K.e_ne rfl rfl).no (by first | omega | assumption | decide +kernel)) rfl ?_ | refine K.GL.det (K.e_ne rfl rfl) rfl ?_
          refine K.GL.nil ?_
          refine K.GQ.go ?_
          refine K.GC.condB rfl (fun h4 => ?_) (fun h4 => ?_)
          · first
            | exact absurd h4 (by decide)
            | try replace h4 := of_decide_eq_true h4
              refine K.GC.seq ?_
              refine K.GC.region ?_
              refine K.GL.det (K.e_assign rfl) rfl ?_
              refine K.GL.nil ?_
              refine K.GQ.go ?_
              refine K.GC.ret ?_
              refine K.GQ.then_ret ?_
              refine K.GQ.ret1 Try.results9 rfl (fun w hT => ?_)
              exact ⟨rfl, hT.nil⟩
          · first
            | exact absurd h4 (by decide)
            | try replace h4 := of_decide_eq_false h4
              refine K.GC.skip ?_
              refine K.GQ.go ?_
              refine K.GC.seq ?_
              have f1 : (g1.v.write 1 (secOf 7).1).2 = 0 := by rw [hv1]; exact hf1
              have f2 : g2.v.flush.2 = 0 := by rw [hv2]; exact hf2
              have f3 : g5.v.list = [1, 3] := by rw [hv5]; exact hf3
              have f4 : (g6.v.write 2 (secOf 1).1).2 = 71 := by rw [hv6]; exact hf4
              have f5 : g7.down = true := (congrArg DS.down hv7).trans hf5
              have f6 : g8.v.read 1 = ((secOf 7).1, 0) := by rw [e8]; exact hf6
              have f7 := hf7
              rw [← e8] at f7
              have f8 : (g8.v.write 0 []).2 = 1 := by rw [e8]; exact hf8
              have f9 : g9.done = 4 ∧ g9.kept.length = 4 ∧ g9.down = false := ⟨(congrArg DS.done e9).trans hf9.1, (congrArg (fun s => s.kept.length) e9).trans hf9.2.1, (congrArg DS.down e9).trans hf9.2.2⟩
              refine K.GC.res (L' := [DevR d g9, row a55 c55 1 66 (bv (g8.v.read 3).1), row a50 c50 1 66 (bv (g8.v.read 1).1), row a35 c35 1 3 (ints g5.v.list)]) ?_ (Sub.take (i := 0) rfl (Sub.take (i := 0) rfl (Sub.take (i := 0) rfl (Sub.take (i := 3) rfl (Sub.nil _)))))
              refine K.GC.fact (p := a55 = some ⟨bk a55, of_ a55, none⟩) (fun w hT => (hT.sl_row (k := 1) (n := 64) (List.mem_of_getElem? (i := 1) rfl) (by omega) (by rw [bv_length]; omega)).base (by omega)) (fun hb55 => ?_)
              refine K.GC.drawn 65 [[], [0], [0, 1], [0, 1, 2], [0, 1, 2, 3], [0, 1, 2, 3, 4], [0, 1, 2, 3, 4, 5], [0, 1, 2, 3, 4, 5, 6], [0, 1, 2, 3, 4, 5, 6], [0, 1, 2, 3, 4, 5, 6, 7, 8], [0, 1, 2, 3, 4, 5, 6, 7, 8, 9], [0, 1, 2, 3, 4, 5, 6, 7, 8, 9, 10], [0, 1, 2, 3, 4, 5, 6, 7, 8, 9, 10, 11], [0, 1, 2, 3, 4, 5, 6, 7, 8, 9, 10, 11, 12], [0, 1, 2, 3, 4, 5, 6, 7, 8, 9, 10, 11, 12, 13], [0, 1, 2, 3, 4, 5, 6, 7, 8, 9, 10, 11, 12, 13, 14], [0, 1, 2, 3, 4, 5, 6, 7, 8, 9, 10, 11, 12, 13, 14, 15], [0, 1, 2, 3, 4, 5, 6, 7, 8, 9, 10, 11, 12, 13, 14, 15, 16], [0, 1, 2, 3, 4, 5, 6, 7, 8, 9, 10, 11, 12, 13, 14, 15, 16, 17], [0, 1, 2, 3, 4, 5, 6, 7, 8, 9, 10, 11, 12, 13, 14, 15, 16, 17, 18], [0, 1, 2, 3, 4, 5, 6, 7, 8, 9, 10, 11, 12, 13, 14, 15, 16, 17, 18, 19], [0, 1, 2, 3, 4, 5, 6, 7, 8, 9, 10, 11, 12, 13, 14, 15, 16, 17, 18], [0, 1, 2, 3, 4, 5, 6, 7, 8, 9, 10, 11, 12, 13, 14, 15, 16, 17, 18, 21], [0, 1, 2, 3, 4, 5, 6, 7, 8, 9, 10, 11, 12, 13, 14, 15, 16, 17, 18, 19, 20, 21, 22], [0, 1, 2, 3, 4, 5, 6, 7, 8, 9, 10, 11, 12, 13, 14, 15, 16, 17, 18, 19, 20, 21, 22, 23], [0, 1, 2, 3, 4, 5, 6, 7, 8, 9, 10, 11, 12, 13, 14, 15, 16, 17, 18, 19, 20, 21, 22, 23, 24], [0, 1, 2, 3, 4, 5, 6, 7, 8, 9, 10, 11, 12, 13, 14, 15, 16, 17, 18, 19, 20, 21, 22, 23, 24, 25], [0, 1, 2, 3, 4, 5, 6, 7, 8, 9, 10, 11, 12, 13, 14, 15, 16, 17, 18, 19, 20, 21, 22, 23, 24, 25, 26], [0, 1, 2, 3, 4, 5, 6, 7, 8, 9, 10, 11, 12, 13, 14, 15, 16, 17, 18, 19, 20, 21, 22, 23, 24, 25, 26, 27], [0, 1, 2, 3, 4, 5, 6, 7, 8, 9, 10, 11, 12, 13, 14, 15, 16, 17, 18, 19, 20, 21, 22, 23, 24, 25, 26, 27, 28], [0, 1, 2, 3, 4, 5, 6, 7, 8, 9, 10, 11, 12, 13, 14, 15, 16, 17, 18, 19, 20, 21, 22, 23, 24, 25, 26, 27, 28, 29], [0, 1, 2, 3, 4, 5, 6, 7, 8, 9, 10, 11, 12, 13, 14, 15, 16, 17, 18, 19, 20, 21, 22, 23, 24, 25, 26, 27, 28, 29, 30], [0, 1, 2, 3, 4, 5, 6, 7, 8, 9, 10, 11, 12, 13, 14, 15, 16, 17, 18, 19, 20, 21, 22, 23, 24, 25, 26, 27, 28, 29, 30, 31], [0, 1, 2, 3, 4, 5, 6, 7, 8, 9, 10, 11, 12, 13, 14, 15, 16, 17, 18, 19, 20, 21, 22, 23, 24, 25, 26, 27, 28, 29, 30, 31, 32], [0, 1, 2, 3, 4, 5, 6, 7, 8, 9, 10, 11, 12, 13, 14, 15, 16, 17, 18, 19, 20, 21, 22, 23, 24, 25, 26, 27, 28, 29, 30, 31, 32, 33], [0, 1, 2, 3, 4, 5, 6, 7, 8, 9, 10, 11, 12, 13, 14, 15, 16, 17, 18, 19, 20, 21, 22, 23, 24, 25, 26, 27, 28, 29, 30, 31, 32, 33, 34], [0, 1, 2, 3, 4, 5, 6, 7, 8, 9, 10, 11, 12, 13, 14, 15, 16, 17, 18, 19, 20, 21, 22, 23, 24, 25, 26, 27, 28, 29, 30, 31, 32, 33, 34, 35], [0, 1, 2, 3, 4, 5, 6, 7, 8, 9, 10, 11, 12, 13, 14, 15, 16, 17, 18, 19, 20, 21, 22, 23, 24, 25, 26, 27, 28, 29, 30, 31, 32, 33, 34, 35, 36], [0, 1, 2, 3, 4, 5, 6, 7, 8, 9, 10, 11, 12, 13, 14, 15, 16, 17, 18, 19, 20, 21, 22, 23, 24, 25, 26, 27, 28, 29, 30, 31, 32, 33, 34, 35, 36, 37], [0, 1, 2, 3, 4, 5, 6, 7, 8, 9, 10, 11, 12, 13, 14, 15, 16, 17, 18, 19, 20, 21, 22, 23, 24, 25, 26, 27, 28, 29, 30, 31, 32, 33, 34, 35, 36, 37, 38], [0, 1, 2, 3, 4, 5, 6, 7, 8, 9, 10, 11, 12, 13, 14, 15, 16, 17, 18, 19, 20, 21, 22, 23, 24, 25, 26, 27, 28, 29, 30, 31, 32, 33, 34, 35, 36, 37, 38, 39], [0, 1, 2, 3, 4, 5, 6, 7, 8, 9, 10, 11, 12, 13, 14, 15, 16, 17, 18, 19, 20, 21, 22, 23, 24, 25, 26, 27, 28, 29, 30, 31, 32, 33, 34, 35, 36, 37, 38, 39, 40], [0, 1, 2, 3, 4, 5, 6, 7, 8, 9, 10, 11, 12, 13, 14, 15, 16, 17, 18, 19, 20, 21, 22, 23, 24, 25, 26, 27, 28, 29, 30, 31, 32, 33, 34, 35, 36, 37, 38, 39, 40, 41], [0, 1, 2, 3, 4, 5, 6, 7, 8, 9, 10, 11, 12, 13, 14, 15, 16, 17, 18, 19, 20, 21, 22, 23, 24, 25, 26, 27, 28, 29, 30, 31, 32, 33, 34, 35, 36, 37, 38, 39, 40, 41, 42], [0, 1, 2, 3, 4, 5, 6, 7, 8, 9, 10, 11, 12, 13, 14, 15, 16, 17, 18, 19, 20, 21, 22, 23, 24, 25, 26, 27, 28, 29, 30, 31, 32, 33, 34, 35, 36, 37, 38, 39, 40, 41, 42, 43], [0, 1, 2, 3, 4, 5, 6, 7, 8, 9, 10, 11, 12, 13, 14, 15, 16, 17, 18, 19, 20, 21, 22, 23, 24, 25, 26, 27, 28, 29, 30, 31, 32, 33, 34, 35, 36, 37, 38, 39, 40, 41, 42, 43, 44], [0, 1, 2, 3, 4, 5, 6, 7, 8, 9, 10, 11, 12, 13, 14, 15, 16, 17, 18, 19, 20, 21, 22, 23, 24, 25, 26, 27, 28, 29, 30, 31, 32, 33, 34, 35, 36, 37, 38, 39, 40, 41, 42, 43, 44, 45], [0, 1, 2, 3, 4, 5, 6, 7, 8, 9, 10, 11, 12, 13, 14, 15, 16, 17, 18, 19, 20, 21, 22, 23, 24, 25, 26, 27, 28, 29, 30, 31, 32, 33, 34, 35, 36, 37, 38, 39, 40, 41, 42, 43, 44, 45, 46], [0, 1, 2, 3, 4, 5, 6, 7, 8, 9, 10, 11, 12, 13, 14, 15, 16, 17, 18, 19, 20, 21, 22, 23, 24, 25, 26, 27, 28, 29, 30, 31, 32, 33, 34, 35, 36, 37, 38, 39, 40, 41, 42, 43, 44, 45, 46, 47], [0, 1, 2, 3, 4, 5, 6, 7, 8, 9, 10, 11, 12, 13, 14, 15, 16, 17, 18, 19, 20, 21, 22, 23, 24, 25, 26, 27, 28, 29, 30, 31, 32, 33, 34, 35, 36, 37, 38, 39, 40, 41, 42, 43, 44, 45, 46, 47, 48], [0, 1, 2, 3, 4, 5, 6, 7, 8, 9, 10, 11, 12, 13, 14, 15, 16, 17, 18, 19, 20, 21, 22, 23, 24, 25, 26, 27, 28, 29, 30, 31, 32, 33, 34, 35, 36, 37, 38, 39, 40, 41, 42, 43, 44, 45, 46, 47, 48, 49], [0, 1, 2, 3, 4, 5, 6, 7, 8, 9, 10, 11, 12, 13, 14, 15, 16, 17, 18, 19, 20, 21, 22, 23, 24, 25, 26, 27, 28, 29, 30, 31, 32, 33, 34, 35, 36, 37, 38, 39, 40, 41, 42, 43, 44, 45, 46, 47, 48, 49, 50], [0, 1, 2, 3, 4, 5, 6, 7, 8, 9, 10, 11, 12, 13, 14, 15, 16, 17, 18, 19, 20, 21, 22, 23, 24, 25, 26, 27, 28, 29, 30, 31, 32, 33, 34, 35, 36, 37, 38, 39, 40, 41, 42, 43, 44, 45, 46, 47, 48, 49, 50, 51], [0, 1, 2, 3, 4, 5, 6, 7, 8, 9, 10, 11, 12, 13, 14, 15, 16, 17, 18, 19, 20, 21, 22, 23, 24, 25, 26, 27, 28, 29, 30, 31, 32, 33, 34, 35, 36, 37, 38, 39, 40, 41, 42, 43, 44, 45, 46, 47, 48, 49, 50, 51, 52], [0, 1, 2, 3, 4, 5, 6, 7, 8, 9, 10, 11, 12, 13, 14, 15, 16, 17, 18, 19, 20, 21, 22, 23, 24, 25, 26, 27, 28, 29, 30, 31, 32, 33, 34, 35, 36, 37, 38, 39, 40, 41, 42, 43, 44, 45, 46, 47, 48, 49, 50, 51, 52, 53], [0, 1, 2, 3, 4, 5, 6, 7, 8, 9, 10, 11, 12, 13, 14, 15, 16, 17, 18, 19, 20, 21, 22, 23, 24, 25, 26, 27, 28, 29, 30, 31, 32, 33, 34, 35, 36, 37, 38, 39, 40, 41, 42, 43, 44, 45, 46, 47, 48, 49, 50, 51, 52, 53, 54], [0, 1, 2, 3, 4, 5, 6, 7, 8, 9, 10, 11, 12, 13, 14, 15, 16, 17, 18, 19, 20, 21, 22, 23, 24, 25, 26, 27, 28, 29, 30, 31, 32, 33, 34, 35, 36, 37, 38, 39, 40, 41, 42, 43, 44, 45, 46, 47, 48, 49, 50, 51, 52, 53, 54, 55], [0, 1, 2, 3, 4, 5, 6, 7, 8, 9, 10, 11, 12, 13, 14, 15, 16, 17, 18, 19, 20, 21, 22, 23, 24, 25, 26, 27, 28, 29, 30, 31, 32, 33, 34, 35, 36, 37, 38, 39, 40, 41, 42, 43, 44, 45, 46, 47, 48, 49, 50, 51, 52, 53, 54, 55, 56], [0, 1, 2, 3, 4, 5, 6, 7, 8, 9, 10, 11, 12, 13, 14, 15, 16, 17, 18, 19, 20, 21, 22, 23, 24, 25, 26, 27, 28, 29, 30, 31, 32, 33, 34, 35, 36, 37, 38, 39, 40, 41, 42, 43, 44, 45, 46, 47, 48, 49, 50, 51, 52, 53, 54, 55, 56, 57], [0, 1, 2, 3, 4, 5, 6, 7, 8, 9, 10, 11, 12, 13, 14, 15, 16, 17, 18, 19, 20, 21, 22, 23, 24, 25, 26, 27, 28, 29, 30, 31, 32, 33, 34, 35, 36, 37, 38, 39, 40, 41, 42, 43, 44, 45, 46, 47, 48, 49, 50, 51, 52, 53, 54, 55, 56, 57, 58], [0, 1, 2, 3, 4, 5, 6, 7, 8, 9, 10, 11, 12, 13, 14, 15, 16, 17, 18, 19, 20, 21, 22, 23, 24, 25, 26, 27, 28, 29, 30, 31, 32, 33, 34, 35, 36, 37, 38, 39, 40, 41, 42, 43, 44, 45, 46, 47, 48, 49, 50, 51, 52, 53, 54, 55, 56, 57, 58, 59], [0, 1, 2, 3, 4, 5, 6, 7, 8, 9, 10, 11, 12, 13, 14, 15, 16, 17, 18, 19, 20, 21, 22, 23, 24, 25, 26, 27, 28, 29, 30, 31, 32, 33, 34, 35, 36, 37, 38, 39, 40, 41, 42, 43, 44, 45, 46, 47, 48, 49, 50, 51, 52, 53, 54, 55, 56, 57, 58, 59, 60], [0, 1, 2, 3, 4, 5, 6, 7, 8, 9, 10, 11, 12, 13, 14, 15, 16, 17, 18, 19, 20, 21, 22, 23, 24, 25, 26, 27, 28, 29, 30, 31, 32, 33, 34, 35, 36, 37, 38, 39, 40, 41, 42, 43, 44, 45, 46, 47, 48, 49, 50, 51, 52, 53, 54, 55, 56, 57, 58, 59, 60, 61], [0, 1, 2, 3, 4, 5, 6, 7, 8, 9, 10, 11, 12, 13, 14, 15, 16, 17, 18, 19, 20, 21, 22, 23, 24, 25, 26, 27, 28, 29, 30, 31, 32, 33, 34, 35, 36, 37, 38, 39, 40, 41, 42, 43, 44, 45, 46, 47, 48, 49, 50, 51, 52, 53, 54, 55, 56, 57, 58, 59, 60, 61, 62], [0, 1, 2, 3, 4, 5, 6, 7, 8, 9, 10, 11, 12, 13, 14, 15, 16, 17, 18, 19, 20, 21, 22, 23, 24, 25, 26, 27, 28, 29, 30, 31, 32, 33, 34, 35, 36, 37, 38, 39, 40, 41, 42, 43, 44, 45, 46, 47, 48, 49, 50, 51, 52, 53, 54, 55, 56, 57, 58, 59, 60, 61, 62, 63]] [[], [0], [1], [2], [2, 3], [2, 4], [5], [6], [6], [6, 7, 8], [6, 9], [10], [11], [11, 12], [11, 13], [14], [15], [15, 16], [17], [18], [18, 19], [18], [18, 21], [18, 20, 22], [18, 23], [24], [25], [25, 26], [25, 27], [28], [29], [29, 30], [29, 31], [29, 32], [29, 33], [34], [35], [35, 36], [35, 37], [35, 38], [35, 39], [40], [41], [41, 42], [41, 43], [44], [45], [45, 46], [45, 47], [48], [49], [49, 50], [49, 51], [49, 52], [53], [54], [54, 55], [54, 56], [54, 57], [58], [59], [59, 60], [59, 61], [59, 62], [63]] [1, 2, 3, 4, 5, 6, 7, 8, 9, 10, 11] (by kernel_rfl) (by kernel_rfl) rfl ?_
              refine K.DW.det rfl (fun vs => K.e_move rfl) ?_
              refine K.DW.det rfl (fun vs => (K.e_eq rfl rfl).yes (f1)) ?_
              refine K.DW.det rfl (fun vs => K.e_move rfl) ?_
              first | (refine K.DW.want (fun _ => rfl) ?_; first | refine K.DW.det rfl (fun vs => K.e_move rfl) ?_) | refine K.DW.skip (fun _ => rfl) ?_
              first | (refine K.DW.want (fun _ => rfl) ?_; first | refine K.DW.det rfl (fun vs => (K.e_eq rfl rfl).yes (f2)) ?_) | refine K.DW.skip (fun _ => rfl) ?_
              first | refine K.DW.det rfl (fun vs => K.e_pick_t rfl rfl) ?_ | refine K.DW.det rfl (fun vs => K.e_pick_f rfl rfl) ?_
              refine K.DW.det rfl (fun vs => K.e_move rfl) ?_
              first | (refine K.DW.want (fun _ => rfl) ?_; first | refine K.DW.det rfl (fun vs => K.e_move rfl) ?_) | refine K.DW.skip (fun _ => rfl) ?_
              first | refine K.DW.evgO (fun _ => rfl) (fun vs hf => K.e_buildSlice mk43 rfl rfl) ?_ | refine K.DW.skip (fun _ => rfl) ?_
              first | refine K.DW.detgO (fun _ => rfl) (fun vs hf => by
                    obtain ⟨⟨b1, e1⟩, _⟩ := hf
                    refine (K.e_call1 Try.call24 (vs := [.slice a35 g5.v.list.length c35, .slice (some ⟨b1, 0, none⟩) 2 2]) (by rw [← e1]; rfl) (fun w hT => ?_)).yes f3
                    have r1 := hT.ok _ List.mem_cons_self
                    rw [e1] at r1
                    exact same_con (l := g5.v.list) (k := [1, 3]) (hT.sl_row (k := 1) (List.mem_of_getElem? (i := 4) rfl) (by omega) (by simp [ints])) (Sl.of_block (cs := ints [1, 3]) r1 rfl) (by rw [f3]; decide)) ?_ | refine K.DW.skip (fun _ => rfl) ?_
              first | refine K.DW.det rfl (fun vs => K.e_pick_t rfl rfl) ?_ | refine K.DW.det rfl (fun vs => K.e_pick_f rfl rfl) ?_
              refine K.DW.det rfl (fun vs => K.e_move rfl) ?_
              first | (refine K.DW.want (fun _ => rfl) ?_; first | refine K.DW.det rfl (fun vs => K.e_move rfl) ?_) | refine K.DW.skip (fun _ => rfl) ?_
              first | (refine K.DW.want (fun _ => rfl) ?_; first | refine K.DW.det rfl (fun vs => (K.e_eq rfl rfl).yes (f4)) ?_) | refine K.DW.skip (fun _ => rfl) ?_
              first | refine K.DW.det rfl (fun vs => K.e_pick_t rfl rfl) ?_ | refine K.DW.det rfl (fun vs => K.e_pick_f rfl rfl) ?_
              refine K.DW.det rfl (fun vs => K.e_move rfl) ?_
              first | (refine K.DW.want (fun _ => rfl) ?_; first | refine K.DW.det rfl (fun vs => (K.e_move rfl).cast_bool (b := true) f5) ?_) | refine K.DW.skip (fun _ => rfl) ?_
              first | refine K.DW.det rfl (fun vs => K.e_pick_t rfl rfl) ?_ | refine K.DW.det rfl (fun vs => K.e_pick_f rfl rfl) ?_
              refine K.DW.det rfl (fun vs => K.e_move rfl) ?_
              first | (refine K.DW.want (fun _ => rfl) ?_; first | refine K.DW.det rfl (fun vs => K.e_move rfl) ?_) | refine K.DW.skip (fun _ => rfl) ?_
              first | (refine K.DW.want (fun _ => rfl) ?_; first | refine K.DW.det rfl (fun vs => K.e_b2sw Try.underlying29 Try.underlying5 Try.underlying9 rfl (l := (g8.v.read 1).1) (fun w hT => hT.sl_row (k := 1) (List.mem_of_getElem? (i := 2) rfl) (by omega) (by rw [bv_length, Nat.mul_one]))) ?_) | refine K.DW.skip (fun _ => rfl) ?_
              first | refine K.DW.evgO (fun _ => rfl) (fun vs hf => K.e_call (Pv := fun u => ∃ b, u = .slice (some ⟨b, 0, none⟩) 64 64) (R := atPtr fun b => cl b 5 (sv (secOf 7))) Try.call23 rfl (fun w hT => (full_con 7).mono fun e w' ⟨b, h1, h2⟩ => ⟨_, h1, ⟨b, rfl⟩, h2⟩)) ?_ | refine K.DW.skip (fun _ => rfl) ?_
              first | refine K.DW.detgO (fun _ => rfl) (fun vs hf => by
                    obtain ⟨⟨b2, e2⟩, _⟩ := hf
                    refine K.e_b2sw Try.underlying29 Try.underlying5 Try.underlying9 (a := some ⟨b2, 0, none⟩) (n := 64) (c := 64) (by rw [← e2]; rfl) (l := (secOf 7).1) (fun w hT => ?_)
                    have r1 := hT.ok _ (List.mem_of_getElem? (i := 0) rfl)
                    rw [e2] at r1
                    exact Sl.of_block r1 (by rw [bv_length, (secOf 7).2])) ?_ | refine K.DW.skip (fun _ => rfl) ?_
              first | (refine K.DW.want (fun _ => rfl) ?_; first | refine K.DW.det rfl (fun vs => (K.e_eqs Try.underlying9 rfl rfl).yes (congrArg Prod.fst f6)) ?_) | refine K.DW.skip (fun _ => rfl) ?_
              first | refine K.DW.det rfl (fun vs => K.e_pick_t rfl rfl) ?_ | refine K.DW.det rfl (fun vs => K.e_pick_f rfl rfl) ?_
              refine K.DW.det rfl (fun vs => K.e_move rfl) ?_
              first | (refine K.DW.want (fun _ => rfl) ?_; first | refine K.DW.det rfl (fun vs => K.e_move rfl) ?_) | refine K.DW.skip (fun _ => rfl) ?_
              first | (refine K.DW.want (fun _ => rfl) ?_; first | refine K.DW.det rfl (fun vs => (K.e_eq rfl rfl).yes (congrArg Prod.snd f6)) ?_) | refine K.DW.skip (fun _ => rfl) ?_
              first | refine K.DW.det rfl (fun vs => K.e_pick_t rfl rfl) ?_ | refine K.DW.det rfl (fun vs => K.e_pick_f rfl rfl) ?_
              refine K.DW.det rfl (fun vs => K.e_move rfl) ?_
              first | (refine K.DW.want (fun _ => rfl) ?_; first | refine K.DW.det rfl (fun vs => K.e_move rfl) ?_) | refine K.DW.skip (fun _ => rfl) ?_
              first | (refine K.DW.want (fun _ => rfl) ?_; first | refine K.DW.det rfl (fun vs => K.e_indexAddrB sl29 rfl rfl (fun _ => hb55) (by omega) (by omega)) ?_) | refine K.DW.skip (fun _ => rfl) ?_
              first | (refine K.DW.want (fun _ => rfl) ?_; first | refine K.DW.det rfl (fun vs => K.e_loadw (v := .int .u8 9) Try.isAgg5 rfl (fun w hT => (hT.sl_row (k := 1) (n := 64) (List.mem_of_getElem? (i := 1) rfl) (by omega) (by rw [bv_length]; omega)).cell 62 _ (get_bv f7.2.1))) ?_) | refine K.DW.skip (fun _ => rfl) ?_
              first | (refine K.DW.want (fun _ => rfl) ?_; first | refine K.DW.det rfl (fun vs => (K.e_eq rfl rfl).yes (rfl)) ?_) | refine K.DW.skip (fun _ => rfl) ?_
              first | refine K.DW.det rfl (fun vs => K.e_pick_t rfl rfl) ?_ | refine K.DW.det rfl (fun vs => K.e_pick_f rfl rfl) ?_
              refine K.DW.det rfl (fun vs => K.e_move rfl) ?_
              first | (refine K.DW.want (fun _ => rfl) ?_; first | refine K.DW.det rfl (fun vs => K.e_move rfl) ?_) | refine K.DW.skip (fun _ => rfl) ?_
              first | (refine K.DW.want (fun _ => rfl) ?_; first | refine K.DW.det rfl (fun vs => K.e_indexAddrB sl29 rfl rfl (fun _ => hb55) (by omega) (by omega)) ?_) | refine K.DW.skip (fun _ => rfl) ?_
              first | (refine K.DW.want (fun _ => rfl) ?_; first | refine K.DW.det rfl (fun vs => K.e_loadw (v := .int .u8 201) Try.isAgg5 rfl (fun w hT => (hT.sl_row (k := 1) (n := 64) (List.mem_of_getElem? (i := 1) rfl) (by omega) (by rw [bv_length]; omega)).cell 63 _ (get_bv f7.2.2.1))) ?_) | refine K.DW.skip (fun _ => rfl) ?_
              first | (refine K.DW.want (fun _ => rfl) ?_; first | refine K.DW.det rfl (fun vs => (K.e_eq rfl rfl).yes (rfl)) ?_) | refine K.DW.skip (fun _ => rfl) ?_
              first | refine K.DW.det rfl (fun vs => K.e_pick_t rfl rfl) ?_ | refine K.DW.det rfl (fun vs => K.e_pick_f rfl rfl) ?_
              refine K.DW.det rfl (fun vs => K.e_move rfl) ?_
              first | (refine K.DW.want (fun _ => rfl) ?_; first | refine K.DW.det rfl (fun vs => K.e_move rfl) ?_) | refine K.DW.skip (fun _ => rfl) ?_
              first | (refine K.DW.want (fun _ => rfl) ?_; first | refine K.DW.det rfl (fun vs => (K.e_eq rfl rfl).yes (f7.2.2.2)) ?_) | refine K.DW.skip (fun _ => rfl) ?_
              first | refine K.DW.det rfl (fun vs => K.e_pick_t rfl rfl) ?_ | refine K.DW.det rfl (fun vs => K.e_pick_f rfl rfl) ?_
              refine K.DW.det rfl (fun vs => K.e_move rfl) ?_
              first | (refine K.DW.want (fun _ => rfl) ?_; first | refine K.DW.det rfl (fun vs => K.e_move rfl) ?_) | refine K.DW.skip (fun _ => rfl) ?_
              first | (refine K.DW.want (fun _ => rfl) ?_; first | refine K.DW.det rfl (fun vs => (K.e_eq rfl rfl).yes (f8)) ?_) | refine K.DW.skip (fun _ => rfl) ?_
              first | refine K.DW.det rfl (fun vs => K.e_pick_t rfl rfl) ?_ | refine K.DW.det rfl (fun vs => K.e_pick_f rfl rfl) ?_
              refine K.DW.det rfl (fun vs => K.e_move rfl) ?_
              first | (refine K.DW.want (fun _ => rfl) ?_; first | refine K.DW.det rfl (fun vs => K.e_move rfl) ?_) | refine K.DW.skip (fun _ => rfl) ?_
              first | (refine K.DW.want (fun _ => rfl) ?_; first | refine K.DW.det rfl (fun vs => K.e_call1 Try.call29 rfl (fun w hT => done_con (g := g9) (hT.ok _ (List.mem_of_getElem? (i := 0) rfl)))) ?_) | refine K.DW.skip (fun _ => rfl) ?_
              first | (refine K.DW.want (fun _ => rfl) ?_; first | refine K.DW.det rfl (fun vs => (K.e_eq rfl rfl).yes (f9.1)) ?_) | refine K.DW.skip (fun _ => rfl) ?_
              first | refine K.DW.det rfl (fun vs => K.e_pick_t rfl rfl) ?_ | refine K.DW.det rfl (fun vs => K.e_pick_f rfl rfl) ?_
              refine K.DW.det rfl (fun vs => K.e_move rfl) ?_
              first | (refine K.DW.want (fun _ => rfl) ?_; first | refine K.DW.det rfl (fun vs => K.e_move rfl) ?_) | refine K.DW.skip (fun _ => rfl) ?_
              first | (refine K.DW.want (fun _ => rfl) ?_; first | refine K.DW.det rfl (fun vs => K.e_call1 Try.call31 rfl (fun w hT => size_con (g := g9) (hT.ok _ (List.mem_of_getElem? (i := 0) rfl)))) ?_) | refine K.DW.skip (fun _ => rfl) ?_
              first | (refine K.DW.want (fun _ => rfl) ?_; first | refine K.DW.det rfl (fun vs => (K.e_eq rfl rfl).yes (by have := f9.2.1; omega)) ?_) | refine K.DW.skip (fun _ => rfl) ?_
              first | refine K.DW.det rfl (fun vs => K.e_pick_t rfl rfl) ?_ | refine K.DW.det rfl (fun vs => K.e_pick_f rfl rfl) ?_
              refine K.DW.det rfl (fun vs => K.e_move rfl) ?_
              first | (refine K.DW.want (fun _ => rfl) ?_; first | refine K.DW.det rfl (fun vs => K.e_move rfl) ?_) | refine K.DW.skip (fun _ => rfl) ?_
              first | (refine K.DW.want (fun _ => rfl) ?_; first | refine K.DW.det rfl (fun vs => (K.e_call1 Try.call27 rfl (fun w hT => down_con (g := g9) (hT.ok _ (List.mem_of_getElem? (i := 0) rfl)))).cast_bool (b := false) f9.2.2) ?_) | refine K.DW.skip (fun _ => rfl) ?_
              first | (refine K.DW.want (fun _ => rfl) ?_; first | refine K.DW.det rfl (fun vs => (K.e_not rfl).cast_bool (b := true) rfl) ?_) | refine K.DW.skip (fun _ => rfl) ?_
              first | refine K.DW.det rfl (fun vs => K.e_pick_t rfl rfl) ?_ | refine K.DW.det rfl (fun vs => K.e_pick_f rfl rfl) ?_
              refine K.DW.det rfl (fun vs => K.e_assign rfl) ?_
              refine K.DW.fin (fun vs hf => ?_)
              refine K.GL.keep [0] rfl ?_
              skip
              refine K.GL.nil ?_
              refine K.GQ.go ?_
              refine K.GC.ret ?_
              refine K.GQ.ret1 Try.results9 rfl (fun w hT => ?_)
              exact ⟨rfl, hT.nil⟩
end Go.Proofs.Ytgkdnecjokhkcaa
