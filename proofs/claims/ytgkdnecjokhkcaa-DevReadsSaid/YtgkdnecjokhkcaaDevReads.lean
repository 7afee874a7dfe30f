/- DevReads returns true for all calls, any sector and any bytes, and turns nothing. -/
import Derived.ProofKit
import Derived.OpenShut
import Derived.SizedLaws
import Derived.Lib.SmallJoins
import Derived.Test.YtgkdnecjokhkcaaRows
import Derived.Test.YtgkdnecjokhkcaaDevO
namespace Go.Proofs.Ytgkdnecjokhkcaa
open Go Go.K Go.ChangeShapes Go.WideShapes Go.ChangeAt Go.RowKit Go.Joins
set_option linter.unusedVariables false
set_option linter.unusedSimpArgs false
attribute [local irreducible] Calls Ev GL GC GQ GR Code.wp
theorem own : ownKnob Try.prog.godebug = none := by kernel_rfl
theorem laidOut : laidOutB Try.prog = true := by kernel_rfl
theorem fo33_0 : K.fieldOff Try.prog 33 0 = some (3, 0, 1) := by kernel_rfl
theorem fo33_1 : K.fieldOff Try.prog 33 1 = some (3, 1, 1) := by kernel_rfl
theorem fo33_2 : K.fieldOff Try.prog 33 2 = some (5, 2, 1) := by kernel_rfl
/- turntable/turntablelaw07.DevReads -/
set_option maxHeartbeats 8000000 in
set_option maxRecDepth 100000 in
theorem reads_any {a1 a3 : Option Addr} {n1 c1 n3 c3 k0 : Nat} {l1 : List OX} {bs : Bytes} (w : World) (hL : Sl w 6 a1 n1 (l1.flatMap encO)) (hB : Sl w 1 a3 n3 (bv bs)) (hn1 : n1 ≤ 9223372036854775807) (hn3 : n3 ≤ 9223372036854775807) (hk0 : k0 < 256) :
    Calls Try.prog 7 #[.slice a1 n1 c1, .int .u8 (k0 : Int), .slice a3 n3 c3] w fun e w' => e = .returned (.bool true) ∧ Tr w [] w' [] := by
  have hl1 : l1.length = n1 := hL.count (by omega) encO_len
  have hlb : bs.length = n3 := by have := hB.len; rw [bv_length] at this; omega
  refine K.enter0 (args := [_, _, _]) Try.func7 rfl Try.ntmps7 rfl ?_
  refine K.GC.seq ?_
  refine K.GC.region ?_
  refine K.GL.det (K.e_assign rfl) rfl ?_
  refine K.GL.nil ?_
  refine K.GQ.go ?_
  refine K.GC.seq ?_
  refine K.GC.region ?_
  refine K.GL.det (K.e_call1 Try.call9 rfl (fun w hT => head_con)) rfl ?_
  refine K.GL.det (K.e_assign rfl) rfl ?_
  refine K.GL.nil ?_
  refine K.GQ.go ?_
  refine K.GC.seq ?_
  refine K.GC.region ?_
  refine gl_new (n := 8) Try.call11 rfl (by omega) rfl (fun d g hkg hvg => ?_)
  have hup : Up 8 g.v := by rw [hvg]; exact Up.new 8
  refine K.GL.det (K.e_assign rfl) rfl ?_
  refine K.GL.nil ?_
  refine K.GQ.go ?_
  refine K.GC.seq ?_
  refine K.GC.seq ?_
  refine K.GC.region ?_
  refine K.GL.det (K.e_move rfl) rfl ?_
  refine K.GL.det ((K.e_eqlp Try.underlying25 rfl rfl).cast_bool (b := false) rfl) rfl ?_
  refine K.GL.det (K.e_move rfl) rfl ?_
  first | refine K.GL.splitB 24 rfl (fun h1 => ?_) (fun h1 => ?_) | skip
  all_goals first | exact absurd h1 (by decide) | replace h1 := of_decide_eq_true h1 | replace h1 := of_decide_eq_false h1 | skip
  all_goals
    first | (refine K.GL.want 24 rfl rfl rfl ?_; first | refine K.GL.det (K.e_move rfl) rfl ?_) | refine K.GL.skip 24 rfl rfl rfl rfl ?_ | refine K.GL.skipU 24 rfl rfl rfl rfl ?_
    first
      | refine K.GL.skip 24 rfl rfl rfl rfl ?_
      | refine K.GL.skipU 24 rfl rfl rfl rfl ?_
      | (refine K.GL.want 24 rfl rfl rfl ?_
         refine gl_great (l := l1) Try.call10 rfl (fun w hT => hL.stay hT (fun r hr => by cases hr)) (by omega) rfl (fun gr26 hg26 => ?_)
         rcases gr26 with _ | _)
    all_goals
      first | refine K.GL.det (K.e_pick_t rfl rfl) rfl ?_ | refine K.GL.det (K.e_pick_f rfl rfl) rfl ?_
      refine K.GL.det (K.e_move rfl) rfl ?_
      first | refine K.GL.splitB 28 rfl (fun h2 => ?_) (fun h2 => ?_) | skip
      all_goals first | exact absurd h2 (by decide) | replace h2 := of_decide_eq_true h2 | replace h2 := of_decide_eq_false h2 | skip
      all_goals
        first | (refine K.GL.want 28 rfl rfl rfl ?_; first | refine K.GL.det (K.e_move rfl) rfl ?_) | refine K.GL.skip 28 rfl rfl rfl rfl ?_ | refine K.GL.skipU 28 rfl rfl rfl rfl ?_
        first | (refine K.GL.want 28 rfl rfl rfl ?_; first | refine K.GL.det (K.e_len Try.underlying29 rfl) rfl ?_) | refine K.GL.skip 28 rfl rfl rfl rfl ?_ | refine K.GL.skipU 28 rfl rfl rfl rfl ?_
        first | (refine K.GL.want 28 rfl rfl rfl ?_; first | refine K.GL.det ((K.e_ne rfl rfl).yes (by first | omega | assumption | decide +kernel)) rfl ?_ | refine K.GL.det ((K.e_ne rfl rfl).no (by first | omega | assumption | decide +kernel)) rfl ?_ | refine K.GL.det (K.e_ne rfl rfl) rfl ?_) | refine K.GL.skip 28 rfl rfl rfl rfl ?_ | refine K.GL.skipU 28 rfl rfl rfl rfl ?_
        first | refine K.GL.det (K.e_pick_t rfl rfl) rfl ?_ | refine K.GL.det (K.e_pick_f rfl rfl) rfl ?_
        refine K.GL.nil ?_
        refine K.GQ.go ?_
        refine K.GC.condB rfl (fun h3 => ?_) (fun h3 => ?_)
        · first
          | exact absurd h3 (by decide)
          | try replace h3 := of_decide_eq_true h3
            refine K.GC.seq ?_
            refine K.GC.region ?_
            refine K.GL.det (K.e_move rfl) rfl ?_
            refine K.GL.det ((K.e_neqp Try.underlying25 rfl rfl).cast_bool (b := true) rfl) rfl ?_
            refine K.GL.det (K.e_move rfl) rfl ?_
            first | refine K.GL.splitB 35 rfl (fun h4 => ?_) (fun h4 => ?_) | skip
            all_goals first | exact absurd h4 (by decide) | replace h4 := of_decide_eq_true h4 | replace h4 := of_decide_eq_false h4 | skip
            all_goals
              first | (refine K.GL.want 35 rfl rfl rfl ?_; first | refine K.GL.det (K.e_move rfl) rfl ?_) | refine K.GL.skip 35 rfl rfl rfl rfl ?_ | refine K.GL.skipU 35 rfl rfl rfl rfl ?_
              first | refine K.GL.det (K.e_pick_t rfl rfl) rfl ?_ | refine K.GL.det (K.e_pick_f rfl rfl) rfl ?_
              refine K.GL.det (K.e_assign rfl) rfl ?_
              refine K.GL.nil ?_
              refine K.GQ.go ?_
              refine K.GC.ret ?_
              refine K.GQ.then_ret ?_
              refine K.GQ.ret1 Try.results7 rfl (fun w hT => ?_)
              exact ⟨rfl, hT.nil⟩
        · first
          | exact absurd h3 (by decide)
          | try replace h3 := of_decide_eq_false h3
            refine K.GC.skip ?_
            refine K.GQ.go ?_
            refine K.GC.seq ?_
            refine K.GC.seq ?_
            refine K.GC.region ?_
            refine K.GL.det (K.e_assign rfl) rfl ?_
            refine K.GL.nil ?_
            refine K.GQ.go ?_
            refine K.GC.block ?_
            refine K.GC.loopk (α := Nat × DG) [0, 1, 2, 6, 7, 8, 10, 11, 12, 13, 14, 15, 16, 17, 18, 66, 67, 68, 69, 70, 71, 72, 73, 74, 75, 76, 78, 79, 80, 81, 82, 83, 84, 85, 86, 87, 88, 89, 90, 91, 92, 93, 94, 95, 96, 97, 98, 99, 100, 101, 102, 103, 104, 105, 106, 107, 108, 109, 110, 111, 112, 113, 114, 115, 116, 117, 118, 119, 120, 121, 122, 123, 124, 125, 126, 127, 128, 129, 130, 131, 132, 133, 134, 135, 136] rfl (fun x => [(9, .int .i64 (x.1 : Int))]) (fun x => [DevR d x.2]) (fun x => x.1 ≤ n1 ∧ x.2.Ok ∧ Up 8 x.2.v) (fun x => (n1 - x.1)) (0, g) ⟨Nat.zero_le _, hkg, hup⟩ (by (repeat refine ⟨rfl, ?_⟩); exact trivial) (K.Sub.refl _) (fun x hI => ?_)
            obtain ⟨x, g⟩ := x
            obtain ⟨hx, hkg, hup⟩ := hI
            simp only at hx hkg hup ⊢
            refine K.GC.seq ?_
            refine K.GC.seq ?_
            refine K.GC.region ?_
            refine K.GL.det (K.e_move rfl) rfl ?_
            refine K.GL.det (K.e_move rfl) rfl ?_
            refine K.GL.det (K.e_len Try.underlying22 rfl) rfl ?_
            first | refine K.GL.det ((K.e_lt rfl rfl).yes (by first | omega | assumption | decide +kernel)) rfl ?_ | refine K.GL.det ((K.e_lt rfl rfl).no (by first | omega | assumption | decide +kernel)) rfl ?_ | refine K.GL.det (K.e_lt rfl rfl) rfl ?_
            refine K.GL.nil ?_
            refine K.GQ.go ?_
            refine K.GC.condB rfl (fun h5 => ?_) (fun h5 => ?_)
            · first
              | exact absurd h5 (by decide)
              | try replace h5 := of_decide_eq_true h5
                refine K.GC.skip ?_
                refine K.GQ.go ?_
                refine K.GC.seq ?_
                refine K.GC.block ?_
                refine K.GC.seq ?_
                obtain ⟨q, hq⟩ : ∃ q, l1[x]? = some q := get_ex (by omega)
                refine K.GC.region ?_
                refine K.GL.det (K.e_move rfl) rfl ?_
                refine K.GL.det (K.e_move rfl) rfl ?_
                refine K.GL.det (K.e_indexAddrS sl22 rfl rfl hL (by omega) (by omega)) rfl ?_
                refine K.GL.det (K.e_fieldAddr fo33_0 rfl) rfl ?_
                refine K.GL.det (K.e_load_old Try.isAgg3 rfl (by exact (hL.item encO_len hq) 0 _ rfl)) rfl ?_
                first | refine K.GL.det ((K.e_eq rfl rfl).yes (by first | omega | assumption | decide +kernel)) rfl ?_ | refine K.GL.det ((K.e_eq rfl rfl).no (by first | omega | assumption | decide +kernel)) rfl ?_ | refine K.GL.det (K.e_eq rfl rfl) rfl ?_
                refine K.GL.nil ?_
                refine K.GQ.go ?_
                refine K.GC.condB rfl (fun h6 => ?_) (fun h6 => ?_)
                · first
                  | exact absurd h6 (by decide)
                  | try replace h6 := of_decide_eq_true h6
                    refine K.GC.region ?_
                    refine K.GL.det (K.e_move rfl) rfl ?_
                    refine gl_flush Try.call15 rfl hkg rfl (fun g1 hkg1 hvg1 => ?_)
                    obtain ⟨hup1, _, _, _, _⟩ := hup.flush
                    rw [← hvg1] at hup1
                    refine K.GL.nil ?_
                    refine K.GQ.block_normal ?_
                    refine K.GQ.go ?_
                    refine K.GC.region ?_
                    refine K.GL.det (K.e_move rfl) rfl ?_
                    first | refine K.GL.det (K.e_add rfl rfl ⟨by omega, by omega⟩) rfl ?_ | refine K.GL.det (K.e_addw rfl rfl) rfl ?_
                    refine K.GL.det (K.e_assign rfl) rfl ?_
                    refine K.GL.nil ?_
                    exact K.GQ.round (x + 1, g1) ⟨by simp only; omega, hkg1, hup1⟩ (by simp only; omega) (by (repeat refine ⟨rfl, ?_⟩); exact trivial) (Sub.take (i := 0) rfl (Sub.nil _))
                · first
                  | exact absurd h6 (by decide)
                  | try replace h6 := of_decide_eq_false h6
                    refine K.GC.drawn 13 [[], [], [], [1, 2], [1, 2, 3], [1, 2, 3, 4], [1, 2, 3, 4, 5], [], [], [7, 8], [7, 8, 9], [7, 8, 9, 10], [7, 8, 9, 10, 11], [0, 1, 2, 3, 4, 5, 6, 7, 8, 9, 10, 11, 12]] [[], [], [], [1, 2], [3], [4], [5], [], [], [7, 8], [9], [10], [11]] [0, 1, 2, 6, 7, 8, 9, 10, 11, 12, 13, 14, 15, 16, 17, 18, 38, 39, 40, 41, 42, 43, 44, 45, 46, 47, 48, 49, 50, 66, 67, 68, 69, 70, 71, 72, 73, 74, 75, 76, 78, 79, 80, 81, 82, 83, 84, 85, 86, 87, 88, 89, 90, 91, 92, 93, 94, 95, 96, 97, 98, 99, 100, 101, 102, 103, 104, 105, 106, 107, 108, 109, 110, 111, 112, 113, 114, 115, 116, 117, 118, 119, 120, 121, 122, 123, 124, 125, 126, 127, 128, 129, 130, 131, 132, 133, 134, 135, 136] (by kernel_rfl) (by kernel_rfl) rfl ?_
                    refine K.DW.det rfl (fun vs => K.e_move rfl) ?_
                    refine K.DW.det rfl (fun vs => K.e_move rfl) ?_
                    refine K.DW.det rfl (fun vs => K.e_move rfl) ?_
                    refine K.DW.det rfl (fun vs => K.e_indexAddrS sl22 rfl rfl hL (by omega) (by omega)) ?_
                    refine K.DW.det rfl (fun vs => K.e_fieldAddr fo33_1 rfl) ?_
                    refine K.DW.det rfl (fun vs => K.e_load_old Try.isAgg3 rfl (by exact (hL.item encO_len hq) 1 _ rfl)) ?_
                    refine K.DW.det rfl (fun vs => (K.e_and rfl rfl).cast_int (b := ((at7 q.at_ : Nat) : Int)) (at7_val _)) ?_
                    refine K.DW.det rfl (fun vs => K.e_move rfl) ?_
                    refine K.DW.det rfl (fun vs => K.e_move rfl) ?_
                    refine K.DW.det rfl (fun vs => K.e_indexAddrS sl22 rfl rfl hL (by omega) (by omega)) ?_
                    refine K.DW.det rfl (fun vs => K.e_fieldAddr fo33_2 rfl) ?_
                    refine K.DW.det rfl (fun vs => K.e_load_old Try.isAgg5 rfl (by exact (hL.item encO_len hq) 2 _ rfl)) ?_
                    refine K.DW.evO (fun vs hf => K.e_call (Pv := fun u => ∃ b, u = .slice (some ⟨b, 0, none⟩) 64 64) (R := atPtr fun b => cl b 5 (sv (secOf (q.c)))) Try.call23 rfl (fun w hT => (full_con (q.c)).mono fun e w' ⟨b, h1, h2⟩ => ⟨_, h1, ⟨b, rfl⟩, h2⟩)) ?_
                    refine K.DW.fin (fun vs hf => ?_)
                    refine K.GL.keep [0, 1, 2, 6, 7, 8, 9, 10, 11, 12, 13, 14, 15, 16, 17, 18, 38, 39, 40, 41, 42, 43, 44, 45, 46, 47, 48, 49, 50, 52, 53, 54, 55, 56, 57, 58, 59, 60, 61, 62, 63, 64, 66, 67, 68, 69, 70, 71, 72, 73, 74, 75, 76, 78, 79, 80, 81, 82, 83, 84, 85, 86, 87, 88, 89, 90, 91, 92, 93, 94, 95, 96, 97, 98, 99, 100, 101, 102, 103, 104, 105, 106, 107, 108, 109, 110, 111, 112, 113, 114, 115, 116, 117, 118, 119, 120, 121, 122, 123, 124, 125, 126, 127, 128, 129, 130, 131, 132, 133, 134, 135, 136] rfl ?_
                    obtain ⟨⟨b64, e64⟩, _⟩ := hf
                    refine K.GL.own1 (F := [DevR d g]) e64 ?_
                    refine gl_write (i := ((at7 q.at_ : Nat) : Int)) (bs := (secOf (q.c)).1) (a := some ⟨b64, 0, none⟩) (n := 64) (c := 64) Try.call13 (by rw [← e64]; rfl) hkg (fun w hT => own_slice hT (by simp)) rfl (fun g1 hkg1 hvg1 => ?_)
                    obtain ⟨hup1, _, _, _, _⟩ := hup.write (at7_lt q.at_) (secOf q.c)
                    rw [← hvg1] at hup1
                    refine K.GL.nil ?_
                    refine K.GQ.block_normal ?_
                    refine K.GQ.go ?_
                    refine K.GC.region ?_
                    refine K.GL.det (K.e_move rfl) rfl ?_
                    first | refine K.GL.det (K.e_add rfl rfl ⟨by omega, by omega⟩) rfl ?_ | refine K.GL.det (K.e_addw rfl rfl) rfl ?_
                    refine K.GL.det (K.e_assign rfl) rfl ?_
                    refine K.GL.nil ?_
                    exact K.GQ.round (x + 1, g1) ⟨by simp only; omega, hkg1, hup1⟩ (by simp only; omega) (by (repeat refine ⟨rfl, ?_⟩); exact trivial) (Sub.take (i := 0) rfl (Sub.nil _))
            · first
              | exact absurd h5 (by decide)
              | try replace h5 := of_decide_eq_false h5
                refine K.GC.exit ?_
                refine K.GQ.then_exit ?_
                refine K.GQ.then_exit ?_
                refine K.GQ.block_hit ?_
                refine K.GQ.go ?_
                refine K.GC.seq ?_
                have hn64 : n3 = 64 := by omega
                subst hn64
                have hb64 : bs.length = 64 := hlb
                obtain ⟨p3, rfl⟩ : ∃ p, a3 = some p := ⟨_, hB.base (by omega)⟩
                refine K.GC.region ?_
                refine K.GL.det (K.e_move rfl) rfl ?_
                first | refine K.GL.det (K.e_conv Try.underlying5 Try.underlying3 rfl (K.wrap_i64 (by omega) (by omega))) rfl ?_ | refine K.GL.det (K.e_convw Try.underlying5 Try.underlying3 rfl) rfl ?_
                refine K.GL.det ((K.e_rem rfl rfl (by omega) (by omega) (by omega)).cast_int (b := ((k0 % 8 : Nat) : Int)) (by omega)) rfl ?_
                refine K.GL.det (K.e_assign rfl) rfl ?_
                refine K.GL.nil ?_
                refine K.GQ.go ?_
                refine K.GC.seq ?_
                refine K.GC.region ?_
                refine K.GL.det (K.e_move rfl) rfl ?_
                refine K.GL.det (K.e_b2sw Try.underlying29 Try.underlying5 Try.underlying9 rfl (l := bs) (fun w hT => hB.stay hT (fun r hr => by cases hr))) rfl ?_
                refine K.GL.det (K.e_assign rfl) rfl ?_
                refine K.GL.nil ?_
                refine K.GQ.go ?_
                refine K.GC.seq ?_
                refine K.GC.region ?_
                refine K.GL.buildSlice mk29 rfl rfl rfl (fun b71 => ?_)
                refine K.GL.cl_row (c := 0) (k := 1) rfl ?_
                refine K.GL.det (K.e_move rfl) rfl ?_
                refine K.GL.append mk29 rfl rfl rfl rfl (fun w hT => hB.stay hT (fun r hr => by cases hr)) (by omega) (oneCells_spec (oneCells_bv bs)) (by omega) (by omega) _ rfl (fun a73 c73 => ?_)
                refine K.GL.row_open (xs := bv bs) (bv_ne hb64) (fun b74 junk e74 hl74 => ?_)
                subst e74
                refine K.GL.det (K.e_assign rfl) rfl ?_
                refine K.GL.nil ?_
                refine K.GQ.go ?_
                refine K.GC.seq ?_
                refine K.GC.region ?_
                refine K.GL.det (K.e_move rfl) rfl ?_
                refine K.GL.det (K.e_move rfl) rfl ?_
                refine K.GL.det (K.e_move rfl) rfl ?_
                refine gl_write (i := ((k0 % 8 : Nat) : Int)) (bs := bs) (a := some ⟨b74, 0, none⟩) (n := 64) Try.call13 rfl hkg (fun w hT => own_pre hT (by simp) hb64) rfl (fun g1 hkg1 hvg1 => ?_)
                have hk8 : k0 % 8 < 8 := Nat.mod_lt _ (by omega)
                obtain ⟨hup1, _, _, hA1, _⟩ := hup.write hk8 (⟨bs, hb64⟩ : Sec)
                dsimp only at hup1 hA1
                rw [← hvg1] at hup1 hA1
                have hrd : g1.v.read ((k0 % 8 : Nat) : Int) = (bs, 0) := by rw [hup1.read hk8, hA1, if_pos rfl]
                refine K.GL.nil ?_
                refine K.GQ.go ?_
                refine K.GC.seq ?_
                refine K.GC.region ?_
                refine K.GL.det (K.e_move rfl) rfl ?_
                refine K.GL.det (K.e_call1 Try.call29 rfl (fun w hT => done_con (hT.ok _ Pick.mem))) rfl ?_
                refine K.GL.det (K.e_assign rfl) rfl ?_
                refine K.GL.nil ?_
                refine K.GQ.go ?_
                refine K.GC.seq ?_
                refine K.GC.seq ?_
                refine K.GC.region ?_
                refine K.GL.det (K.e_assign rfl) rfl ?_
                refine K.GL.nil ?_
                refine K.GQ.go ?_
                refine K.GC.block ?_
                refine K.GC.loopk (α := Nat × Bytes) [6, 7, 8, 10, 11, 12, 13, 15, 16, 17, 18, 92, 93, 94, 95, 96, 97, 98, 99, 100, 101, 102, 103, 104, 105, 106, 107, 108, 109, 110, 111, 112, 113, 114, 115, 116, 117, 118, 119, 120, 121, 122, 123, 124, 125, 126, 127, 128, 129, 130, 131, 132, 133, 134, 135, 136] rfl (fun y => [(14, .int .i64 (y.1 : Int))]) (fun y => [DevR d g1, cl b74 5 (bv y.2 ++ junk)]) (fun y => y.1 ≤ 64 ∧ y.2.length = 64) (fun y => (64 - y.1)) (0, bs) ⟨Nat.zero_le _, hb64⟩ (by (repeat refine ⟨rfl, ?_⟩); exact trivial) (K.Sub.refl _) (fun y hI => ?_)
                obtain ⟨y, l⟩ := y
                obtain ⟨hy, hl⟩ := hI
                simp only at hy hl ⊢
                refine K.GC.seq ?_
                refine K.GC.seq ?_
                refine K.GC.region ?_
                refine K.GL.det (K.e_move rfl) rfl ?_
                first | refine K.GL.det ((K.e_lt rfl rfl).yes (by first | omega | assumption | decide +kernel)) rfl ?_ | refine K.GL.det ((K.e_lt rfl rfl).no (by first | omega | assumption | decide +kernel)) rfl ?_ | refine K.GL.det (K.e_lt rfl rfl) rfl ?_
                refine K.GL.nil ?_
                refine K.GQ.go ?_
                refine K.GC.condB rfl (fun h7 => ?_) (fun h7 => ?_)
                · first
                  | exact absurd h7 (by decide)
                  | try replace h7 := of_decide_eq_true h7
                    refine K.GC.skip ?_
                    refine K.GQ.go ?_
                    refine K.GC.seq ?_
                    refine K.GC.block ?_
                    obtain ⟨v, hv⟩ : ∃ v, l[y]? = some v := get_ex (by omega)
                    refine K.GC.region ?_
                    refine K.GL.det (K.e_move rfl) rfl ?_
                    refine K.GL.det (K.e_move rfl) rfl ?_
                    refine K.GL.det (K.e_move rfl) rfl ?_
                    refine K.GL.det (K.e_move rfl) rfl ?_
                    refine K.GL.det (K.e_indexAddr sl29 rfl rfl (by omega) (by omega)) rfl ?_
                    refine K.GL.det (K.e_load Try.isAgg5 rfl (pre_get hv (by omega))) rfl ?_
                    refine K.GL.det ((K.e_addw rfl rfl).cast_int (b := ((v + 1 : UInt8).toNat : Int)) (inc_u8 v)) rfl ?_
                    refine K.GL.det (K.e_indexAddr sl29 rfl rfl (by omega) (by omega)) rfl ?_
                    refine K.GL.storeP (cs' := bv (l.set y (v + 1)) ++ junk) rfl rfl rfl Try.sizeOf5 rfl rfl (pre_set (by omega) (by omega)) ?_
                    refine K.GL.nil ?_
                    refine K.GQ.block_normal ?_
                    refine K.GQ.go ?_
                    refine K.GC.region ?_
                    refine K.GL.det (K.e_move rfl) rfl ?_
                    first | refine K.GL.det (K.e_add rfl rfl ⟨by omega, by omega⟩) rfl ?_ | refine K.GL.det (K.e_addw rfl rfl) rfl ?_
                    refine K.GL.det (K.e_assign rfl) rfl ?_
                    refine K.GL.nil ?_
                    exact K.GQ.round (y + 1, l.set y (v + 1)) ⟨by simp only; omega, by simp only [List.length_set]; omega⟩ (by simp only; omega) (by (repeat refine ⟨rfl, ?_⟩); exact trivial) (Sub.refl _)
                · first
                  | exact absurd h7 (by decide)
                  | try replace h7 := of_decide_eq_false h7
                    refine K.GC.exit ?_
                    refine K.GQ.then_exit ?_
                    refine K.GQ.then_exit ?_
                    refine K.GQ.block_hit ?_
                    refine K.GQ.go ?_
                    refine K.GC.seq ?_
                    refine K.GC.region ?_
                    refine K.GL.det (K.e_move rfl) rfl ?_
                    refine K.GL.det (K.e_move rfl) rfl ?_
                    refine gl_readE (i := ((k0 % 8 : Nat) : Int)) Try.call17 rfl hkg1 hrd rfl (fun a95 c95 => ?_)
                    refine K.GL.row_open (bv_ne hb64) (fun b95 junk2 e95 hl95 => ?_)
                    subst e95
                    refine K.GL.det (K.e_move rfl) rfl ?_
                    refine K.GL.det (K.e_extract rfl rfl) rfl ?_
                    refine K.GL.det (K.e_extract rfl rfl) rfl ?_
                    refine K.GL.det (K.e_assign rfl) rfl ?_
                    refine K.GL.det (K.e_assign rfl) rfl ?_
                    refine K.GL.nil ?_
                    refine K.GQ.go ?_
                    refine K.GC.seq ?_
                    refine K.GC.seq ?_
                    refine K.GC.region ?_
                    refine K.GL.det (K.e_move rfl) rfl ?_
                    first | refine K.GL.det ((K.e_ne rfl rfl).yes (by first | omega | assumption | decide +kernel)) rfl ?_ | refine K.GL.det ((K.e_ne rfl rfl).no (by first | omega | assumption | decide +kernel)) rfl ?_ | refine K.GL.det (K.e_ne rfl rfl) rfl ?_
                    refine K.GL.det (K.e_move rfl) rfl ?_
                    first | refine K.GL.splitB 100 rfl (fun h8 => ?_) (fun h8 => ?_) | skip
                    all_goals first | exact absurd h8 (by decide) | replace h8 := of_decide_eq_true h8 | replace h8 := of_decide_eq_false h8 | skip
                    all_goals
                      first | (refine K.GL.want 100 rfl rfl rfl ?_; first | refine K.GL.det (K.e_move rfl) rfl ?_) | refine K.GL.skip 100 rfl rfl rfl rfl ?_ | refine K.GL.skipU 100 rfl rfl rfl rfl ?_
                      first | (refine K.GL.want 100 rfl rfl rfl ?_; first | refine K.GL.det (K.e_b2sw Try.underlying29 Try.underlying5 Try.underlying9 rfl (l := bs) (fun w hT => Sl.pre (hT.ok _ (List.mem_of_getElem? (i := 0) rfl)) (by rw [bv_length, Nat.mul_one]))) rfl ?_) | refine K.GL.skip 100 rfl rfl rfl rfl ?_ | refine K.GL.skipU 100 rfl rfl rfl rfl ?_
                      first | (refine K.GL.want 100 rfl rfl rfl ?_; first | refine K.GL.det (K.e_move rfl) rfl ?_) | refine K.GL.skip 100 rfl rfl rfl rfl ?_ | refine K.GL.skipU 100 rfl rfl rfl rfl ?_
                      first | (refine K.GL.want 100 rfl rfl rfl ?_; first | refine K.GL.det ((K.e_nes Try.underlying9 rfl rfl).no (not_not_intro rfl)) rfl ?_) | refine K.GL.skip 100 rfl rfl rfl rfl ?_ | refine K.GL.skipU 100 rfl rfl rfl rfl ?_
                      first | refine K.GL.det (K.e_pick_t rfl rfl) rfl ?_ | refine K.GL.det (K.e_pick_f rfl rfl) rfl ?_
                      refine K.GL.nil ?_
                      refine K.GQ.go ?_
                      refine K.GC.condB rfl (fun h9 => ?_) (fun h9 => ?_)
                      · first
                        | exact absurd h9 (by decide)
                        | try replace h9 := of_decide_eq_true h9
                          refine K.GC.seq ?_
                          refine K.GC.region ?_
                          refine K.GL.det (K.e_assign rfl) rfl ?_
                          refine K.GL.nil ?_
                          refine K.GQ.go ?_
                          refine K.GC.ret ?_
                          refine K.GQ.then_ret ?_
                          refine K.GQ.ret1 Try.results7 rfl (fun w hT => ?_)
                          exact ⟨rfl, hT.nil⟩
                      · first
                        | exact absurd h9 (by decide)
                        | try replace h9 := of_decide_eq_false h9
                          refine K.GC.skip ?_
                          refine K.GQ.go ?_
                          refine K.GC.seq ?_
                          refine K.GC.seq ?_
                          refine K.GC.region ?_
                          refine K.GL.det (K.e_assign rfl) rfl ?_
                          refine K.GL.nil ?_
                          refine K.GQ.go ?_
                          refine K.GC.block ?_
                          refine K.GC.loopk (α := Nat × Bytes) [6, 7, 8, 10, 11, 13, 15, 18, 118, 119, 120, 121, 122, 123, 124, 125, 126, 127, 128, 129, 130, 131, 132, 133, 134, 135, 136] rfl (fun y => [(17, .int .i64 (y.1 : Int))]) (fun y => [cl b95 66 (bv y.2 ++ junk2), DevR d g1]) (fun y => y.1 ≤ 64 ∧ y.2.length = 64) (fun y => (64 - y.1)) (0, bs) ⟨Nat.zero_le _, hb64⟩ (by (repeat refine ⟨rfl, ?_⟩); exact trivial) (Sub.take (i := 0) rfl (Sub.take (i := 0) rfl (Sub.nil _))) (fun y hI => ?_)
                          obtain ⟨y, l⟩ := y
                          obtain ⟨hy, hl⟩ := hI
                          simp only at hy hl ⊢
                          refine K.GC.seq ?_
                          refine K.GC.seq ?_
                          refine K.GC.region ?_
                          refine K.GL.det (K.e_move rfl) rfl ?_
                          first | refine K.GL.det ((K.e_lt rfl rfl).yes (by first | omega | assumption | decide +kernel)) rfl ?_ | refine K.GL.det ((K.e_lt rfl rfl).no (by first | omega | assumption | decide +kernel)) rfl ?_ | refine K.GL.det (K.e_lt rfl rfl) rfl ?_
                          refine K.GL.nil ?_
                          refine K.GQ.go ?_
                          refine K.GC.condB rfl (fun h10 => ?_) (fun h10 => ?_)
                          · first
                            | exact absurd h10 (by decide)
                            | try replace h10 := of_decide_eq_true h10
                              refine K.GC.skip ?_
                              refine K.GQ.go ?_
                              refine K.GC.seq ?_
                              refine K.GC.block ?_
                              obtain ⟨v, hv⟩ : ∃ v, l[y]? = some v := get_ex (by omega)
                              refine K.GC.region ?_
                              refine K.GL.det (K.e_move rfl) rfl ?_
                              refine K.GL.det (K.e_move rfl) rfl ?_
                              refine K.GL.det (K.e_move rfl) rfl ?_
                              refine K.GL.det (K.e_move rfl) rfl ?_
                              refine K.GL.det (K.e_indexAddr sl29 rfl rfl (by omega) (by omega)) rfl ?_
                              refine K.GL.det (K.e_load Try.isAgg5 rfl (pre_get hv (by omega))) rfl ?_
                              refine K.GL.det ((K.e_addw rfl rfl).cast_int (b := ((v + 1 : UInt8).toNat : Int)) (inc_u8 v)) rfl ?_
                              refine K.GL.det (K.e_indexAddr sl29 rfl rfl (by omega) (by omega)) rfl ?_
                              refine K.GL.storeP (cs' := bv (l.set y (v + 1)) ++ junk2) rfl rfl rfl Try.sizeOf5 rfl rfl (pre_set (by omega) (by omega)) ?_
                              refine K.GL.nil ?_
                              refine K.GQ.block_normal ?_
                              refine K.GQ.go ?_
                              refine K.GC.region ?_
                              refine K.GL.det (K.e_move rfl) rfl ?_
                              first | refine K.GL.det (K.e_add rfl rfl ⟨by omega, by omega⟩) rfl ?_ | refine K.GL.det (K.e_addw rfl rfl) rfl ?_
                              refine K.GL.det (K.e_assign rfl) rfl ?_
                              refine K.GL.nil ?_
                              exact K.GQ.round (y + 1, l.set y (v + 1)) ⟨by simp only; omega, by simp only [List.length_set]; omega⟩ (by simp only; omega) (by (repeat refine ⟨rfl, ?_⟩); exact trivial) (Sub.refl _)
                          · first
                            | exact absurd h10 (by decide)
                            | try replace h10 := of_decide_eq_false h10
                              refine K.GC.exit ?_
                              refine K.GQ.then_exit ?_
                              refine K.GQ.then_exit ?_
                              refine K.GQ.block_hit ?_
                              refine K.GQ.go ?_
                              refine K.GC.seq ?_
                              refine K.GC.region ?_
                              refine K.GL.det (K.e_move rfl) rfl ?_
                              refine K.GL.det (K.e_move rfl) rfl ?_
                              refine gl_readE (i := ((k0 % 8 : Nat) : Int)) Try.call17 rfl hkg1 hrd rfl (fun a121 c121 => ?_)
                              refine K.GL.det (K.e_move rfl) rfl ?_
                              refine K.GL.det (K.e_extract rfl rfl) rfl ?_
                              refine K.GL.det (K.e_extract rfl rfl) rfl ?_
                              refine K.GL.det (K.e_assign rfl) rfl ?_
                              refine K.GL.det (K.e_assign rfl) rfl ?_
                              refine K.GL.nil ?_
                              refine K.GQ.go ?_
                              refine K.GC.seq ?_
                              refine K.GC.region ?_
                              refine K.GL.det (K.e_move rfl) rfl ?_
                              refine K.GL.det (K.e_move rfl) rfl ?_
                              first | refine K.GL.splitB 125 rfl (fun h11 => ?_) (fun h11 => ?_) | skip
                              all_goals first | exact absurd h11 (by decide) | replace h11 := of_decide_eq_true h11 | replace h11 := of_decide_eq_false h11 | skip
                              all_goals
                                first | (refine K.GL.want 125 rfl rfl rfl ?_; first | refine K.GL.det (K.e_move rfl) rfl ?_) | refine K.GL.skip 125 rfl rfl rfl rfl ?_ | refine K.GL.skipU 125 rfl rfl rfl rfl ?_
                                first | (refine K.GL.want 125 rfl rfl rfl ?_; first | refine K.GL.det (K.e_b2sw Try.underlying29 Try.underlying5 Try.underlying9 rfl (fun w hT => hT.sl_row HasW.mem (by omega) (by rw [bv_length, Nat.mul_one]))) rfl ?_) | refine K.GL.skip 125 rfl rfl rfl rfl ?_ | refine K.GL.skipU 125 rfl rfl rfl rfl ?_
                                first | (refine K.GL.want 125 rfl rfl rfl ?_; first | refine K.GL.det (K.e_move rfl) rfl ?_) | refine K.GL.skip 125 rfl rfl rfl rfl ?_ | refine K.GL.skipU 125 rfl rfl rfl rfl ?_
                                first | (refine K.GL.want 125 rfl rfl rfl ?_; first | refine K.GL.det ((K.e_eqs Try.underlying9 rfl rfl).yes rfl) rfl ?_) | refine K.GL.skip 125 rfl rfl rfl rfl ?_ | refine K.GL.skipU 125 rfl rfl rfl rfl ?_
                                first | refine K.GL.det (K.e_pick_t rfl rfl) rfl ?_ | refine K.GL.det (K.e_pick_f rfl rfl) rfl ?_
                                refine K.GL.det (K.e_move rfl) rfl ?_
                                first | refine K.GL.splitB 131 rfl (fun h12 => ?_) (fun h12 => ?_) | skip
                                all_goals first | exact absurd h12 (by decide) | replace h12 := of_decide_eq_true h12 | replace h12 := of_decide_eq_false h12 | skip
                                all_goals
                                  first | (refine K.GL.want 131 rfl rfl rfl ?_; first | refine K.GL.det (K.e_move rfl) rfl ?_) | refine K.GL.skip 131 rfl rfl rfl rfl ?_ | refine K.GL.skipU 131 rfl rfl rfl rfl ?_
                                  first | (refine K.GL.want 131 rfl rfl rfl ?_; first | refine K.GL.det (K.e_call1 Try.call29 rfl (fun w hT => done_con (hT.ok _ Pick.mem))) rfl ?_) | refine K.GL.skip 131 rfl rfl rfl rfl ?_ | refine K.GL.skipU 131 rfl rfl rfl rfl ?_
                                  first | (refine K.GL.want 131 rfl rfl rfl ?_; first | refine K.GL.det (K.e_move rfl) rfl ?_) | refine K.GL.skip 131 rfl rfl rfl rfl ?_ | refine K.GL.skipU 131 rfl rfl rfl rfl ?_
                                  first | (refine K.GL.want 131 rfl rfl rfl ?_; first | refine K.GL.det ((K.e_eq rfl rfl).yes (by first | omega | assumption | decide +kernel)) rfl ?_ | refine K.GL.det ((K.e_eq rfl rfl).no (by first | omega | assumption | decide +kernel)) rfl ?_ | refine K.GL.det (K.e_eq rfl rfl) rfl ?_) | refine K.GL.skip 131 rfl rfl rfl rfl ?_ | refine K.GL.skipU 131 rfl rfl rfl rfl ?_
                                  first | refine K.GL.det (K.e_pick_t rfl rfl) rfl ?_ | refine K.GL.det (K.e_pick_f rfl rfl) rfl ?_
                                  refine K.GL.det (K.e_assign rfl) rfl ?_
                                  refine K.GL.nil ?_
                                  refine K.GQ.go ?_
                                  refine K.GC.ret ?_
                                  refine K.GQ.ret1 Try.results7 rfl (fun w hT => ?_)
                                  exact ⟨rfl, hT.nil⟩

set_option maxHeartbeats 1000000 in
set_option maxRecDepth 100000 in
theorem DevReads_lifted (os : Os) (started : os.Started) (H : Type) (enc : TypeId × Value → H) :
    ReturnsInHanded {} Try.checked os 7 .any (Rows.devReadsSpec.pre6 enc Try.prog Try.f7 Rows.devReadsRow.domain false) (Rows.devReadsSpec.post enc Try.prog Try.f7 false true false false) := by
  refine returnsInHanded_of_change_sized (C := Try.checked) own started (by kernel_rfl) Try.func7
    (ChangeSpec.witness6 (enc := enc) (C := Try.checked) false ⟨#[], #[.slice none 0 0, .int .u8 0, .slice none 0 0], []⟩ 8 (by kernel_rfl) (by kernel_rfl) (by kernel_rfl) (by kernel_rfl)) ?_
  intro W base args ds gs before hval0 hW _ hsz0 _
  have hval : ∀ (j : Nat) t v, Try.f7.params[j]? = some t → args[j]? = some v → Value.okWide Try.prog W .any base t v := hval0
  have hsz : (DataW.weightsEach Try.prog (Try.f7.params.toList ++ []) (ds ++ gs)).all (· ≤ reachBytes) = true := hsz0
  have hW' := hW
  obtain ⟨p, q, hA0, hV, hpe, hfz, hnd⟩ := hW
  have hA : DataW.TrodAll enc Try.prog W 0 (fun _ => true) true Try.f7.params.toList args.toList ds p := hA0
  obtain ⟨rfl, rfl⟩ := trodVars_none hV
  rw [Try.params7] at hA hval hsz
  obtain ⟨v0, vs0, d0, ds0, p0, q0, hargs, rfl, rfl, h0, r0⟩ := trodAll_cons hA
  obtain ⟨v1, vs1, d1, ds1, p1, q1, rfl, rfl, rfl, h1, r1⟩ := trodAll_cons r0
  obtain ⟨v2, vs2, d2, ds2, p2, q2, rfl, rfl, rfl, h2, r2⟩ := trodAll_cons r1
  obtain ⟨rfl, rfl, rfl⟩ := trodAll_nil r2
  obtain rfl : args = #[v0, v1, v2] := by cases args; simp_all
  clear hA0 hval0 hsz0 hA hargs
  obtain ⟨ax, nx, cx, rfl⟩ := okWide_slice Try.underlying22 (hval 0 22 _ rfl rfl)
  obtain ⟨fuelx, hfx⟩ := h0
  obtain ⟨ax', nx', cx', lx, hcsx, hnx, hSx, hGx⟩ := open_ops hfx
  have hcsx' : Value.slice ax nx cx = .slice ax' nx' cx' := by simpa [Value.cells] using hcsx
  simp only [Value.slice.injEq] at hcsx'
  obtain ⟨rfl, rfl, rfl⟩ := hcsx'
  unfold maxLen at hnx
  obtain ⟨k, rfl, rfl, rfl, wk⟩ := open_int Try.underlying5 (hval 1 5 _ rfl rfl) h1
  have bk := bounds_u8 wk
  obtain ⟨k, rfl⟩ := Int.eq_ofNat_of_zero_le bk.1
  obtain ⟨ay, ny, cy, rfl⟩ := okWide_slice Try.underlying29 (hval 2 29 _ rfl rfl)
  obtain ⟨fuely, hfy⟩ := h2
  obtain ⟨ay', ny', cy', ly, hcsy, hny, hSy⟩ := open_bytes hfy
  have hcsy' : Value.slice ay ny cy = .slice ay' ny' cy' := by simpa [Value.cells] using hcsy
  simp only [Value.slice.injEq] at hcsy'
  obtain ⟨rfl, rfl, rfl⟩ := hcsy'
  unfold maxLen at hny
  have core : Calls Try.prog 7 #[.slice ax nx cx, .int .u8 (k : Int), .slice ay ny cy] W fun e W' => e = .returned (.bool true) ∧ Tr W [] W' [] := reads_any W hSx hSy (by omega) (by omega) (by omega)
  exact core.mono fun e W' ⟨he, hT⟩ => ⟨_, he, law_post (tb := 4) hW' rfl rfl Try.underlying4 (fun _ => rfl) laidOut (by kernel_rfl) hT.below⟩
theorem DevReads_holds : Rows.DevReadsSaid :=
  OpenClaim.holds_of_wide 7 Try.f7 rfl rfl rfl rfl rfl rfl rfl ⟨rfl, rfl, rfl, rfl, rfl⟩ rfl rfl rfl rfl rfl (by kernel_rfl) Try.func7 (by kernel_rfl)
    (of_decide_eq_true (by kernel_rfl)) (by unfold Func.isWrapper; first | (rw [if_pos (by decide +kernel)]; kernel_rfl) | (rw [if_neg (by decide +kernel)]; exact ⟨rfl, rfl⟩))
    (fun os started H enc _ => DevReads_lifted os started H enc)

end Go.Proofs.Ytgkdnecjokhkcaa
