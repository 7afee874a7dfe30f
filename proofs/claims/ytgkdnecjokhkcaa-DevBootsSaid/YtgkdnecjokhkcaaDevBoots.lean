/- DevBoots returns true for all calls, and turns nothing. -/
import Derived.ProofKit
import Derived.OpenShut
import Derived.SizedLaws
import Derived.Lib.SmallJoins
import Derived.Test.YtgkdnecjokhkcaaRows
import Derived.Test.YtgkdnecjokhkcaaDevN
namespace Go.Proofs.Ytgkdnecjokhkcaa
open Go Go.K Go.ChangeShapes Go.WideShapes Go.ChangeAt Go.RowKit Go.Joins
set_option linter.unusedVariables false
set_option linter.unusedSimpArgs false
attribute [local irreducible] Calls Ev GL GC GQ GR Code.wp
theorem own : ownKnob Try.prog.godebug = none := by kernel_rfl
theorem laidOut : laidOutB Try.prog = true := by kernel_rfl
theorem arr47 : K.arrOf Try.prog 47 = some (8, 5, 1) := by kernel_rfl
theorem fo33_1 : K.fieldOff Try.prog 33 1 = some (3, 1, 1) := by kernel_rfl
theorem fo33_2 : K.fieldOff Try.prog 33 2 = some (5, 2, 1) := by kernel_rfl
/- turntable/turntablelaw07.DevBoots -/
set_option maxHeartbeats 8000000 in
set_option maxRecDepth 100000 in
theorem boots_any {a1 a2 : Option Addr} {n1 c1 n2 c2 : Nat} {l1 l2 : List OX} (w : World) (hL : Sl w 6 a1 n1 (l1.flatMap encO)) (hM : Sl w 6 a2 n2 (l2.flatMap encO)) (hn1 : n1 ≤ 9223372036854775807) (hn2 : n2 ≤ 9223372036854775807) :
    Calls Try.prog 8 #[.slice a1 n1 c1, .slice a2 n2 c2] w fun e w' => e = .returned (.bool true) ∧ Tr w [] w' [] := by
  have hl1 : l1.length = n1 := hL.count (by omega) encO_len
  have hl2 : l2.length = n2 := hM.count (by omega) encO_len
  refine K.enter0 (args := [_, _]) Try.func8 rfl Try.ntmps8 rfl ?_
  refine K.GC.seq ?_
  refine K.GC.region ?_
  refine K.GL.det (K.e_assign rfl) rfl ?_
  refine K.GL.nil ?_
  refine K.GQ.go ?_
  refine K.GC.seq ?_
  refine K.GC.region ?_
  refine K.GL.det (K.e_call1 Try.call9 rfl (fun w hT => head_con)) rfl ?_
  refine K.GL.det (K.e_assign rfl) rfl ?_
  refine K.GL.nil ?_
  refine K.GQ.go ?_
  refine K.GC.seq ?_
  refine K.GC.region ?_
  refine gl_new (n := 8) Try.call11 rfl (by omega) rfl (fun da ga hkga hvga => ?_)
  have ha : Holds ga.v (fun _ => 0) := by rw [hvga]; exact Holds.new
  refine K.GL.det (K.e_assign rfl) rfl ?_
  refine K.GL.nil ?_
  refine K.GQ.go ?_
  refine K.GC.seq ?_
  refine K.GC.region ?_
  refine gl_new (n := 8) Try.call11 rfl (by omega) rfl (fun db gb hkgb hvgb => ?_)
  have hb : Holds gb.v (fun _ => 0) := by rw [hvgb]; exact Holds.new
  refine K.GL.det (K.e_assign rfl) rfl ?_
  refine K.GL.nil ?_
  refine K.GQ.go ?_
  refine K.GC.seq ?_
  refine K.GC.region ?_
  refine gl_new (n := 8) Try.call11 rfl (by omega) rfl (fun dc gc hkgc hvgc => ?_)
  have hc : Holds gc.v (fun _ => 0) := by rw [hvgc]; exact Holds.new
  refine K.GL.det (K.e_assign rfl) rfl ?_
  refine K.GL.nil ?_
  refine K.GQ.go ?_
  refine K.GC.seq ?_
  refine K.GC.seq ?_
  refine K.GC.region ?_
  refine K.GL.det (K.e_move rfl) rfl ?_
  refine K.GL.det ((K.e_eqlp Try.underlying25 rfl rfl).cast_bool (b := false) rfl) rfl ?_
  refine K.GL.det (K.e_move rfl) rfl ?_
  first | refine K.GL.splitB 28 rfl (fun h1 => ?_) (fun h1 => ?_) | skip
  all_goals first | exact absurd h1 (by decide) | replace h1 := of_decide_eq_true h1 | replace h1 := of_decide_eq_false h1 | skip
  all_goals
    first | (refine K.GL.want 28 rfl rfl rfl ?_; first | refine K.GL.det (K.e_move rfl) rfl ?_) | refine K.GL.skip 28 rfl rfl rfl rfl ?_ | refine K.GL.skipU 28 rfl rfl rfl rfl ?_
    first | (refine K.GL.want 28 rfl rfl rfl ?_; first | refine K.GL.det ((K.e_eqlp Try.underlying25 rfl rfl).cast_bool (b := false) rfl) rfl ?_) | refine K.GL.skip 28 rfl rfl rfl rfl ?_ | refine K.GL.skipU 28 rfl rfl rfl rfl ?_
    first | refine K.GL.det (K.e_pick_t rfl rfl) rfl ?_ | refine K.GL.det (K.e_pick_f rfl rfl) rfl ?_
    refine K.GL.det (K.e_move rfl) rfl ?_
    first | refine K.GL.splitB 32 rfl (fun h2 => ?_) (fun h2 => ?_) | skip
    all_goals first | exact absurd h2 (by decide) | replace h2 := of_decide_eq_true h2 | replace h2 := of_decide_eq_false h2 | skip
    all_goals
      first | (refine K.GL.want 32 rfl rfl rfl ?_; first | refine K.GL.det (K.e_move rfl) rfl ?_) | refine K.GL.skip 32 rfl rfl rfl rfl ?_ | refine K.GL.skipU 32 rfl rfl rfl rfl ?_
      first | (refine K.GL.want 32 rfl rfl rfl ?_; first | refine K.GL.det ((K.e_eqlp Try.underlying25 rfl rfl).cast_bool (b := false) rfl) rfl ?_) | refine K.GL.skip 32 rfl rfl rfl rfl ?_ | refine K.GL.skipU 32 rfl rfl rfl rfl ?_
      first | refine K.GL.det (K.e_pick_t rfl rfl) rfl ?_ | refine K.GL.det (K.e_pick_f rfl rfl) rfl ?_
      refine K.GL.det (K.e_move rfl) rfl ?_
      first | refine K.GL.splitB 36 rfl (fun h3 => ?_) (fun h3 => ?_) | skip
      all_goals first | exact absurd h3 (by decide) | replace h3 := of_decide_eq_true h3 | replace h3 := of_decide_eq_false h3 | skip
      all_goals
        first | (refine K.GL.want 36 rfl rfl rfl ?_; first | refine K.GL.det (K.e_move rfl) rfl ?_) | refine K.GL.skip 36 rfl rfl rfl rfl ?_ | refine K.GL.skipU 36 rfl rfl rfl rfl ?_
        first
          | refine K.GL.skip 36 rfl rfl rfl rfl ?_
          | refine K.GL.skipU 36 rfl rfl rfl rfl ?_
          | (refine K.GL.want 36 rfl rfl rfl ?_
             refine gl_great (l := l1) Try.call10 rfl (fun w hT => hL.stay hT (fun r hr => by cases hr)) (by omega) rfl (fun gr38 hg38 => ?_)
             rcases gr38 with _ | _)
        all_goals
          first | refine K.GL.det (K.e_pick_t rfl rfl) rfl ?_ | refine K.GL.det (K.e_pick_f rfl rfl) rfl ?_
          refine K.GL.det (K.e_move rfl) rfl ?_
          first | refine K.GL.splitB 40 rfl (fun h4 => ?_) (fun h4 => ?_) | skip
          all_goals first | exact absurd h4 (by decide) | replace h4 := of_decide_eq_true h4 | replace h4 := of_decide_eq_false h4 | skip
          all_goals
            first | (refine K.GL.want 40 rfl rfl rfl ?_; first | refine K.GL.det (K.e_move rfl) rfl ?_) | refine K.GL.skip 40 rfl rfl rfl rfl ?_ | refine K.GL.skipU 40 rfl rfl rfl rfl ?_
            first
              | refine K.GL.skip 40 rfl rfl rfl rfl ?_
              | refine K.GL.skipU 40 rfl rfl rfl rfl ?_
              | (refine K.GL.want 40 rfl rfl rfl ?_
                 refine gl_great (l := l2) Try.call10 rfl (fun w hT => hM.stay hT (fun r hr => by cases hr)) (by omega) rfl (fun gr42 hg42 => ?_)
                 rcases gr42 with _ | _)
            all_goals
              first | refine K.GL.det (K.e_pick_t rfl rfl) rfl ?_ | refine K.GL.det (K.e_pick_f rfl rfl) rfl ?_
              refine K.GL.nil ?_
              refine K.GQ.go ?_
              refine K.GC.condB rfl (fun h5 => ?_) (fun h5 => ?_)
              · first
                | exact absurd h5 (by decide)
                | try replace h5 := of_decide_eq_true h5
                  refine K.GC.seq ?_
                  refine K.GC.region ?_
                  refine K.GL.det (K.e_move rfl) rfl ?_
                  refine K.GL.det ((K.e_neqp Try.underlying25 rfl rfl).cast_bool (b := true) rfl) rfl ?_
                  refine K.GL.det (K.e_move rfl) rfl ?_
                  first | refine K.GL.splitB 46 rfl (fun h6 => ?_) (fun h6 => ?_) | skip
                  all_goals first | exact absurd h6 (by decide) | replace h6 := of_decide_eq_true h6 | replace h6 := of_decide_eq_false h6 | skip
                  all_goals
                    first | (refine K.GL.want 46 rfl rfl rfl ?_; first | refine K.GL.det (K.e_move rfl) rfl ?_) | refine K.GL.skip 46 rfl rfl rfl rfl ?_ | refine K.GL.skipU 46 rfl rfl rfl rfl ?_
                    first | (refine K.GL.want 46 rfl rfl rfl ?_; first | refine K.GL.det ((K.e_neqp Try.underlying25 rfl rfl).cast_bool (b := true) rfl) rfl ?_) | refine K.GL.skip 46 rfl rfl rfl rfl ?_ | refine K.GL.skipU 46 rfl rfl rfl rfl ?_
                    first | refine K.GL.det (K.e_pick_t rfl rfl) rfl ?_ | refine K.GL.det (K.e_pick_f rfl rfl) rfl ?_
                    refine K.GL.det (K.e_move rfl) rfl ?_
                    first | refine K.GL.splitB 50 rfl (fun h7 => ?_) (fun h7 => ?_) | skip
                    all_goals first | exact absurd h7 (by decide) | replace h7 := of_decide_eq_true h7 | replace h7 := of_decide_eq_false h7 | skip
                    all_goals
                      first | (refine K.GL.want 50 rfl rfl rfl ?_; first | refine K.GL.det (K.e_move rfl) rfl ?_) | refine K.GL.skip 50 rfl rfl rfl rfl ?_ | refine K.GL.skipU 50 rfl rfl rfl rfl ?_
                      first | (refine K.GL.want 50 rfl rfl rfl ?_; first | refine K.GL.det ((K.e_neqp Try.underlying25 rfl rfl).cast_bool (b := true) rfl) rfl ?_) | refine K.GL.skip 50 rfl rfl rfl rfl ?_ | refine K.GL.skipU 50 rfl rfl rfl rfl ?_
                      first | refine K.GL.det (K.e_pick_t rfl rfl) rfl ?_ | refine K.GL.det (K.e_pick_f rfl rfl) rfl ?_
                      refine K.GL.det (K.e_move rfl) rfl ?_
                      first | refine K.GL.splitB 54 rfl (fun h8 => ?_) (fun h8 => ?_) | skip
                      all_goals first | exact absurd h8 (by decide) | replace h8 := of_decide_eq_true h8 | replace h8 := of_decide_eq_false h8 | skip
                      all_goals
                        first | (refine K.GL.want 54 rfl rfl rfl ?_; first | refine K.GL.det (K.e_move rfl) rfl ?_) | refine K.GL.skip 54 rfl rfl rfl rfl ?_ | refine K.GL.skipU 54 rfl rfl rfl rfl ?_
                        first | refine K.GL.det (K.e_pick_t rfl rfl) rfl ?_ | refine K.GL.det (K.e_pick_f rfl rfl) rfl ?_
                        refine K.GL.det (K.e_assign rfl) rfl ?_
                        refine K.GL.nil ?_
                        refine K.GQ.go ?_
                        refine K.GC.ret ?_
                        refine K.GQ.then_ret ?_
                        refine K.GQ.ret1 Try.results8 rfl (fun w hT => ?_)
                        exact ⟨rfl, hT.nil⟩
              · first
                | exact absurd h5 (by decide)
                | try replace h5 := of_decide_eq_false h5
                  refine K.GC.skip ?_
                  refine K.GQ.go ?_
                  refine K.GC.seq ?_
                  refine K.GC.seq ?_
                  refine K.GC.region ?_
                  refine K.GL.det (K.e_assign rfl) rfl ?_
                  refine K.GL.nil ?_
                  refine K.GQ.go ?_
                  refine K.GC.block ?_
                  refine K.GC.loopk (α := Nat × DG × DG × DG) [0, 1, 4, 5, 6, 7, 8, 10, 11, 12, 14, 16, 17, 18, 19, 20, 105, 107, 109, 111, 112, 113, 114, 115, 116, 117, 118, 119, 120, 121, 122, 123, 124, 125, 126, 127, 128, 129, 131, 132, 133, 134, 135, 136, 137, 138, 139, 140, 141, 142, 143, 145, 147, 148, 150, 151, 152, 153, 154, 155, 156, 157, 158, 159, 160, 161, 162, 163, 164, 165, 166, 167, 168, 169, 170, 171, 172, 173, 174, 175, 176, 177, 178, 179, 180, 181, 182, 183, 184, 185, 186, 187, 188, 189, 190, 192, 194, 195, 196, 197, 198, 199, 200, 201, 202, 203, 204, 205, 206, 207, 208, 209, 210, 211, 212, 213, 214, 215, 216, 217, 218, 219, 220, 221, 222, 223, 224, 225, 226, 227, 228, 229, 230] rfl (fun x => [(9, .int .i64 (x.1 : Int))]) (fun x => [DevR dc x.2.2.2, DevR db x.2.2.1, DevR da x.2.1]) (fun x => x.1 ≤ n1 ∧ (x.2.1.Ok ∧ Holds x.2.1.v (puts (fun _ => 0) (l1.take x.1))) ∧ (x.2.2.1.Ok ∧ Holds x.2.2.1.v (puts (fun _ => 0) (l1.take x.1))) ∧ (x.2.2.2.Ok ∧ Holds x.2.2.2.v (puts (fun _ => 0) (l1.take x.1)))) (fun x => (n1 - x.1)) (0, ga, gb, gc) ⟨Nat.zero_le _, ⟨hkga, ha⟩, ⟨hkgb, hb⟩, ⟨hkgc, hc⟩⟩ (by (repeat refine ⟨rfl, ?_⟩); exact trivial) (K.Sub.refl _) (fun x hI => ?_)
                  obtain ⟨x, ga, gb, gc⟩ := x
                  obtain ⟨hx, ⟨hkga, ha⟩, ⟨hkgb, hb⟩, ⟨hkgc, hc⟩⟩ := hI
                  simp only at hx hkga ha hkgb hb hkgc hc ⊢
                  refine K.GC.seq ?_
                  refine K.GC.seq ?_
                  refine K.GC.region ?_
                  refine K.GL.det (K.e_move rfl) rfl ?_
                  refine K.GL.det (K.e_move rfl) rfl ?_
                  refine K.GL.det (K.e_len Try.underlying22 rfl) rfl ?_
                  first | refine K.GL.det ((K.e_lt rfl rfl).yes (by first | omega | assumption | decide +kernel)) rfl ?_ | refine K.GL.det ((K.e_lt rfl rfl).no (by first | omega | assumption | decide +kernel)) rfl ?_ | refine K.GL.det (K.e_lt rfl rfl) rfl ?_
                  refine K.GL.nil ?_
                  refine K.GQ.go ?_
                  refine K.GC.condB rfl (fun h9 => ?_) (fun h9 => ?_)
                  · first
                    | exact absurd h9 (by decide)
                    | try replace h9 := of_decide_eq_true h9
                      refine K.GC.skip ?_
                      refine K.GQ.go ?_
                      refine K.GC.seq ?_
                      refine K.GC.block ?_
                      refine K.GC.seq ?_
                      obtain ⟨q, hq⟩ : ∃ q, l1[x]? = some q := get_ex (by omega)
                      refine K.GC.drawn 13 [[], [], [], [1, 2], [1, 2, 3], [1, 2, 3, 4], [1, 2, 3, 4, 5], [], [], [7, 8], [7, 8, 9], [7, 8, 9, 10], [7, 8, 9, 10, 11], [0, 1, 2, 3, 4, 5, 6, 7, 8, 9, 10, 11, 12]] [[], [], [], [1, 2], [3], [4], [5], [], [], [7, 8], [9], [10], [11]] [0, 1, 4, 5, 6, 7, 8, 9, 10, 11, 12, 14, 16, 17, 18, 19, 20, 57, 58, 59, 60, 61, 62, 77, 78, 79, 80, 81, 82, 83, 84, 85, 86, 87, 88, 89, 91, 92, 93, 94, 95, 96, 97, 98, 99, 100, 101, 102, 103, 105, 107, 109, 111, 112, 113, 114, 115, 116, 117, 118, 119, 120, 121, 122, 123, 124, 125, 126, 127, 128, 129, 131, 132, 133, 134, 135, 136, 137, 138, 139, 140, 141, 142, 143, 145, 147, 148, 150, 151, 152, 153, 154, 155, 156, 157, 158, 159, 160, 161, 162, 163, 164, 165, 166, 167, 168, 169, 170, 171, 172, 173, 174, 175, 176, 177, 178, 179, 180, 181, 182, 183, 184, 185, 186, 187, 188, 189, 190, 192, 194, 195, 196, 197, 198, 199, 200, 201, 202, 203, 204, 205, 206, 207, 208, 209, 210, 211, 212, 213, 214, 215, 216, 217, 218, 219, 220, 221, 222, 223, 224, 225, 226, 227, 228, 229, 230] (by kernel_rfl) (by kernel_rfl) rfl ?_
                      refine K.DW.det rfl (fun vs => K.e_move rfl) ?_
                      refine K.DW.det rfl (fun vs => K.e_move rfl) ?_
                      refine K.DW.det rfl (fun vs => K.e_move rfl) ?_
                      refine K.DW.det rfl (fun vs => K.e_indexAddrS sl22 rfl rfl hL (by omega) (by omega)) ?_
                      refine K.DW.det rfl (fun vs => K.e_fieldAddr fo33_1 rfl) ?_
                      refine K.DW.det rfl (fun vs => K.e_load_old Try.isAgg3 rfl (by exact (hL.item encO_len hq) 1 _ rfl)) ?_
                      refine K.DW.det rfl (fun vs => (K.e_and rfl rfl).cast_int (b := ((at7 q.at_ : Nat) : Int)) (at7_val _)) ?_
                      refine K.DW.det rfl (fun vs => K.e_move rfl) ?_
                      refine K.DW.det rfl (fun vs => K.e_move rfl) ?_
                      refine K.DW.det rfl (fun vs => K.e_indexAddrS sl22 rfl rfl hL (by omega) (by omega)) ?_
                      refine K.DW.det rfl (fun vs => K.e_fieldAddr fo33_2 rfl) ?_
                      refine K.DW.det rfl (fun vs => K.e_load_old Try.isAgg5 rfl (by exact (hL.item encO_len hq) 2 _ rfl)) ?_
                      refine K.DW.evO (fun vs hf => K.e_call (Pv := fun u => ∃ b, u = .slice (some ⟨b, 0, none⟩) 64 64) (R := atPtr fun b => cl b 5 (sv (secOf (q.c)))) Try.call23 rfl (fun w hT => (full_con (q.c)).mono fun e w' ⟨b, h1, h2⟩ => ⟨_, h1, ⟨b, rfl⟩, h2⟩)) ?_
                      refine K.DW.fin (fun vs hf => ?_)
                      refine K.GL.keep [0, 1, 4, 5, 6, 7, 8, 9, 10, 11, 12, 14, 16, 17, 18, 19, 20, 57, 58, 59, 60, 61, 62, 63, 64, 65, 66, 67, 68, 69, 70, 71, 72, 73, 74, 75, 77, 78, 79, 80, 81, 82, 83, 84, 85, 86, 87, 88, 89, 91, 92, 93, 94, 95, 96, 97, 98, 99, 100, 101, 102, 103, 105, 107, 109, 111, 112, 113, 114, 115, 116, 117, 118, 119, 120, 121, 122, 123, 124, 125, 126, 127, 128, 129, 131, 132, 133, 134, 135, 136, 137, 138, 139, 140, 141, 142, 143, 145, 147, 148, 150, 151, 152, 153, 154, 155, 156, 157, 158, 159, 160, 161, 162, 163, 164, 165, 166, 167, 168, 169, 170, 171, 172, 173, 174, 175, 176, 177, 178, 179, 180, 181, 182, 183, 184, 185, 186, 187, 188, 189, 190, 192, 194, 195, 196, 197, 198, 199, 200, 201, 202, 203, 204, 205, 206, 207, 208, 209, 210, 211, 212, 213, 214, 215, 216, 217, 218, 219, 220, 221, 222, 223, 224, 225, 226, 227, 228, 229, 230] rfl ?_
                      obtain ⟨⟨b75, e75⟩, _⟩ := hf
                      refine K.GL.own1 (F := [DevR dc gc, DevR db gb, DevR da ga]) e75 ?_
                      refine gl_write (i := ((at7 q.at_ : Nat) : Int)) (bs := (secOf (q.c)).1) (a := some ⟨b75, 0, none⟩) (n := 64) (c := 64) Try.call13 (by rw [← e75]; rfl) hkga (fun w hT => own_slice hT (by simp)) rfl (fun ga1 hkga1 hvga1 => ?_)
                      obtain ⟨ha1, _⟩ := ha.put q
                      rw [← hvga1, ← puts_next hq] at ha1
                      refine K.GL.nil ?_
                      refine K.GQ.go ?_
                      refine K.GC.seq ?_
                      refine K.GC.drawn 13 [[], [], [], [1, 2], [1, 2, 3], [1, 2, 3, 4], [1, 2, 3, 4, 5], [], [], [7, 8], [7, 8, 9], [7, 8, 9, 10], [7, 8, 9, 10, 11], [0, 1, 2, 3, 4, 5, 6, 7, 8, 9, 10, 11, 12]] [[], [], [], [1, 2], [3], [4], [5], [], [], [7, 8], [9], [10], [11]] [0, 1, 4, 5, 6, 7, 8, 9, 10, 11, 12, 14, 16, 17, 18, 19, 20, 57, 58, 59, 60, 61, 62, 63, 64, 65, 66, 67, 68, 69, 70, 71, 72, 73, 74, 75, 91, 92, 93, 94, 95, 96, 97, 98, 99, 100, 101, 102, 103, 105, 107, 109, 111, 112, 113, 114, 115, 116, 117, 118, 119, 120, 121, 122, 123, 124, 125, 126, 127, 128, 129, 131, 132, 133, 134, 135, 136, 137, 138, 139, 140, 141, 142, 143, 145, 147, 148, 150, 151, 152, 153, 154, 155, 156, 157, 158, 159, 160, 161, 162, 163, 164, 165, 166, 167, 168, 169, 170, 171, 172, 173, 174, 175, 176, 177, 178, 179, 180, 181, 182, 183, 184, 185, 186, 187, 188, 189, 190, 192, 194, 195, 196, 197, 198, 199, 200, 201, 202, 203, 204, 205, 206, 207, 208, 209, 210, 211, 212, 213, 214, 215, 216, 217, 218, 219, 220, 221, 222, 223, 224, 225, 226, 227, 228, 229, 230] (by kernel_rfl) (by kernel_rfl) rfl ?_
                      refine K.DW.det rfl (fun vs => K.e_move rfl) ?_
                      refine K.DW.det rfl (fun vs => K.e_move rfl) ?_
                      refine K.DW.det rfl (fun vs => K.e_move rfl) ?_
                      refine K.DW.det rfl (fun vs => K.e_indexAddrS sl22 rfl rfl hL (by omega) (by omega)) ?_
                      refine K.DW.det rfl (fun vs => K.e_fieldAddr fo33_1 rfl) ?_
                      refine K.DW.det rfl (fun vs => K.e_load_old Try.isAgg3 rfl (by exact (hL.item encO_len hq) 1 _ rfl)) ?_
                      refine K.DW.det rfl (fun vs => (K.e_and rfl rfl).cast_int (b := ((at7 q.at_ : Nat) : Int)) (at7_val _)) ?_
                      refine K.DW.det rfl (fun vs => K.e_move rfl) ?_
                      refine K.DW.det rfl (fun vs => K.e_move rfl) ?_
                      refine K.DW.det rfl (fun vs => K.e_indexAddrS sl22 rfl rfl hL (by omega) (by omega)) ?_
                      refine K.DW.det rfl (fun vs => K.e_fieldAddr fo33_2 rfl) ?_
                      refine K.DW.det rfl (fun vs => K.e_load_old Try.isAgg5 rfl (by exact (hL.item encO_len hq) 2 _ rfl)) ?_
                      refine K.DW.evO (fun vs hf => K.e_call (Pv := fun u => ∃ b, u = .slice (some ⟨b, 0, none⟩) 64 64) (R := atPtr fun b => cl b 5 (sv (secOf (q.c)))) Try.call23 rfl (fun w hT => (full_con (q.c)).mono fun e w' ⟨b, h1, h2⟩ => ⟨_, h1, ⟨b, rfl⟩, h2⟩)) ?_
                      refine K.DW.fin (fun vs hf => ?_)
                      refine K.GL.keep [0, 1, 4, 5, 6, 7, 8, 9, 10, 11, 12, 14, 16, 17, 18, 19, 20, 57, 58, 59, 60, 61, 62, 63, 64, 65, 66, 67, 68, 69, 70, 71, 72, 73, 74, 75, 77, 78, 79, 80, 81, 82, 83, 84, 85, 86, 87, 88, 89, 91, 92, 93, 94, 95, 96, 97, 98, 99, 100, 101, 102, 103, 105, 107, 109, 111, 112, 113, 114, 115, 116, 117, 118, 119, 120, 121, 122, 123, 124, 125, 126, 127, 128, 129, 131, 132, 133, 134, 135, 136, 137, 138, 139, 140, 141, 142, 143, 145, 147, 148, 150, 151, 152, 153, 154, 155, 156, 157, 158, 159, 160, 161, 162, 163, 164, 165, 166, 167, 168, 169, 170, 171, 172, 173, 174, 175, 176, 177, 178, 179, 180, 181, 182, 183, 184, 185, 186, 187, 188, 189, 190, 192, 194, 195, 196, 197, 198, 199, 200, 201, 202, 203, 204, 205, 206, 207, 208, 209, 210, 211, 212, 213, 214, 215, 216, 217, 218, 219, 220, 221, 222, 223, 224, 225, 226, 227, 228, 229, 230] rfl ?_
                      obtain ⟨⟨b89, e89⟩, _⟩ := hf
                      refine K.GL.own1 (F := [DevR da ga1, cl b75 5 (sv (secOf q.c)), DevR dc gc, DevR db gb]) e89 ?_
                      refine gl_write (i := ((at7 q.at_ : Nat) : Int)) (bs := (secOf (q.c)).1) (a := some ⟨b89, 0, none⟩) (n := 64) (c := 64) Try.call13 (by rw [← e89]; rfl) hkgb (fun w hT => own_slice hT (by simp)) rfl (fun gb1 hkgb1 hvgb1 => ?_)
                      obtain ⟨hb1, _⟩ := hb.put q
                      rw [← hvgb1, ← puts_next hq] at hb1
                      refine K.GL.nil ?_
                      refine K.GQ.go ?_
                      refine K.GC.drawn 13 [[], [], [], [1, 2], [1, 2, 3], [1, 2, 3, 4], [1, 2, 3, 4, 5], [], [], [7, 8], [7, 8, 9], [7, 8, 9, 10], [7, 8, 9, 10, 11], [0, 1, 2, 3, 4, 5, 6, 7, 8, 9, 10, 11, 12]] [[], [], [], [1, 2], [3], [4], [5], [], [], [7, 8], [9], [10], [11]] [0, 1, 4, 5, 6, 7, 8, 9, 10, 11, 12, 14, 16, 17, 18, 19, 20, 57, 58, 59, 60, 61, 62, 63, 64, 65, 66, 67, 68, 69, 70, 71, 72, 73, 74, 75, 77, 78, 79, 80, 81, 82, 83, 84, 85, 86, 87, 88, 89, 105, 107, 109, 111, 112, 113, 114, 115, 116, 117, 118, 119, 120, 121, 122, 123, 124, 125, 126, 127, 128, 129, 131, 132, 133, 134, 135, 136, 137, 138, 139, 140, 141, 142, 143, 145, 147, 148, 150, 151, 152, 153, 154, 155, 156, 157, 158, 159, 160, 161, 162, 163, 164, 165, 166, 167, 168, 169, 170, 171, 172, 173, 174, 175, 176, 177, 178, 179, 180, 181, 182, 183, 184, 185, 186, 187, 188, 189, 190, 192, 194, 195, 196, 197, 198, 199, 200, 201, 202, 203, 204, 205, 206, 207, 208, 209, 210, 211, 212, 213, 214, 215, 216, 217, 218, 219, 220, 221, 222, 223, 224, 225, 226, 227, 228, 229, 230] (by kernel_rfl) (by kernel_rfl) rfl ?_
                      refine K.DW.det rfl (fun vs => K.e_move rfl) ?_
                      refine K.DW.det rfl (fun vs => K.e_move rfl) ?_
                      refine K.DW.det rfl (fun vs => K.e_move rfl) ?_
                      refine K.DW.det rfl (fun vs => K.e_indexAddrS sl22 rfl rfl hL (by omega) (by omega)) ?_
                      refine K.DW.det rfl (fun vs => K.e_fieldAddr fo33_1 rfl) ?_
                      refine K.DW.det rfl (fun vs => K.e_load_old Try.isAgg3 rfl (by exact (hL.item encO_len hq) 1 _ rfl)) ?_
                      refine K.DW.det rfl (fun vs => (K.e_and rfl rfl).cast_int (b := ((at7 q.at_ : Nat) : Int)) (at7_val _)) ?_
                      refine K.DW.det rfl (fun vs => K.e_move rfl) ?_
                      refine K.DW.det rfl (fun vs => K.e_move rfl) ?_
                      refine K.DW.det rfl (fun vs => K.e_indexAddrS sl22 rfl rfl hL (by omega) (by omega)) ?_
                      refine K.DW.det rfl (fun vs => K.e_fieldAddr fo33_2 rfl) ?_
                      refine K.DW.det rfl (fun vs => K.e_load_old Try.isAgg5 rfl (by exact (hL.item encO_len hq) 2 _ rfl)) ?_
                      refine K.DW.evO (fun vs hf => K.e_call (Pv := fun u => ∃ b, u = .slice (some ⟨b, 0, none⟩) 64 64) (R := atPtr fun b => cl b 5 (sv (secOf (q.c)))) Try.call23 rfl (fun w hT => (full_con (q.c)).mono fun e w' ⟨b, h1, h2⟩ => ⟨_, h1, ⟨b, rfl⟩, h2⟩)) ?_
                      refine K.DW.fin (fun vs hf => ?_)
                      refine K.GL.keep [0, 1, 4, 5, 6, 7, 8, 9, 10, 11, 12, 14, 16, 17, 18, 19, 20, 57, 58, 59, 60, 61, 62, 63, 64, 65, 66, 67, 68, 69, 70, 71, 72, 73, 74, 75, 77, 78, 79, 80, 81, 82, 83, 84, 85, 86, 87, 88, 89, 91, 92, 93, 94, 95, 96, 97, 98, 99, 100, 101, 102, 103, 105, 107, 109, 111, 112, 113, 114, 115, 116, 117, 118, 119, 120, 121, 122, 123, 124, 125, 126, 127, 128, 129, 131, 132, 133, 134, 135, 136, 137, 138, 139, 140, 141, 142, 143, 145, 147, 148, 150, 151, 152, 153, 154, 155, 156, 157, 158, 159, 160, 161, 162, 163, 164, 165, 166, 167, 168, 169, 170, 171, 172, 173, 174, 175, 176, 177, 178, 179, 180, 181, 182, 183, 184, 185, 186, 187, 188, 189, 190, 192, 194, 195, 196, 197, 198, 199, 200, 201, 202, 203, 204, 205, 206, 207, 208, 209, 210, 211, 212, 213, 214, 215, 216, 217, 218, 219, 220, 221, 222, 223, 224, 225, 226, 227, 228, 229, 230] rfl ?_
                      obtain ⟨⟨b103, e103⟩, _⟩ := hf
                      refine K.GL.own1 (F := [DevR db gb1, cl b89 5 (sv (secOf q.c)), DevR da ga1, cl b75 5 (sv (secOf q.c)), DevR dc gc]) e103 ?_
                      refine gl_write (i := ((at7 q.at_ : Nat) : Int)) (bs := (secOf (q.c)).1) (a := some ⟨b103, 0, none⟩) (n := 64) (c := 64) Try.call13 (by rw [← e103]; rfl) hkgc (fun w hT => own_slice hT (by simp)) rfl (fun gc1 hkgc1 hvgc1 => ?_)
                      obtain ⟨hc1, _⟩ := hc.put q
                      rw [← hvgc1, ← puts_next hq] at hc1
                      refine K.GL.nil ?_
                      refine K.GQ.block_normal ?_
                      refine K.GQ.go ?_
                      refine K.GC.region ?_
                      refine K.GL.det (K.e_move rfl) rfl ?_
                      first | refine K.GL.det (K.e_add rfl rfl ⟨by omega, by omega⟩) rfl ?_ | refine K.GL.det (K.e_addw rfl rfl) rfl ?_
                      refine K.GL.det (K.e_assign rfl) rfl ?_
                      refine K.GL.nil ?_
                      exact K.GQ.round (x + 1, ga1, gb1, gc1) ⟨by simp only; omega, ⟨hkga1, ha1⟩, ⟨hkgb1, hb1⟩, ⟨hkgc1, hc1⟩⟩ (by simp only; omega) (by (repeat refine ⟨rfl, ?_⟩); exact trivial) (Sub.take (i := 0) rfl (Sub.take (i := 1) rfl (Sub.take (i := 2) rfl (Sub.nil _))))
                  · first
                    | exact absurd h9 (by decide)
                    | try replace h9 := of_decide_eq_false h9
                      refine K.GC.exit ?_
                      refine K.GQ.then_exit ?_
                      refine K.GQ.then_exit ?_
                      refine K.GQ.block_hit ?_
                      refine K.GQ.go ?_
                      refine K.GC.seq ?_
                      have e1 : l1.take x = l1 := List.take_of_length_le (by omega)
                      rw [e1] at ha hb hc
                      obtain ⟨f0, hf0⟩ : ∃ f, f = puts (fun _ => 0) l1 := ⟨_, rfl⟩
                      rw [← hf0] at ha hb hc
                      refine K.GC.region ?_
                      refine K.GL.det (K.e_move rfl) rfl ?_
                      refine gl_flush Try.call15 rfl hkga rfl (fun ga2 hkga2 hvga2 => ?_)
                      obtain ⟨ha2, _⟩ := ha.flush
                      rw [← hvga2] at ha2
                      refine K.GL.nil ?_
                      refine K.GQ.go ?_
                      refine K.GC.seq ?_
                      refine K.GC.region ?_
                      refine K.GL.det (K.e_move rfl) rfl ?_
                      refine gl_flush Try.call15 rfl hkgb rfl (fun gb2 hkgb2 hvgb2 => ?_)
                      obtain ⟨hb2, _⟩ := hb.flush
                      rw [← hvgb2] at hb2
                      refine K.GL.nil ?_
                      refine K.GQ.go ?_
                      refine K.GC.seq ?_
                      refine K.GC.region ?_
                      refine K.GL.det (K.e_move rfl) rfl ?_
                      refine gl_flush Try.call15 rfl hkgc rfl (fun gc2 hkgc2 hvgc2 => ?_)
                      obtain ⟨hc2, hcK⟩ := hc.flush
                      rw [← hvgc2] at hc2 hcK
                      refine K.GL.nil ?_
                      refine K.GQ.go ?_
                      refine K.GC.seq ?_
                      refine K.GC.seq ?_
                      refine K.GC.region ?_
                      refine K.GL.det (K.e_assign rfl) rfl ?_
                      refine K.GL.nil ?_
                      refine K.GQ.go ?_
                      refine K.GC.block ?_
                      refine K.GC.loopk (α := Nat × DG × DG) [0, 1, 4, 5, 6, 7, 8, 11, 12, 14, 16, 17, 18, 19, 20, 145, 147, 148, 150, 151, 152, 153, 154, 155, 156, 157, 158, 159, 160, 161, 162, 163, 164, 165, 166, 167, 168, 169, 170, 171, 172, 173, 174, 175, 176, 177, 178, 179, 180, 181, 182, 183, 184, 185, 186, 187, 188, 189, 190, 192, 194, 195, 196, 197, 198, 199, 200, 201, 202, 203, 204, 205, 206, 207, 208, 209, 210, 211, 212, 213, 214, 215, 216, 217, 218, 219, 220, 221, 222, 223, 224, 225, 226, 227, 228, 229, 230] rfl (fun y => [(10, .int .i64 (y.1 : Int))]) (fun y => [DevR dc gc2, DevR db y.2.2, DevR da y.2.1]) (fun y => y.1 ≤ n2 ∧ (y.2.1.Ok ∧ Holds y.2.1.v (puts f0 (l2.take y.1))) ∧ (y.2.2.Ok ∧ Holds y.2.2.v (puts f0 (l2.take y.1)))) (fun y => (n2 - y.1)) (0, ga2, gb2) ⟨Nat.zero_le _, ⟨hkga2, ha2⟩, ⟨hkgb2, hb2⟩⟩ (by (repeat refine ⟨rfl, ?_⟩); exact trivial) (K.Sub.refl _) (fun y hI => ?_)
                      obtain ⟨y, ga, gb⟩ := y
                      obtain ⟨hy, ⟨hkga, ha⟩, ⟨hkgb, hb⟩⟩ := hI
                      simp only at hy hkga ha hkgb hb ⊢
                      refine K.GC.seq ?_
                      refine K.GC.seq ?_
                      refine K.GC.region ?_
                      refine K.GL.det (K.e_move rfl) rfl ?_
                      refine K.GL.det (K.e_move rfl) rfl ?_
                      refine K.GL.det (K.e_len Try.underlying22 rfl) rfl ?_
                      first | refine K.GL.det ((K.e_lt rfl rfl).yes (by first | omega | assumption | decide +kernel)) rfl ?_ | refine K.GL.det ((K.e_lt rfl rfl).no (by first | omega | assumption | decide +kernel)) rfl ?_ | refine K.GL.det (K.e_lt rfl rfl) rfl ?_
                      refine K.GL.nil ?_
                      refine K.GQ.go ?_
                      refine K.GC.condB rfl (fun h10 => ?_) (fun h10 => ?_)
                      · first
                        | exact absurd h10 (by decide)
                        | try replace h10 := of_decide_eq_true h10
                          refine K.GC.skip ?_
                          refine K.GQ.go ?_
                          refine K.GC.seq ?_
                          refine K.GC.block ?_
                          refine K.GC.seq ?_
                          obtain ⟨q, hq⟩ : ∃ q, l2[y]? = some q := get_ex (by omega)
                          refine K.GC.drawn 13 [[], [], [], [1, 2], [1, 2, 3], [1, 2, 3, 4], [1, 2, 3, 4, 5], [], [], [7, 8], [7, 8, 9], [7, 8, 9, 10], [7, 8, 9, 10, 11], [0, 1, 2, 3, 4, 5, 6, 7, 8, 9, 10, 11, 12]] [[], [], [], [1, 2], [3], [4], [5], [], [], [7, 8], [9], [10], [11]] [0, 1, 4, 5, 6, 7, 8, 10, 11, 12, 14, 16, 17, 18, 19, 20, 111, 112, 113, 114, 115, 116, 131, 132, 133, 134, 135, 136, 137, 138, 139, 140, 141, 142, 143, 145, 147, 148, 150, 151, 152, 153, 154, 155, 156, 157, 158, 159, 160, 161, 162, 163, 164, 165, 166, 167, 168, 169, 170, 171, 172, 173, 174, 175, 176, 177, 178, 179, 180, 181, 182, 183, 184, 185, 186, 187, 188, 189, 190, 192, 194, 195, 196, 197, 198, 199, 200, 201, 202, 203, 204, 205, 206, 207, 208, 209, 210, 211, 212, 213, 214, 215, 216, 217, 218, 219, 220, 221, 222, 223, 224, 225, 226, 227, 228, 229, 230] (by kernel_rfl) (by kernel_rfl) rfl ?_
                          refine K.DW.det rfl (fun vs => K.e_move rfl) ?_
                          refine K.DW.det rfl (fun vs => K.e_move rfl) ?_
                          refine K.DW.det rfl (fun vs => K.e_move rfl) ?_
                          refine K.DW.det rfl (fun vs => K.e_indexAddrS sl22 rfl rfl hM (by omega) (by omega)) ?_
                          refine K.DW.det rfl (fun vs => K.e_fieldAddr fo33_1 rfl) ?_
                          refine K.DW.det rfl (fun vs => K.e_load_old Try.isAgg3 rfl (by exact (hM.item encO_len hq) 1 _ rfl)) ?_
                          refine K.DW.det rfl (fun vs => (K.e_and rfl rfl).cast_int (b := ((at7 q.at_ : Nat) : Int)) (at7_val _)) ?_
                          refine K.DW.det rfl (fun vs => K.e_move rfl) ?_
                          refine K.DW.det rfl (fun vs => K.e_move rfl) ?_
                          refine K.DW.det rfl (fun vs => K.e_indexAddrS sl22 rfl rfl hM (by omega) (by omega)) ?_
                          refine K.DW.det rfl (fun vs => K.e_fieldAddr fo33_2 rfl) ?_
                          refine K.DW.det rfl (fun vs => K.e_load_old Try.isAgg5 rfl (by exact (hM.item encO_len hq) 2 _ rfl)) ?_
                          refine K.DW.evO (fun vs hf => K.e_call (Pv := fun u => ∃ b, u = .slice (some ⟨b, 0, none⟩) 64 64) (R := atPtr fun b => cl b 5 (sv (secOf (q.c)))) Try.call23 rfl (fun w hT => (full_con (q.c)).mono fun e w' ⟨b, h1, h2⟩ => ⟨_, h1, ⟨b, rfl⟩, h2⟩)) ?_
                          refine K.DW.fin (fun vs hf => ?_)
                          refine K.GL.keep [0, 1, 4, 5, 6, 7, 8, 10, 11, 12, 14, 16, 17, 18, 19, 20, 111, 112, 113, 114, 115, 116, 117, 118, 119, 120, 121, 122, 123, 124, 125, 126, 127, 128, 129, 131, 132, 133, 134, 135, 136, 137, 138, 139, 140, 141, 142, 143, 145, 147, 148, 150, 151, 152, 153, 154, 155, 156, 157, 158, 159, 160, 161, 162, 163, 164, 165, 166, 167, 168, 169, 170, 171, 172, 173, 174, 175, 176, 177, 178, 179, 180, 181, 182, 183, 184, 185, 186, 187, 188, 189, 190, 192, 194, 195, 196, 197, 198, 199, 200, 201, 202, 203, 204, 205, 206, 207, 208, 209, 210, 211, 212, 213, 214, 215, 216, 217, 218, 219, 220, 221, 222, 223, 224, 225, 226, 227, 228, 229, 230] rfl ?_
                          obtain ⟨⟨b129, e129⟩, _⟩ := hf
                          refine K.GL.own1 (F := [DevR dc gc2, DevR db gb, DevR da ga]) e129 ?_
                          refine gl_write (i := ((at7 q.at_ : Nat) : Int)) (bs := (secOf (q.c)).1) (a := some ⟨b129, 0, none⟩) (n := 64) (c := 64) Try.call13 (by rw [← e129]; rfl) hkga (fun w hT => own_slice hT (by simp)) rfl (fun ga3 hkga3 hvga3 => ?_)
                          obtain ⟨ha3, _⟩ := ha.put q
                          rw [← hvga3, ← puts_next hq] at ha3
                          refine K.GL.nil ?_
                          refine K.GQ.go ?_
                          refine K.GC.drawn 13 [[], [], [], [1, 2], [1, 2, 3], [1, 2, 3, 4], [1, 2, 3, 4, 5], [], [], [7, 8], [7, 8, 9], [7, 8, 9, 10], [7, 8, 9, 10, 11], [0, 1, 2, 3, 4, 5, 6, 7, 8, 9, 10, 11, 12]] [[], [], [], [1, 2], [3], [4], [5], [], [], [7, 8], [9], [10], [11]] [0, 1, 4, 5, 6, 7, 8, 10, 11, 12, 14, 16, 17, 18, 19, 20, 111, 112, 113, 114, 115, 116, 117, 118, 119, 120, 121, 122, 123, 124, 125, 126, 127, 128, 129, 145, 147, 148, 150, 151, 152, 153, 154, 155, 156, 157, 158, 159, 160, 161, 162, 163, 164, 165, 166, 167, 168, 169, 170, 171, 172, 173, 174, 175, 176, 177, 178, 179, 180, 181, 182, 183, 184, 185, 186, 187, 188, 189, 190, 192, 194, 195, 196, 197, 198, 199, 200, 201, 202, 203, 204, 205, 206, 207, 208, 209, 210, 211, 212, 213, 214, 215, 216, 217, 218, 219, 220, 221, 222, 223, 224, 225, 226, 227, 228, 229, 230] (by kernel_rfl) (by kernel_rfl) rfl ?_
                          refine K.DW.det rfl (fun vs => K.e_move rfl) ?_
                          refine K.DW.det rfl (fun vs => K.e_move rfl) ?_
                          refine K.DW.det rfl (fun vs => K.e_move rfl) ?_
                          refine K.DW.det rfl (fun vs => K.e_indexAddrS sl22 rfl rfl hM (by omega) (by omega)) ?_
                          refine K.DW.det rfl (fun vs => K.e_fieldAddr fo33_1 rfl) ?_
                          refine K.DW.det rfl (fun vs => K.e_load_old Try.isAgg3 rfl (by exact (hM.item encO_len hq) 1 _ rfl)) ?_
                          refine K.DW.det rfl (fun vs => (K.e_and rfl rfl).cast_int (b := ((at7 q.at_ : Nat) : Int)) (at7_val _)) ?_
                          refine K.DW.det rfl (fun vs => K.e_move rfl) ?_
                          refine K.DW.det rfl (fun vs => K.e_move rfl) ?_
                          refine K.DW.det rfl (fun vs => K.e_indexAddrS sl22 rfl rfl hM (by omega) (by omega)) ?_
                          refine K.DW.det rfl (fun vs => K.e_fieldAddr fo33_2 rfl) ?_
                          refine K.DW.det rfl (fun vs => K.e_load_old Try.isAgg5 rfl (by exact (hM.item encO_len hq) 2 _ rfl)) ?_
                          refine K.DW.evO (fun vs hf => K.e_call (Pv := fun u => ∃ b, u = .slice (some ⟨b, 0, none⟩) 64 64) (R := atPtr fun b => cl b 5 (sv (secOf (q.c)))) Try.call23 rfl (fun w hT => (full_con (q.c)).mono fun e w' ⟨b, h1, h2⟩ => ⟨_, h1, ⟨b, rfl⟩, h2⟩)) ?_
                          refine K.DW.fin (fun vs hf => ?_)
                          refine K.GL.keep [0, 1, 4, 5, 6, 7, 8, 10, 11, 12, 14, 16, 17, 18, 19, 20, 111, 112, 113, 114, 115, 116, 117, 118, 119, 120, 121, 122, 123, 124, 125, 126, 127, 128, 129, 131, 132, 133, 134, 135, 136, 137, 138, 139, 140, 141, 142, 143, 145, 147, 148, 150, 151, 152, 153, 154, 155, 156, 157, 158, 159, 160, 161, 162, 163, 164, 165, 166, 167, 168, 169, 170, 171, 172, 173, 174, 175, 176, 177, 178, 179, 180, 181, 182, 183, 184, 185, 186, 187, 188, 189, 190, 192, 194, 195, 196, 197, 198, 199, 200, 201, 202, 203, 204, 205, 206, 207, 208, 209, 210, 211, 212, 213, 214, 215, 216, 217, 218, 219, 220, 221, 222, 223, 224, 225, 226, 227, 228, 229, 230] rfl ?_
                          obtain ⟨⟨b143, e143⟩, _⟩ := hf
                          refine K.GL.own1 (F := [DevR da ga3, cl b129 5 (sv (secOf q.c)), DevR dc gc2, DevR db gb]) e143 ?_
                          refine gl_write (i := ((at7 q.at_ : Nat) : Int)) (bs := (secOf (q.c)).1) (a := some ⟨b143, 0, none⟩) (n := 64) (c := 64) Try.call13 (by rw [← e143]; rfl) hkgb (fun w hT => own_slice hT (by simp)) rfl (fun gb3 hkgb3 hvgb3 => ?_)
                          obtain ⟨hb3, _⟩ := hb.put q
                          rw [← hvgb3, ← puts_next hq] at hb3
                          refine K.GL.nil ?_
                          refine K.GQ.block_normal ?_
                          refine K.GQ.go ?_
                          refine K.GC.region ?_
                          refine K.GL.det (K.e_move rfl) rfl ?_
                          first | refine K.GL.det (K.e_add rfl rfl ⟨by omega, by omega⟩) rfl ?_ | refine K.GL.det (K.e_addw rfl rfl) rfl ?_
                          refine K.GL.det (K.e_assign rfl) rfl ?_
                          refine K.GL.nil ?_
                          exact K.GQ.round (y + 1, ga3, gb3) ⟨by simp only; omega, ⟨hkga3, ha3⟩, ⟨hkgb3, hb3⟩⟩ (by simp only; omega) (by (repeat refine ⟨rfl, ?_⟩); exact trivial) (Sub.take (i := 4) rfl (Sub.take (i := 0) rfl (Sub.take (i := 1) rfl (Sub.nil _))))
                      · first
                        | exact absurd h10 (by decide)
                        | try replace h10 := of_decide_eq_false h10
                          refine K.GC.exit ?_
                          refine K.GQ.then_exit ?_
                          refine K.GQ.then_exit ?_
                          refine K.GQ.block_hit ?_
                          refine K.GQ.go ?_
                          refine K.GC.seq ?_
                          have e2 : l2.take y = l2 := List.take_of_length_le (by omega)
                          rw [e2] at ha hb
                          refine K.GC.region ?_
                          refine K.GL.det (K.e_move rfl) rfl ?_
                          refine gl_flush Try.call15 rfl hkga rfl (fun ga4 hkga4 hvga4 => ?_)
                          obtain ⟨ha4, _⟩ := ha.flush
                          rw [← hvga4] at ha4
                          refine K.GL.nil ?_
                          refine K.GQ.go ?_
                          refine K.GC.seq ?_
                          refine K.GC.region ?_
                          refine K.GL.det (K.e_move rfl) rfl ?_
                          refine K.GL.buildSlice mk30 rfl rfl rfl (fun b148 => ?_)
                          refine gl_boot (ks := List.replicate 8 true) (hs := []) Try.call21 rfl hkgb (fun w hT => ⟨own_at (i := 0) (j := 3) hT rfl rfl (by decide) rfl, Sl.nil w 3, fun h => absurd h (by omega)⟩) (by simp) (by omega) rfl (fun gb5 hkgb5 hvgb5 u149 => ?_)
                          have hb5 := hb.all
                          rw [← hvgb5] at hb5
                          refine K.GL.nil ?_
                          refine K.GQ.go ?_
                          refine K.GC.seq ?_
                          refine K.GC.seq ?_
                          refine K.GC.region ?_
                          refine K.GL.det (K.e_assign rfl) rfl ?_
                          refine K.GL.nil ?_
                          refine K.GQ.go ?_
                          refine K.GC.block ?_
                          refine K.GC.loopk (α := Nat) [0, 1, 5, 6, 7, 8, 16, 17, 18, 19, 20, 171, 172, 173, 174, 175, 176, 177, 178, 179, 180, 181, 182, 183, 184, 185, 186, 187, 188, 189, 190, 192, 194, 195, 196, 197, 198, 199, 200, 201, 202, 203, 204, 205, 206, 207, 208, 209, 210, 211, 212, 213, 214, 215, 216, 217, 218, 219, 220, 221, 222, 223, 224, 225, 226, 227, 228, 229, 230] rfl (fun z => [(11, .int .i64 (z : Int))]) (fun z => [DevR db gb5, DevR da ga4, DevR dc gc2]) (fun z => z ≤ 8) (fun z => (8 - z)) 0 (by omega) (by (repeat refine ⟨rfl, ?_⟩); exact trivial) (Sub.take (i := 0) rfl (Sub.take (i := 1) rfl (Sub.take (i := 1) rfl (Sub.nil _)))) (fun z hI => ?_)
                          refine K.GC.seq ?_
                          refine K.GC.seq ?_
                          refine K.GC.region ?_
                          refine K.GL.det (K.e_move rfl) rfl ?_
                          first | refine K.GL.det ((K.e_lt rfl rfl).yes (by first | omega | assumption | decide +kernel)) rfl ?_ | refine K.GL.det ((K.e_lt rfl rfl).no (by first | omega | assumption | decide +kernel)) rfl ?_ | refine K.GL.det (K.e_lt rfl rfl) rfl ?_
                          refine K.GL.nil ?_
                          refine K.GQ.go ?_
                          refine K.GC.condB rfl (fun h11 => ?_) (fun h11 => ?_)
                          · first
                            | exact absurd h11 (by decide)
                            | try replace h11 := of_decide_eq_true h11
                              refine K.GC.skip ?_
                              refine K.GQ.go ?_
                              refine K.GC.seq ?_
                              refine K.GC.block ?_
                              refine K.GC.seq ?_
                              refine K.GC.region ?_
                              refine K.GL.det (K.e_move rfl) rfl ?_
                              refine K.GL.det (K.e_move rfl) rfl ?_
                              refine gl_read (i := (z : Int)) Try.call17 rfl hkga4 rfl (fun a157 c157 => ?_)
                              refine K.GL.det (K.e_move rfl) rfl ?_
                              refine K.GL.det (K.e_extract rfl rfl) rfl ?_
                              refine K.GL.det (K.e_extract rfl rfl) rfl ?_
                              refine K.GL.det (K.e_assign rfl) rfl ?_
                              refine K.GL.det (K.e_assign rfl) rfl ?_
                              refine K.GL.nil ?_
                              refine K.GQ.go ?_
                              refine K.GC.seq ?_
                              refine K.GC.region ?_
                              refine K.GL.det (K.e_move rfl) rfl ?_
                              refine K.GL.det (K.e_move rfl) rfl ?_
                              refine gl_read (i := (z : Int)) Try.call17 rfl hkgb5 rfl (fun a163 c163 => ?_)
                              refine K.GL.det (K.e_move rfl) rfl ?_
                              refine K.GL.det (K.e_extract rfl rfl) rfl ?_
                              refine K.GL.det (K.e_extract rfl rfl) rfl ?_
                              refine K.GL.det (K.e_assign rfl) rfl ?_
                              refine K.GL.det (K.e_assign rfl) rfl ?_
                              refine K.GL.nil ?_
                              refine K.GQ.go ?_
                              refine K.GC.seq ?_
                              have hab : (ga4.v.read z).1 = (gb5.v.read z).1 := by rw [ha4.read (by omega), hb5.read (by omega)]
                              refine K.GC.region ?_
                              refine K.GL.det (K.e_move rfl) rfl ?_
                              refine K.GL.det (K.e_b2sw Try.underlying29 Try.underlying5 Try.underlying9 rfl (fun w hT => hT.sl_row HasW.mem (by omega) (by rw [bv_length, Nat.mul_one]))) rfl ?_
                              refine K.GL.det (K.e_move rfl) rfl ?_
                              refine K.GL.det (K.e_b2sw Try.underlying29 Try.underlying5 Try.underlying9 rfl (fun w hT => hT.sl_row HasW.mem (by omega) (by rw [bv_length, Nat.mul_one]))) rfl ?_
                              refine K.GL.det ((K.e_nes Try.underlying9 rfl rfl).no (not_not_intro hab)) rfl ?_
                              refine K.GL.nil ?_
                              refine K.GQ.go ?_
                              refine K.GC.condB rfl (fun h12 => ?_) (fun h12 => ?_)
                              · first
                                | exact absurd h12 (by decide)
                                | try replace h12 := of_decide_eq_true h12
                                  refine K.GC.seq ?_
                                  refine K.GC.region ?_
                                  refine K.GL.det (K.e_assign rfl) rfl ?_
                                  refine K.GL.nil ?_
                                  refine K.GQ.go ?_
                                  refine K.GC.ret ?_
                                  refine K.GQ.block_ret ?_
                                  refine K.GQ.then_ret ?_
                                  refine K.GQ.then_ret ?_
                                  refine K.GQ.block_ret ?_
                                  refine K.GQ.then_ret ?_
                                  refine K.GQ.ret1 Try.results8 rfl (fun w hT => ?_)
                                  exact ⟨rfl, hT.nil⟩
                              · first
                                | exact absurd h12 (by decide)
                                | try replace h12 := of_decide_eq_false h12
                                  refine K.GC.skip ?_
                                  refine K.GQ.block_normal ?_
                                  refine K.GQ.go ?_
                                  refine K.GC.region ?_
                                  refine K.GL.det (K.e_move rfl) rfl ?_
                                  first | refine K.GL.det (K.e_add rfl rfl ⟨by omega, by omega⟩) rfl ?_ | refine K.GL.det (K.e_addw rfl rfl) rfl ?_
                                  refine K.GL.det (K.e_assign rfl) rfl ?_
                                  refine K.GL.nil ?_
                                  exact K.GQ.round (z + 1) (by omega) (by omega) (by (repeat refine ⟨rfl, ?_⟩); exact trivial) (Sub.take (i := 2) rfl (Sub.take (i := 2) rfl (Sub.take (i := 2) rfl (Sub.nil _))))
                          · first
                            | exact absurd h11 (by decide)
                            | try replace h11 := of_decide_eq_false h11
                              refine K.GC.exit ?_
                              refine K.GQ.then_exit ?_
                              refine K.GQ.then_exit ?_
                              refine K.GQ.block_hit ?_
                              refine K.GQ.go ?_
                              refine K.GC.seq ?_
                              refine K.GC.seq ?_
                              refine K.GC.region ?_
                              refine K.GL.det (K.e_assign rfl) rfl ?_
                              refine K.GL.nil ?_
                              refine K.GQ.go ?_
                              refine K.GC.block ?_
                              refine K.GC.loopk (α := Nat × DG) [0, 1, 4, 5, 8, 17, 18, 19, 20, 192, 194, 195, 196, 197, 198, 199, 200, 201, 202, 203, 204, 205, 206, 207, 208, 209, 210, 211, 212, 213, 214, 215, 216, 217, 218, 219, 220, 221, 222, 223, 224, 225, 226, 227, 228, 229, 230] rfl (fun u => [(16, .int .i64 (u.1 : Int))]) (fun u => [DevR dc u.2]) (fun u => u.1 ≤ n2 ∧ u.2.Ok ∧ Up 8 u.2.v ∧ ∀ j, j < 8 → u.2.v.K j = secOf (f0 j)) (fun u => (n2 - u.1)) (0, gc2) ⟨Nat.zero_le _, hkgc2, hc2.up, hcK⟩ (by (repeat refine ⟨rfl, ?_⟩); exact trivial) (Sub.take (i := 2) rfl (Sub.nil _)) (fun u hI => ?_)
                              obtain ⟨u, gc⟩ := u
                              obtain ⟨hu, hkgc, hup, hK⟩ := hI
                              simp only at hu hkgc hup hK ⊢
                              refine K.GC.seq ?_
                              refine K.GC.seq ?_
                              refine K.GC.region ?_
                              refine K.GL.det (K.e_move rfl) rfl ?_
                              refine K.GL.det (K.e_move rfl) rfl ?_
                              refine K.GL.det (K.e_len Try.underlying22 rfl) rfl ?_
                              first | refine K.GL.det ((K.e_lt rfl rfl).yes (by first | omega | assumption | decide +kernel)) rfl ?_ | refine K.GL.det ((K.e_lt rfl rfl).no (by first | omega | assumption | decide +kernel)) rfl ?_ | refine K.GL.det (K.e_lt rfl rfl) rfl ?_
                              refine K.GL.nil ?_
                              refine K.GQ.go ?_
                              refine K.GC.condB rfl (fun h13 => ?_) (fun h13 => ?_)
                              · first
                                | exact absurd h13 (by decide)
                                | try replace h13 := of_decide_eq_true h13
                                  refine K.GC.skip ?_
                                  refine K.GQ.go ?_
                                  refine K.GC.seq ?_
                                  refine K.GC.block ?_
                                  obtain ⟨q, hq⟩ : ∃ q, l2[u]? = some q := get_ex (by omega)
                                  refine K.GC.drawn 14 [[], [], [], [1, 2], [1, 2, 3], [1, 2, 3, 4], [1, 2, 3, 4, 5], [], [], [7, 8], [7, 8, 9], [7, 8, 9, 10], [7, 8, 9, 10, 11], [7, 8, 9, 10, 11, 12], [0, 1, 2, 3, 4, 5, 6, 7, 8, 9, 10, 11, 12, 13]] [[], [], [], [1, 2], [3], [4], [5], [], [], [7, 8], [9], [10], [11], [12]] [0, 1, 4, 5, 8, 16, 17, 18, 19, 20, 171, 172, 173, 174, 175, 176, 192, 194, 195, 196, 197, 198, 199, 200, 201, 202, 203, 204, 205, 206, 207, 208, 209, 210, 211, 212, 213, 214, 215, 216, 217, 218, 219, 220, 221, 222, 223, 224, 225, 226, 227, 228, 229, 230] (by kernel_rfl) (by kernel_rfl) rfl ?_
                                  refine K.DW.det rfl (fun vs => K.e_move rfl) ?_
                                  refine K.DW.det rfl (fun vs => K.e_move rfl) ?_
                                  refine K.DW.det rfl (fun vs => K.e_move rfl) ?_
                                  refine K.DW.det rfl (fun vs => K.e_indexAddrS sl22 rfl rfl hM (by omega) (by omega)) ?_
                                  refine K.DW.det rfl (fun vs => K.e_fieldAddr fo33_1 rfl) ?_
                                  refine K.DW.det rfl (fun vs => K.e_load_old Try.isAgg3 rfl (by exact (hM.item encO_len hq) 1 _ rfl)) ?_
                                  refine K.DW.det rfl (fun vs => (K.e_and rfl rfl).cast_int (b := ((at7 q.at_ : Nat) : Int)) (at7_val _)) ?_
                                  refine K.DW.det rfl (fun vs => K.e_move rfl) ?_
                                  refine K.DW.det rfl (fun vs => K.e_move rfl) ?_
                                  refine K.DW.det rfl (fun vs => K.e_indexAddrS sl22 rfl rfl hM (by omega) (by omega)) ?_
                                  refine K.DW.det rfl (fun vs => K.e_fieldAddr fo33_2 rfl) ?_
                                  refine K.DW.det rfl (fun vs => K.e_load_old Try.isAgg5 rfl (by exact (hM.item encO_len hq) 2 _ rfl)) ?_
                                  refine K.DW.det rfl (fun vs => (K.e_xor rfl rfl).cast_int (b := ((xorB q.c.toNat 255).toNat : Int)) xor_eq) ?_
                                  refine K.DW.evO (fun vs hf => K.e_call (Pv := fun u => ∃ b, u = .slice (some ⟨b, 0, none⟩) 64 64) (R := atPtr fun b => cl b 5 (sv (secOf (xorB q.c.toNat 255)))) Try.call23 rfl (fun w hT => (full_con (xorB q.c.toNat 255)).mono fun e w' ⟨b, h1, h2⟩ => ⟨_, h1, ⟨b, rfl⟩, h2⟩)) ?_
                                  refine K.DW.fin (fun vs hf => ?_)
                                  refine K.GL.keep [0, 1, 4, 5, 8, 16, 17, 18, 19, 20, 171, 172, 173, 174, 175, 176, 177, 178, 179, 180, 181, 182, 183, 184, 185, 186, 187, 188, 189, 190, 192, 194, 195, 196, 197, 198, 199, 200, 201, 202, 203, 204, 205, 206, 207, 208, 209, 210, 211, 212, 213, 214, 215, 216, 217, 218, 219, 220, 221, 222, 223, 224, 225, 226, 227, 228, 229, 230] rfl ?_
                                  obtain ⟨⟨b190, e190⟩, _⟩ := hf
                                  refine K.GL.own1 (F := [DevR dc gc]) e190 ?_
                                  refine gl_write (i := ((at7 q.at_ : Nat) : Int)) (bs := (secOf (xorB q.c.toNat 255)).1) (a := some ⟨b190, 0, none⟩) (n := 64) (c := 64) Try.call13 (by rw [← e190]; rfl) hkgc (fun w hT => own_slice hT (by simp)) rfl (fun gc6 hkgc6 hvgc6 => ?_)
                                  obtain ⟨hup6, _, hK6, _, _⟩ := hup.write (at7_lt q.at_) (secOf (xorB q.c.toNat 255))
                                  rw [← hvgc6] at hup6 hK6
                                  replace hK6 : ∀ j, j < 8 → gc6.v.K j = secOf (f0 j) := fun j hj => (hK6 j).trans (hK j hj)
                                  refine K.GL.nil ?_
                                  refine K.GQ.block_normal ?_
                                  refine K.GQ.go ?_
                                  refine K.GC.region ?_
                                  refine K.GL.det (K.e_move rfl) rfl ?_
                                  first | refine K.GL.det (K.e_add rfl rfl ⟨by omega, by omega⟩) rfl ?_ | refine K.GL.det (K.e_addw rfl rfl) rfl ?_
                                  refine K.GL.det (K.e_assign rfl) rfl ?_
                                  refine K.GL.nil ?_
                                  exact K.GQ.round (u + 1, gc6) ⟨by simp only; omega, hkgc6, hup6, hK6⟩ (by simp only; omega) (by (repeat refine ⟨rfl, ?_⟩); exact trivial) (Sub.take (i := 0) rfl (Sub.nil _))
                              · first
                                | exact absurd h13 (by decide)
                                | try replace h13 := of_decide_eq_false h13
                                  refine K.GC.exit ?_
                                  refine K.GQ.then_exit ?_
                                  refine K.GQ.then_exit ?_
                                  refine K.GQ.block_hit ?_
                                  refine K.GQ.go ?_
                                  refine K.GC.seq ?_
                                  refine K.GC.region ?_
                                  refine K.GL.det (K.e_move rfl) rfl ?_
                                  refine gl_boot (ks := []) (hs := []) Try.call21 rfl hkgc (fun w hT => ⟨⟨Sl.nil w 1, fun h => absurd h (by omega)⟩, Sl.nil w 3, fun h => absurd h (by omega)⟩) (by simp) (by omega) rfl (fun gc7 hkgc7 hvgc7 u193 => ?_)
                                  have hc7 := holds_none hup hK
                                  rw [← hvgc7] at hc7
                                  refine K.GL.nil ?_
                                  refine K.GQ.go ?_
                                  refine K.GC.seq ?_
                                  refine K.GC.region ?_
                                  refine K.GL.alloc Try.zeroValue47 rfl rfl (fun b17 => ?_)
                                  refine K.GL.nil ?_
                                  refine K.GQ.go ?_
                                  refine K.GC.seq ?_
                                  refine K.GC.seq ?_
                                  refine K.GC.region ?_
                                  refine K.GL.det (K.e_assign rfl) rfl ?_
                                  refine K.GL.nil ?_
                                  refine K.GQ.go ?_
                                  refine K.GC.block ?_
                                  refine K.GC.loopk (α := Nat) [0, 4, 5, 8, 17, 19, 20, 212, 213, 214, 215, 216, 217, 218, 219, 220, 221, 222, 223, 224, 225, 226, 227, 228, 229, 230] rfl (fun v => [(18, .int .i64 (v : Int))]) (fun v => [cl b17 47 (bl (puts (fun _ => 0) (l1.take v))), DevR dc gc7]) (fun v => v ≤ n1) (fun v => (n1 - v)) 0 (by omega) (by (repeat refine ⟨rfl, ?_⟩); exact trivial) (K.Sub.refl _) (fun v hI => ?_)
                                  refine K.GC.seq ?_
                                  refine K.GC.seq ?_
                                  refine K.GC.region ?_
                                  refine K.GL.det (K.e_move rfl) rfl ?_
                                  refine K.GL.det (K.e_move rfl) rfl ?_
                                  refine K.GL.det (K.e_len Try.underlying22 rfl) rfl ?_
                                  first | refine K.GL.det ((K.e_lt rfl rfl).yes (by first | omega | assumption | decide +kernel)) rfl ?_ | refine K.GL.det ((K.e_lt rfl rfl).no (by first | omega | assumption | decide +kernel)) rfl ?_ | refine K.GL.det (K.e_lt rfl rfl) rfl ?_
                                  refine K.GL.nil ?_
                                  refine K.GQ.go ?_
                                  refine K.GC.condB rfl (fun h14 => ?_) (fun h14 => ?_)
                                  · first
                                    | exact absurd h14 (by decide)
                                    | try replace h14 := of_decide_eq_true h14
                                      refine K.GC.skip ?_
                                      refine K.GQ.go ?_
                                      refine K.GC.seq ?_
                                      refine K.GC.block ?_
                                      obtain ⟨q, hq⟩ : ∃ q, l1[v]? = some q := get_ex (by omega)
                                      have h7 := at7_lt q.at_
                                      refine K.GC.drawn 12 [[], [], [0, 1], [0, 1, 2], [0, 1, 2, 3], [0, 1, 2, 3, 4], [], [], [6, 7], [6, 7, 8], [6, 7, 8, 9], [0, 1, 2, 3, 4, 5, 6, 7, 8, 9, 10], [0, 1, 2, 3, 4, 5, 6, 7, 8, 9, 10, 11]] [[], [], [0, 1], [2], [3], [4], [], [], [6, 7], [8], [9], [5]] [0, 4, 5, 8, 17, 18, 19, 20, 194, 195, 196, 197, 198, 199, 212, 213, 214, 215, 216, 217, 218, 219, 220, 221, 222, 223, 224, 225, 226, 227, 228, 229, 230] (by kernel_rfl) (by kernel_rfl) rfl ?_
                                      refine K.DW.det rfl (fun vs => K.e_move rfl) ?_
                                      refine K.DW.det rfl (fun vs => K.e_move rfl) ?_
                                      refine K.DW.det rfl (fun vs => K.e_indexAddrS sl22 rfl rfl hL (by omega) (by omega)) ?_
                                      refine K.DW.det rfl (fun vs => K.e_fieldAddr fo33_1 rfl) ?_
                                      refine K.DW.det rfl (fun vs => K.e_load_old Try.isAgg3 rfl (by exact (hL.item encO_len hq) 1 _ rfl)) ?_
                                      refine K.DW.det rfl (fun vs => (K.e_and rfl rfl).cast_int (b := ((at7 q.at_ : Nat) : Int)) (at7_val _)) ?_
                                      refine K.DW.det rfl (fun vs => K.e_move rfl) ?_
                                      refine K.DW.det rfl (fun vs => K.e_move rfl) ?_
                                      refine K.DW.det rfl (fun vs => K.e_indexAddrS sl22 rfl rfl hL (by omega) (by omega)) ?_
                                      refine K.DW.det rfl (fun vs => K.e_fieldAddr fo33_2 rfl) ?_
                                      refine K.DW.det rfl (fun vs => K.e_load_old Try.isAgg5 rfl (by exact (hL.item encO_len hq) 2 _ rfl)) ?_
                                      refine K.DW.det rfl (fun vs => K.e_indexAddrA arr47 rfl rfl (by omega) (by omega)) ?_
                                      refine K.DW.fin0 rfl (fun vs => ?_)
                                      refine K.GL.keep [0, 4, 5, 8, 17, 18, 19, 20, 194, 195, 196, 197, 198, 199, 200, 201, 202, 203, 204, 205, 206, 207, 208, 209, 210, 211, 212, 213, 214, 215, 216, 217, 218, 219, 220, 221, 222, 223, 224, 225, 226, 227, 228, 229, 230] rfl ?_
                                      clear vs
                                      refine K.GL.storeP (cs' := bl (put1 (puts (fun _ => 0) (l1.take v)) q)) rfl rfl rfl Try.sizeOf5 rfl rfl (bl_set h7 (by omega)) ?_
                                      rw [← puts_next hq]
                                      refine K.GL.nil ?_
                                      refine K.GQ.block_normal ?_
                                      refine K.GQ.go ?_
                                      refine K.GC.region ?_
                                      refine K.GL.det (K.e_move rfl) rfl ?_
                                      first | refine K.GL.det (K.e_add rfl rfl ⟨by omega, by omega⟩) rfl ?_ | refine K.GL.det (K.e_addw rfl rfl) rfl ?_
                                      refine K.GL.det (K.e_assign rfl) rfl ?_
                                      refine K.GL.nil ?_
                                      exact K.GQ.round (v + 1) (by omega) (by omega) (by (repeat refine ⟨rfl, ?_⟩); exact trivial) (Sub.refl _)
                                  · first
                                    | exact absurd h14 (by decide)
                                    | try replace h14 := of_decide_eq_false h14
                                      refine K.GC.exit ?_
                                      refine K.GQ.then_exit ?_
                                      refine K.GQ.then_exit ?_
                                      refine K.GQ.block_hit ?_
                                      refine K.GQ.go ?_
                                      refine K.GC.seq ?_
                                      refine K.GC.seq ?_
                                      have e3 : l1.take v = l1 := List.take_of_length_le (by omega)
                                      rw [e3, ← hf0]
                                      refine K.GC.region ?_
                                      refine K.GL.det (K.e_assign rfl) rfl ?_
                                      refine K.GL.nil ?_
                                      refine K.GQ.go ?_
                                      refine K.GC.block ?_
                                      refine K.GC.loopk (α := Nat) [5, 8, 17, 230] rfl (fun s => [(19, .int .i64 (s : Int))]) (fun s => [cl b17 47 (bl f0), DevR dc gc7]) (fun s => s ≤ 8) (fun s => (8 - s)) 0 (by omega) (by (repeat refine ⟨rfl, ?_⟩); exact trivial) (K.Sub.refl _) (fun s hI => ?_)
                                      refine K.GC.seq ?_
                                      refine K.GC.seq ?_
                                      refine K.GC.region ?_
                                      refine K.GL.det (K.e_move rfl) rfl ?_
                                      first | refine K.GL.det ((K.e_lt rfl rfl).yes (by first | omega | assumption | decide +kernel)) rfl ?_ | refine K.GL.det ((K.e_lt rfl rfl).no (by first | omega | assumption | decide +kernel)) rfl ?_ | refine K.GL.det (K.e_lt rfl rfl) rfl ?_
                                      refine K.GL.nil ?_
                                      refine K.GQ.go ?_
                                      refine K.GC.condB rfl (fun h15 => ?_) (fun h15 => ?_)
                                      · first
                                        | exact absurd h15 (by decide)
                                        | try replace h15 := of_decide_eq_true h15
                                          refine K.GC.skip ?_
                                          refine K.GQ.go ?_
                                          refine K.GC.seq ?_
                                          refine K.GC.block ?_
                                          refine K.GC.seq ?_
                                          refine K.GC.region ?_
                                          refine K.GL.det (K.e_move rfl) rfl ?_
                                          refine K.GL.det (K.e_move rfl) rfl ?_
                                          refine gl_read (i := (s : Int)) Try.call17 rfl hkgc7 rfl (fun a219 c219 => ?_)
                                          refine K.GL.det (K.e_move rfl) rfl ?_
                                          refine K.GL.det (K.e_extract rfl rfl) rfl ?_
                                          refine K.GL.det (K.e_extract rfl rfl) rfl ?_
                                          refine K.GL.det (K.e_assign rfl) rfl ?_
                                          refine K.GL.det (K.e_assign rfl) rfl ?_
                                          refine K.GL.nil ?_
                                          refine K.GQ.go ?_
                                          refine K.GC.seq ?_
                                          have hs8 : s < 8 := by omega
                                          have hcs : (gc7.v.read s).1 = (secOf (f0 s)).1 := by rw [hc7.read hs8]
                                          refine K.GC.drawn 8 [[], [0], [], [2], [2, 3], [2, 3, 4], [2, 3, 4, 5], [0, 1, 2, 3, 4, 5, 6]] [[], [0], [], [2], [3], [4], [5], [1, 6]] [4, 5, 8, 17, 19, 20, 212, 213, 214, 215, 216, 217, 218, 219, 220, 221, 230] (by kernel_rfl) (by kernel_rfl) rfl ?_
                                          refine K.DW.det rfl (fun vs => K.e_move rfl) ?_
                                          refine K.DW.det rfl (fun vs => K.e_b2sw Try.underlying29 Try.underlying5 Try.underlying9 rfl (fun w hT => hT.sl_row HasW.mem (by omega) (by rw [bv_length, Nat.mul_one]))) ?_
                                          refine K.DW.det rfl (fun vs => K.e_move rfl) ?_
                                          refine K.DW.det rfl (fun vs => K.e_indexAddrA arr47 rfl rfl (by omega) (by omega)) ?_
                                          refine K.DW.det rfl (fun vs => K.e_load Try.isAgg5 rfl (bl_get hs8 (by omega))) ?_
                                          refine K.DW.evO (fun vs hf => K.e_call (Pv := fun u => ∃ b, u = .slice (some ⟨b, 0, none⟩) 64 64) (R := atPtr fun b => cl b 5 (sv (secOf (f0 s)))) Try.call23 rfl (fun w hT => (full_con (f0 s)).mono fun e w' ⟨b, h1, h2⟩ => ⟨_, h1, ⟨b, rfl⟩, h2⟩)) ?_
                                          refine K.DW.detO (fun vs hf => by
                                                obtain ⟨⟨b2, e2⟩, _⟩ := hf
                                                refine K.e_b2sw Try.underlying29 Try.underlying5 Try.underlying9 (a := some ⟨b2, 0, none⟩) (n := 64) (c := 64) (by rw [← e2]; rfl) (l := (secOf (f0 s)).1) (fun w hT => ?_)
                                                have r1 := hT.ok _ (List.mem_of_getElem? (i := 0) rfl)
                                                rw [e2] at r1
                                                exact Sl.of_block r1 (by rw [bv_length, (secOf (f0 s)).2])) ?_
                                          refine K.DW.det rfl (fun vs => (K.e_nes Try.underlying9 rfl rfl).no (not_not_intro hcs)) ?_
                                          refine K.DW.fin (fun vs hf => ?_)
                                          refine K.GL.keep [4, 5, 8, 17, 19, 20, 212, 213, 214, 215, 216, 217, 218, 219, 220, 221, 222, 223, 224, 225, 226, 227, 228, 229, 230] rfl ?_
                                          obtain ⟨⟨b227, e227⟩, _⟩ := hf
                                          refine K.GL.own1 (F := [row a219 c219 1 66 (bv (gc7.v.read s).1), cl b17 47 (bl f0), DevR dc gc7]) e227 ?_
                                          refine K.GL.nil ?_
                                          refine K.GQ.go ?_
                                          refine K.GC.condB rfl (fun h16 => ?_) (fun h16 => ?_)
                                          · first
                                            | exact absurd h16 (by decide)
                                            | try replace h16 := of_decide_eq_true h16
                                              refine K.GC.seq ?_
                                              refine K.GC.region ?_
                                              refine K.GL.det (K.e_assign rfl) rfl ?_
                                              refine K.GL.nil ?_
                                              refine K.GQ.go ?_
                                              refine K.GC.ret ?_
                                              refine K.GQ.block_ret ?_
                                              refine K.GQ.then_ret ?_
                                              refine K.GQ.then_ret ?_
                                              refine K.GQ.block_ret ?_
                                              refine K.GQ.then_ret ?_
                                              refine K.GQ.ret1 Try.results8 rfl (fun w hT => ?_)
                                              exact ⟨rfl, hT.nil⟩
                                          · first
                                            | exact absurd h16 (by decide)
                                            | try replace h16 := of_decide_eq_false h16
                                              refine K.GC.skip ?_
                                              refine K.GQ.block_normal ?_
                                              refine K.GQ.go ?_
                                              refine K.GC.region ?_
                                              refine K.GL.det (K.e_move rfl) rfl ?_
                                              first | refine K.GL.det (K.e_add rfl rfl ⟨by omega, by omega⟩) rfl ?_ | refine K.GL.det (K.e_addw rfl rfl) rfl ?_
                                              refine K.GL.det (K.e_assign rfl) rfl ?_
                                              refine K.GL.nil ?_
                                              exact K.GQ.round (s + 1) (by omega) (by omega) (by (repeat refine ⟨rfl, ?_⟩); exact trivial) (Sub.take (i := 2) rfl (Sub.take (i := 2) rfl (Sub.nil _)))
                                      · first
                                        | exact absurd h15 (by decide)
                                        | try replace h15 := of_decide_eq_false h15
                                          refine K.GC.exit ?_
                                          refine K.GQ.then_exit ?_
                                          refine K.GQ.then_exit ?_
                                          refine K.GQ.block_hit ?_
                                          refine K.GQ.go ?_
                                          refine K.GC.seq ?_
                                          refine K.GC.region ?_
                                          refine K.GL.det (K.e_move rfl) rfl ?_
                                          refine K.GL.det (K.e_assign rfl) rfl ?_
                                          refine K.GL.nil ?_
                                          refine K.GQ.go ?_
                                          refine K.GC.ret ?_
                                          refine K.GQ.ret1 Try.results8 rfl (fun w hT => ?_)
                                          exact ⟨rfl, hT.nil⟩

set_option maxHeartbeats 1000000 in
set_option maxRecDepth 100000 in
theorem DevBoots_lifted (os : Os) (started : os.Started) (H : Type) (enc : TypeId × Value → H) :
    ReturnsInHanded {} Try.checked os 8 .any (Rows.devBootsSpec.pre6 enc Try.prog Try.f8 Rows.devBootsRow.domain false) (Rows.devBootsSpec.post enc Try.prog Try.f8 false true false false) := by
  refine returnsInHanded_of_change_sized (C := Try.checked) own started (by kernel_rfl) Try.func8
    (ChangeSpec.witness6 (enc := enc) (C := Try.checked) false ⟨#[], #[.slice none 0 0, .slice none 0 0], []⟩ 8 (by kernel_rfl) (by kernel_rfl) (by kernel_rfl) (by kernel_rfl)) ?_
  intro W base args ds gs before hval0 hW _ hsz0 _
  have hval : ∀ (j : Nat) t v, Try.f8.params[j]? = some t → args[j]? = some v → Value.okWide Try.prog W .any base t v := hval0
  have hsz : (DataW.weightsEach Try.prog (Try.f8.params.toList ++ []) (ds ++ gs)).all (· ≤ reachBytes) = true := hsz0
  have hW' := hW
  obtain ⟨p, q, hA0, hV, hpe, hfz, hnd⟩ := hW
  have hA : DataW.TrodAll enc Try.prog W 0 (fun _ => true) true Try.f8.params.toList args.toList ds p := hA0
  obtain ⟨rfl, rfl⟩ := trodVars_none hV
  rw [Try.params8] at hA hval hsz
  obtain ⟨v0, vs0, d0, ds0, p0, q0, hargs, rfl, rfl, h0, r0⟩ := trodAll_cons hA
  obtain ⟨v1, vs1, d1, ds1, p1, q1, rfl, rfl, rfl, h1, r1⟩ := trodAll_cons r0
  obtain ⟨rfl, rfl, rfl⟩ := trodAll_nil r1
  obtain rfl : args = #[v0, v1] := by cases args; simp_all
  clear hA0 hval0 hsz0 hA hargs
  obtain ⟨ax, nx, cx, rfl⟩ := okWide_slice Try.underlying22 (hval 0 22 _ rfl rfl)
  obtain ⟨fuelx, hfx⟩ := h0
  obtain ⟨ax', nx', cx', lx, hcsx, hnx, hSx, hGx⟩ := open_ops hfx
  have hcsx' : Value.slice ax nx cx = .slice ax' nx' cx' := by simpa [Value.cells] using hcsx
  simp only [Value.slice.injEq] at hcsx'
  obtain ⟨rfl, rfl, rfl⟩ := hcsx'
  unfold maxLen at hnx
  obtain ⟨ay, ny, cy, rfl⟩ := okWide_slice Try.underlying22 (hval 1 22 _ rfl rfl)
  obtain ⟨fuely, hfy⟩ := h1
  obtain ⟨ay', ny', cy', ly, hcsy, hny, hSy, hGy⟩ := open_ops hfy
  have hcsy' : Value.slice ay ny cy = .slice ay' ny' cy' := by simpa [Value.cells] using hcsy
  simp only [Value.slice.injEq] at hcsy'
  obtain ⟨rfl, rfl, rfl⟩ := hcsy'
  unfold maxLen at hny
  have core : Calls Try.prog 8 #[.slice ax nx cx, .slice ay ny cy] W fun e W' => e = .returned (.bool true) ∧ Tr W [] W' [] := boots_any W hSx hSy (by omega) (by omega)
  exact core.mono fun e W' ⟨he, hT⟩ => ⟨_, he, law_post (tb := 4) hW' rfl rfl Try.underlying4 (fun _ => rfl) laidOut (by kernel_rfl) hT.below⟩
theorem DevBoots_holds : Rows.DevBootsSaid :=
  OpenClaim.holds_of_wide 8 Try.f8 rfl rfl rfl rfl rfl rfl rfl ⟨rfl, rfl, rfl, rfl, rfl⟩ rfl rfl rfl rfl rfl (by kernel_rfl) Try.func8 (by kernel_rfl)
    (of_decide_eq_true (by kernel_rfl)) (by unfold Func.isWrapper; first | (rw [if_pos (by decide +kernel)]; kernel_rfl) | (rw [if_neg (by decide +kernel)]; exact ⟨rfl, rfl⟩))
    (fun os started H enc _ => DevBoots_lifted os started H enc)

end Go.Proofs.Ytgkdnecjokhkcaa
