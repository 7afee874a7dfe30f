/- The live question is answered. -/
import Derived.Test.YtcphpcjcbmennaaEntH
namespace Go.Proofs.Ytcphpcjcbmennaa
open Go Go.K
set_option linter.unusedVariables false
set_option linter.unusedSimpArgs false
attribute [local irreducible] Calls Ev GL GC GQ GR Code.wp
/- turntable/turntablelaw14.head -/
set_option maxHeartbeats 4000000 in
set_option maxRecDepth 100000 in
theorem head_con {w : World} :
    Calls Try.prog 9 #[] w fun e w' => e = .returned (.bool true) ∧ Tr w [] w' [] := by
  refine K.enter0 (args := []) Try.func9 rfl Try.ntmps9 rfl ?_
  refine K.GC.seq ?_
  refine K.GC.region ?_
  refine K.GL.det (K.e_assign rfl) rfl ?_
  refine K.GL.nil ?_
  refine K.GQ.go ?_
  refine K.GC.seq ?_
  refine K.GC.region ?_
  refine gl_new Try.call10 rfl rfl (fun d g1 hk1 hv1 => ?_)
  refine K.GL.det (K.e_assign rfl) rfl ?_
  refine K.GL.nil ?_
  refine K.GQ.go ?_
  refine K.GC.seq ?_
  refine K.GC.seq ?_
  refine K.GC.region ?_
  refine K.GL.det (K.e_move rfl) rfl ?_
  refine K.GL.det ((K.e_eqlp Try.underlying24 rfl rfl).cast_bool (b := false) rfl) rfl ?_
  refine K.GL.nil ?_
  refine K.GQ.go ?_
  refine K.GC.condB rfl (fun h1 => ?_) (fun h1 => ?_)
  · first
    | exact absurd h1 (by decide)
    | try replace h1 := of_decide_eq_true h1
      refine K.GC.seq ?_
      refine K.GC.region ?_
      refine K.GL.det (K.e_assign rfl) rfl ?_
      refine K.GL.nil ?_
      refine K.GQ.go ?_
      refine K.GC.ret ?_
      refine K.GQ.then_ret ?_
      refine K.GQ.ret1 Try.results9 rfl (fun w hT => ?_)
      exact ⟨rfl, hT.nil⟩
  · first
    | exact absurd h1 (by decide)
    | try replace h1 := of_decide_eq_false h1
      refine K.GC.skip ?_
      refine K.GQ.go ?_
      refine K.GC.seq ?_
      refine K.GC.region ?_
      refine K.GL.det (K.e_move rfl) rfl ?_
      refine gl_one Try.call37 rfl rfl (fun b17 => ?_)
      refine gl_put (x := one 5 2 7 40) (was := false) Try.call17 rfl hk1 (by rw [hv1]; decide +kernel) (fun w hT => ⟨sl_web hT List.mem_cons_self, fun _ => web_apart (i := 0) (j := 1) hT rfl rfl (by decide)⟩) (by unfold I64; decide +kernel) (by decide +kernel) rfl (fun g2 hk2 hv2 => ?_)
      rw [hv1] at hv2
      refine K.GL.det (K.e_assign rfl) rfl ?_
      refine K.GL.nil ?_
      refine K.GQ.go ?_
      refine K.GC.seq ?_
      refine K.GC.region ?_
      refine K.GL.det (K.e_move rfl) rfl ?_
      refine gl_one Try.call37 rfl rfl (fun b20 => ?_)
      refine gl_put (x := one 3 9 7 10) (was := false) Try.call17 rfl hk2 (by rw [hv2]; decide +kernel) (fun w hT => ⟨sl_web hT List.mem_cons_self, fun _ => web_apart (i := 0) (j := 1) hT rfl rfl (by decide)⟩) (by unfold I64; decide +kernel) (by decide +kernel) rfl (fun g3 hk3 hv3 => ?_)
      rw [hv2] at hv3
      refine K.GL.det (K.e_assign rfl) rfl ?_
      refine K.GL.nil ?_
      refine K.GQ.go ?_
      refine K.GC.seq ?_
      refine K.GC.region ?_
      refine K.GL.det (K.e_move rfl) rfl ?_
      refine gl_one Try.call37 rfl rfl (fun b23 => ?_)
      refine gl_put (x := one 4 2 8 0) (was := false) Try.call17 rfl hk3 (by rw [hv3]; decide +kernel) (fun w hT => ⟨sl_web hT List.mem_cons_self, fun _ => web_apart (i := 0) (j := 1) hT rfl rfl (by decide)⟩) (by unfold I64; decide +kernel) (by decide +kernel) rfl (fun g4 hk4 hv4 => ?_)
      rw [hv3] at hv4
      replace hv4 : g4.ents = hd3 := hv4
      have hz4 : g4.es.length ≤ 9000 := by rw [← IG.ents_length, hv4]; decide +kernel
      have ha4 : g4.all = [one 4 2 8 0, one 5 2 7 40, one 3 9 7 10] := by unfold IG.all; rw [hv4]; exact hd_all
      have hl4 : g4.all.length = 3 := by rw [ha4]; rfl
      have hi0 : g4.all[0]? = some (one 4 2 8 0) := by rw [ha4]; rfl
      have hi1 : g4.all[1]? = some (one 5 2 7 40) := by rw [ha4]; rfl
      have hi2 : g4.all[2]? = some (one 3 9 7 10) := by rw [ha4]; rfl
      refine K.GL.det (K.e_assign rfl) rfl ?_
      refine K.GL.nil ?_
      refine K.GQ.go ?_
      refine K.GC.seq ?_
      refine K.GC.region ?_
      refine K.GL.det (K.e_move rfl) rfl ?_
      refine gl_items Try.call35 rfl hk4 hz4 rfl (fun a26 c26 => ?_)
      refine K.GL.fact (p := 0 < g4.all.length → a26 = some ⟨bk a26, of_ a26, none⟩) (fun w hT => (hT.sl_row (k := 5) (n := g4.all.length) HasW.mem (by omega) (it_flat_length _)).base) (fun hb26 => ?_)
      refine K.GL.det (K.e_assign rfl) rfl ?_
      refine K.GL.nil ?_
      refine K.GQ.go ?_
      refine K.GC.seq ?_
      refine K.GC.region ?_
      refine K.GL.det (K.e_move rfl) rfl ?_
      refine gl_pin (was := true) Try.call14 rfl hk4 (by rw [hv4]; decide +kernel) rfl (fun g5 hk5 hv5 => ?_)
      rw [hv4] at hv5
      refine K.GL.det (K.e_assign rfl) rfl ?_
      refine K.GL.nil ?_
      refine K.GQ.go ?_
      refine K.GC.seq ?_
      refine K.GC.region ?_
      refine K.GL.det (K.e_move rfl) rfl ?_
      refine gl_class (was := true) Try.call15 rfl hk5 (by rw [hv5]; decide +kernel) rfl (fun g6 hk6 hv6 => ?_)
      rw [hv5] at hv6
      refine K.GL.det (K.e_assign rfl) rfl ?_
      refine K.GL.nil ?_
      refine K.GQ.go ?_
      refine K.GC.seq ?_
      refine K.GC.region ?_
      refine K.GL.det (K.e_move rfl) rfl ?_
      refine gl_move (was := true) Try.call16 rfl hk6 (by rw [hv6]; decide +kernel) rfl (fun g7 hk7 hv7 => ?_)
      rw [hv6] at hv7
      replace hv7 : g7.ents = hd6 := hv7
      refine K.GL.det (K.e_assign rfl) rfl ?_
      refine K.GL.nil ?_
      refine K.GQ.go ?_
      refine K.GC.seq ?_
      refine K.GC.region ?_
      refine K.GL.det (K.e_move rfl) rfl ?_
      refine gl_del (was := true) Try.call13 rfl hk7 (by rw [hv7]; decide +kernel) rfl (fun g8 hk8 hv8 => ?_)
      rw [hv7] at hv8
      replace hv8 : g8.ents = hd7 := hv8
      refine K.GL.det (K.e_assign rfl) rfl ?_
      refine K.GL.nil ?_
      refine K.GQ.go ?_
      refine K.GC.seq ?_
      refine K.GC.region ?_
      refine K.GL.det (K.e_move rfl) rfl ?_
      refine gl_del (was := false) Try.call13 rfl hk8 (by rw [hv8]; decide +kernel) rfl (fun g9 hk9 hv9 => ?_)
      rw [hv8] at hv9
      replace hv9 : g9.ents = hd7 := hv9.trans (by decide +kernel)
      have hz9 : g9.es.length ≤ 9000 := by rw [← IG.ents_length, hv9]; decide +kernel
      have hl9 : g9.ents.length = 2 := by rw [hv9]; decide +kernel
      have hn9 : g9.in_ 7 = [y5, y4] := by unfold IG.in_; rw [hv9]; exact hd_in
      refine K.GL.det (K.e_assign rfl) rfl ?_
      refine K.GL.nil ?_
      refine K.GQ.go ?_
      refine K.GC.seq ?_
      refine K.GC.region ?_
      refine K.GL.det (K.e_move rfl) rfl ?_
      refine gl_get (r := some y5) Try.call12 rfl hk9 (by rw [hv9]; decide +kernel) rfl (fun a39 c39 => ?_)
      refine K.GL.det (K.e_move rfl) rfl ?_
      refine K.GL.det (K.e_extract rfl rfl) rfl ?_
      refine K.GL.det (K.e_extract rfl rfl) rfl ?_
      refine K.GL.alloc Try.zeroValue33 rfl rfl (fun b11 => ?_)
      refine K.GL.store rfl rfl rfl Try.sizeOf33 rfl rfl ?_
      refine K.GL.det (K.e_assign rfl) rfl ?_
      refine K.GL.nil ?_
      refine K.GQ.go ?_
      refine K.GC.seq ?_
      refine K.GC.seq ?_
      refine K.GC.region ?_
      refine K.GL.det (K.e_move rfl) rfl ?_
      refine K.GL.det (K.e_len Try.underlying56 rfl) rfl ?_
      first | refine K.GL.det ((K.e_ne rfl rfl).yes (by first | rfl | assumption | decide +kernel | omega)) rfl ?_ | refine K.GL.det ((K.e_ne rfl rfl).no (by first | rfl | assumption | decide +kernel | omega)) rfl ?_ | refine K.GL.det (K.e_ne rfl rfl) rfl ?_
      refine K.GL.det (K.e_move rfl) rfl ?_
      first | refine K.GL.splitB 45 rfl (fun h2 => ?_) (fun h2 => ?_) | skip
      all_goals first | exact absurd h2 (by decide) | replace h2 := of_decide_eq_true h2 | replace h2 := of_decide_eq_false h2 | skip
      all_goals
        first | (refine K.GL.want 45 rfl rfl rfl ?_; first | refine K.GL.det (K.e_fieldAddr fo33_1 rfl) rfl ?_) | refine K.GL.skip 45 rfl rfl rfl rfl ?_ | refine K.GL.skipU 45 rfl rfl rfl rfl ?_
        first | (refine K.GL.want 45 rfl rfl rfl ?_; first | refine K.GL.det (K.e_fieldAddr fo31_4 rfl) rfl ?_) | refine K.GL.skip 45 rfl rfl rfl rfl ?_ | refine K.GL.skipU 45 rfl rfl rfl rfl ?_
        first | (refine K.GL.want 45 rfl rfl rfl ?_; first | refine K.GL.det (K.e_load Try.isAgg29 rfl rfl) rfl ?_ | refine K.GL.det (K.e_load0 Try.isAgg29 rfl (by assumption)) rfl ?_) | refine K.GL.skip 45 rfl rfl rfl rfl ?_ | refine K.GL.skipU 45 rfl rfl rfl rfl ?_
        first | (refine K.GL.want 45 rfl rfl rfl ?_; first | refine K.GL.det (K.e_len Try.underlying29 rfl) rfl ?_) | refine K.GL.skip 45 rfl rfl rfl rfl ?_ | refine K.GL.skipU 45 rfl rfl rfl rfl ?_
        first | (refine K.GL.want 45 rfl rfl rfl ?_; first | refine K.GL.det ((K.e_ne rfl rfl).yes (by first | rfl | assumption | decide +kernel | omega)) rfl ?_ | refine K.GL.det ((K.e_ne rfl rfl).no (by first | rfl | assumption | decide +kernel | omega)) rfl ?_ | refine K.GL.det (K.e_ne rfl rfl) rfl ?_) | refine K.GL.skip 45 rfl rfl rfl rfl ?_ | refine K.GL.skipU 45 rfl rfl rfl rfl ?_
        first | refine K.GL.det (K.e_pick_t rfl rfl) rfl ?_ | refine K.GL.det (K.e_pick_f rfl rfl) rfl ?_
        refine K.GL.nil ?_
        refine K.GQ.go ?_
        refine K.GC.condB rfl (fun h3 => ?_) (fun h3 => ?_)
        · first
          | exact absurd h3 (by decide)
          | try replace h3 := of_decide_eq_true h3
            refine K.GC.seq ?_
            refine K.GC.region ?_
            refine K.GL.det (K.e_assign rfl) rfl ?_
            refine K.GL.nil ?_
            refine K.GQ.go ?_
            refine K.GC.ret ?_
            refine K.GQ.then_ret ?_
            refine K.GQ.ret1 Try.results9 rfl (fun w hT => ?_)
            exact ⟨rfl, hT.nil⟩
        · first
          | exact absurd h3 (by decide)
          | try replace h3 := of_decide_eq_false h3
            refine K.GC.skip ?_
            refine K.GQ.go ?_
            refine K.GC.seq ?_
            refine K.GC.region ?_
            refine K.GL.det (K.e_move rfl) rfl ?_
            refine K.GL.det ((K.e_not rfl).cast_bool (b := true) rfl) rfl ?_
            refine K.GL.det (K.e_move rfl) rfl ?_
            first | refine K.GL.splitB 54 rfl (fun h4 => ?_) (fun h4 => ?_) | skip
            all_goals first | exact absurd h4 (by decide) | replace h4 := of_decide_eq_true h4 | replace h4 := of_decide_eq_false h4 | skip
            all_goals
              first | (refine K.GL.want 54 rfl rfl rfl ?_; first | refine K.GL.det (K.e_move rfl) rfl ?_) | refine K.GL.skip 54 rfl rfl rfl rfl ?_ | refine K.GL.skipU 54 rfl rfl rfl rfl ?_
              first | (refine K.GL.want 54 rfl rfl rfl ?_; first | refine K.GL.det ((K.e_not rfl).cast_bool (b := true) rfl) rfl ?_) | refine K.GL.skip 54 rfl rfl rfl rfl ?_ | refine K.GL.skipU 54 rfl rfl rfl rfl ?_
              first | refine K.GL.det (K.e_pick_t rfl rfl) rfl ?_ | refine K.GL.det (K.e_pick_f rfl rfl) rfl ?_
              refine K.GL.det (K.e_move rfl) rfl ?_
              first | refine K.GL.splitB 58 rfl (fun h5 => ?_) (fun h5 => ?_) | skip
              all_goals first | exact absurd h5 (by decide) | replace h5 := of_decide_eq_true h5 | replace h5 := of_decide_eq_false h5 | skip
              all_goals
                first | (refine K.GL.want 58 rfl rfl rfl ?_; first | refine K.GL.det (K.e_move rfl) rfl ?_) | refine K.GL.skip 58 rfl rfl rfl rfl ?_ | refine K.GL.skipU 58 rfl rfl rfl rfl ?_
                first | (refine K.GL.want 58 rfl rfl rfl ?_; first | refine K.GL.det ((K.e_not rfl).cast_bool (b := true) rfl) rfl ?_) | refine K.GL.skip 58 rfl rfl rfl rfl ?_ | refine K.GL.skipU 58 rfl rfl rfl rfl ?_
                first | refine K.GL.det (K.e_pick_t rfl rfl) rfl ?_ | refine K.GL.det (K.e_pick_f rfl rfl) rfl ?_
                refine K.GL.det (K.e_move rfl) rfl ?_
                first | refine K.GL.splitB 62 rfl (fun h6 => ?_) (fun h6 => ?_) | skip
                all_goals first | exact absurd h6 (by decide) | replace h6 := of_decide_eq_true h6 | replace h6 := of_decide_eq_false h6 | skip
                all_goals
                  first | (refine K.GL.want 62 rfl rfl rfl ?_; first | refine K.GL.det (K.e_move rfl) rfl ?_) | refine K.GL.skip 62 rfl rfl rfl rfl ?_ | refine K.GL.skipU 62 rfl rfl rfl rfl ?_
                  first | (refine K.GL.want 62 rfl rfl rfl ?_; first | refine K.GL.det (K.e_indexAddrB sl56 rfl rfl hb26 (by omega) (by omega)) rfl ?_) | refine K.GL.skip 62 rfl rfl rfl rfl ?_ | refine K.GL.skipU 62 rfl rfl rfl rfl ?_
                  first | (refine K.GL.want 62 rfl rfl rfl ?_; first | refine K.GL.det (K.e_fieldAddr fo28_0 rfl) rfl ?_) | refine K.GL.skip 62 rfl rfl rfl rfl ?_ | refine K.GL.skipU 62 rfl rfl rfl rfl ?_
                  first | (refine K.GL.want 62 rfl rfl rfl ?_; first | refine K.GL.det (K.e_loadw Try.isAgg2 rfl (fun w hT => (hT.sl_row (k := 5) (n := g4.all.length) HasW.mem (by omega) (it_flat_length _)).item encI_len hi0 0 _ rfl)) rfl ?_) | refine K.GL.skip 62 rfl rfl rfl rfl ?_ | refine K.GL.skipU 62 rfl rfl rfl rfl ?_
                  first | (refine K.GL.want 62 rfl rfl rfl ?_; first | refine K.GL.det ((K.e_eq rfl rfl).yes (by first | rfl | assumption | decide +kernel | omega)) rfl ?_ | refine K.GL.det ((K.e_eq rfl rfl).no (by first | rfl | assumption | decide +kernel | omega)) rfl ?_ | refine K.GL.det (K.e_eq rfl rfl) rfl ?_) | refine K.GL.skip 62 rfl rfl rfl rfl ?_ | refine K.GL.skipU 62 rfl rfl rfl rfl ?_
                  first | refine K.GL.det (K.e_pick_t rfl rfl) rfl ?_ | refine K.GL.det (K.e_pick_f rfl rfl) rfl ?_
                  refine K.GL.det (K.e_move rfl) rfl ?_
                  first | refine K.GL.splitB 69 rfl (fun h7 => ?_) (fun h7 => ?_) | skip
                  all_goals first | exact absurd h7 (by decide) | replace h7 := of_decide_eq_true h7 | replace h7 := of_decide_eq_false h7 | skip
                  all_goals
                    first | (refine K.GL.want 69 rfl rfl rfl ?_; first | refine K.GL.det (K.e_move rfl) rfl ?_) | refine K.GL.skip 69 rfl rfl rfl rfl ?_ | refine K.GL.skipU 69 rfl rfl rfl rfl ?_
                    first | (refine K.GL.want 69 rfl rfl rfl ?_; first | refine K.GL.det (K.e_indexAddrB sl56 rfl rfl hb26 (by omega) (by omega)) rfl ?_) | refine K.GL.skip 69 rfl rfl rfl rfl ?_ | refine K.GL.skipU 69 rfl rfl rfl rfl ?_
                    first | (refine K.GL.want 69 rfl rfl rfl ?_; first | refine K.GL.det (K.e_fieldAddr fo28_0 rfl) rfl ?_) | refine K.GL.skip 69 rfl rfl rfl rfl ?_ | refine K.GL.skipU 69 rfl rfl rfl rfl ?_
                    first | (refine K.GL.want 69 rfl rfl rfl ?_; first | refine K.GL.det (K.e_loadw Try.isAgg2 rfl (fun w hT => (hT.sl_row (k := 5) (n := g4.all.length) HasW.mem (by omega) (it_flat_length _)).item encI_len hi1 0 _ rfl)) rfl ?_) | refine K.GL.skip 69 rfl rfl rfl rfl ?_ | refine K.GL.skipU 69 rfl rfl rfl rfl ?_
                    first | (refine K.GL.want 69 rfl rfl rfl ?_; first | refine K.GL.det ((K.e_eq rfl rfl).yes (by first | rfl | assumption | decide +kernel | omega)) rfl ?_ | refine K.GL.det ((K.e_eq rfl rfl).no (by first | rfl | assumption | decide +kernel | omega)) rfl ?_ | refine K.GL.det (K.e_eq rfl rfl) rfl ?_) | refine K.GL.skip 69 rfl rfl rfl rfl ?_ | refine K.GL.skipU 69 rfl rfl rfl rfl ?_
                    first | refine K.GL.det (K.e_pick_t rfl rfl) rfl ?_ | refine K.GL.det (K.e_pick_f rfl rfl) rfl ?_
                    refine K.GL.det (K.e_move rfl) rfl ?_
                    first | refine K.GL.splitB 76 rfl (fun h8 => ?_) (fun h8 => ?_) | skip
                    all_goals first | exact absurd h8 (by decide) | replace h8 := of_decide_eq_true h8 | replace h8 := of_decide_eq_false h8 | skip
                    all_goals
                      first | (refine K.GL.want 76 rfl rfl rfl ?_; first | refine K.GL.det (K.e_move rfl) rfl ?_) | refine K.GL.skip 76 rfl rfl rfl rfl ?_ | refine K.GL.skipU 76 rfl rfl rfl rfl ?_
                      first | (refine K.GL.want 76 rfl rfl rfl ?_; first | refine K.GL.det (K.e_indexAddrB sl56 rfl rfl hb26 (by omega) (by omega)) rfl ?_) | refine K.GL.skip 76 rfl rfl rfl rfl ?_ | refine K.GL.skipU 76 rfl rfl rfl rfl ?_
                      first | (refine K.GL.want 76 rfl rfl rfl ?_; first | refine K.GL.det (K.e_fieldAddr fo28_0 rfl) rfl ?_) | refine K.GL.skip 76 rfl rfl rfl rfl ?_ | refine K.GL.skipU 76 rfl rfl rfl rfl ?_
                      first | (refine K.GL.want 76 rfl rfl rfl ?_; first | refine K.GL.det (K.e_loadw Try.isAgg2 rfl (fun w hT => (hT.sl_row (k := 5) (n := g4.all.length) HasW.mem (by omega) (it_flat_length _)).item encI_len hi2 0 _ rfl)) rfl ?_) | refine K.GL.skip 76 rfl rfl rfl rfl ?_ | refine K.GL.skipU 76 rfl rfl rfl rfl ?_
                      first | (refine K.GL.want 76 rfl rfl rfl ?_; first | refine K.GL.det ((K.e_eq rfl rfl).yes (by first | rfl | assumption | decide +kernel | omega)) rfl ?_ | refine K.GL.det ((K.e_eq rfl rfl).no (by first | rfl | assumption | decide +kernel | omega)) rfl ?_ | refine K.GL.det (K.e_eq rfl rfl) rfl ?_) | refine K.GL.skip 76 rfl rfl rfl rfl ?_ | refine K.GL.skipU 76 rfl rfl rfl rfl ?_
                      first | refine K.GL.det (K.e_pick_t rfl rfl) rfl ?_ | refine K.GL.det (K.e_pick_f rfl rfl) rfl ?_
                      refine K.GL.det (K.e_move rfl) rfl ?_
                      first | refine K.GL.splitB 83 rfl (fun h9 => ?_) (fun h9 => ?_) | skip
                      all_goals first | exact absurd h9 (by decide) | replace h9 := of_decide_eq_true h9 | replace h9 := of_decide_eq_false h9 | skip
                      all_goals
                        first | (refine K.GL.want 83 rfl rfl rfl ?_; first | refine K.GL.det (K.e_move rfl) rfl ?_) | refine K.GL.skip 83 rfl rfl rfl rfl ?_ | refine K.GL.skipU 83 rfl rfl rfl rfl ?_
                        first | refine K.GL.det (K.e_pick_t rfl rfl) rfl ?_ | refine K.GL.det (K.e_pick_f rfl rfl) rfl ?_
                        refine K.GL.det (K.e_move rfl) rfl ?_
                        first | refine K.GL.splitB 86 rfl (fun h10 => ?_) (fun h10 => ?_) | skip
                        all_goals first | exact absurd h10 (by decide) | replace h10 := of_decide_eq_true h10 | replace h10 := of_decide_eq_false h10 | skip
                        all_goals
                          first | (refine K.GL.want 86 rfl rfl rfl ?_; first | refine K.GL.det (K.e_move rfl) rfl ?_) | refine K.GL.skip 86 rfl rfl rfl rfl ?_ | refine K.GL.skipU 86 rfl rfl rfl rfl ?_
                          first | refine K.GL.det (K.e_pick_t rfl rfl) rfl ?_ | refine K.GL.det (K.e_pick_f rfl rfl) rfl ?_
                          refine K.GL.det (K.e_move rfl) rfl ?_
                          first | refine K.GL.splitB 89 rfl (fun h11 => ?_) (fun h11 => ?_) | skip
                          all_goals first | exact absurd h11 (by decide) | replace h11 := of_decide_eq_true h11 | replace h11 := of_decide_eq_false h11 | skip
                          all_goals
                            first | (refine K.GL.want 89 rfl rfl rfl ?_; first | refine K.GL.det (K.e_move rfl) rfl ?_) | refine K.GL.skip 89 rfl rfl rfl rfl ?_ | refine K.GL.skipU 89 rfl rfl rfl rfl ?_
                            first | refine K.GL.det (K.e_pick_t rfl rfl) rfl ?_ | refine K.GL.det (K.e_pick_f rfl rfl) rfl ?_
                            refine K.GL.det (K.e_move rfl) rfl ?_
                            first | refine K.GL.splitB 92 rfl (fun h12 => ?_) (fun h12 => ?_) | skip
                            all_goals first | exact absurd h12 (by decide) | replace h12 := of_decide_eq_true h12 | replace h12 := of_decide_eq_false h12 | skip
                            all_goals
                              first | (refine K.GL.want 92 rfl rfl rfl ?_; first | refine K.GL.det (K.e_move rfl) rfl ?_) | refine K.GL.skip 92 rfl rfl rfl rfl ?_ | refine K.GL.skipU 92 rfl rfl rfl rfl ?_
                              first | refine K.GL.det (K.e_pick_t rfl rfl) rfl ?_ | refine K.GL.det (K.e_pick_f rfl rfl) rfl ?_
                              refine K.GL.det (K.e_move rfl) rfl ?_
                              first | refine K.GL.splitB 95 rfl (fun h13 => ?_) (fun h13 => ?_) | skip
                              all_goals first | exact absurd h13 (by decide) | replace h13 := of_decide_eq_true h13 | replace h13 := of_decide_eq_false h13 | skip
                              all_goals
                                first | (refine K.GL.want 95 rfl rfl rfl ?_; first | refine K.GL.det (K.e_move rfl) rfl ?_) | refine K.GL.skip 95 rfl rfl rfl rfl ?_ | refine K.GL.skipU 95 rfl rfl rfl rfl ?_
                                first | (refine K.GL.want 95 rfl rfl rfl ?_; first | refine K.GL.det ((K.e_not rfl).cast_bool (b := true) rfl) rfl ?_) | refine K.GL.skip 95 rfl rfl rfl rfl ?_ | refine K.GL.skipU 95 rfl rfl rfl rfl ?_
                                first | refine K.GL.det (K.e_pick_t rfl rfl) rfl ?_ | refine K.GL.det (K.e_pick_f rfl rfl) rfl ?_
                                refine K.GL.det (K.e_move rfl) rfl ?_
                                first | refine K.GL.splitB 99 rfl (fun h14 => ?_) (fun h14 => ?_) | skip
                                all_goals first | exact absurd h14 (by decide) | replace h14 := of_decide_eq_true h14 | replace h14 := of_decide_eq_false h14 | skip
                                all_goals
                                  first | (refine K.GL.want 99 rfl rfl rfl ?_; first | refine K.GL.det (K.e_fieldAddr fo33_0 rfl) rfl ?_) | refine K.GL.skip 99 rfl rfl rfl rfl ?_ | refine K.GL.skipU 99 rfl rfl rfl rfl ?_
                                  first | (refine K.GL.want 99 rfl rfl rfl ?_; first | refine K.GL.det (K.e_loads Try.isAgg28 Try.sizeOf28 rfl rfl) rfl ?_) | refine K.GL.skip 99 rfl rfl rfl rfl ?_ | refine K.GL.skipU 99 rfl rfl rfl rfl ?_
                                  first | (refine K.GL.want 99 rfl rfl rfl ?_; first | refine K.GL.det (K.e_build lay28 rfl) rfl ?_) | refine K.GL.skip 99 rfl rfl rfl rfl ?_ | refine K.GL.skipU 99 rfl rfl rfl rfl ?_
                                  first | (refine K.GL.want 99 rfl rfl rfl ?_; first | refine K.GL.det ((K.e_eqStruct (xs := encI y5) (ys := encI ⟨5, 3, 2, 20, true, 0, 0, 0, 0, [], 0, 0, 0⟩) (by kernel_rfl) rfl rfl (fun w => run_eqI w _ _)).yes (by decide +kernel)) rfl ?_) | refine K.GL.skip 99 rfl rfl rfl rfl ?_ | refine K.GL.skipU 99 rfl rfl rfl rfl ?_
                                  first | refine K.GL.det (K.e_pick_t rfl rfl) rfl ?_ | refine K.GL.det (K.e_pick_f rfl rfl) rfl ?_
                                  refine K.GL.det (K.e_move rfl) rfl ?_
                                  first | refine K.GL.splitB 105 rfl (fun h15 => ?_) (fun h15 => ?_) | skip
                                  all_goals first | exact absurd h15 (by decide) | replace h15 := of_decide_eq_true h15 | replace h15 := of_decide_eq_false h15 | skip
                                  all_goals
                                    first | (refine K.GL.want 105 rfl rfl rfl ?_; first | refine K.GL.det (K.e_move rfl) rfl ?_) | refine K.GL.skip 105 rfl rfl rfl rfl ?_ | refine K.GL.skipU 105 rfl rfl rfl rfl ?_
                                    first | refine K.GL.det (K.e_pick_t rfl rfl) rfl ?_ | refine K.GL.det (K.e_pick_f rfl rfl) rfl ?_
                                    refine K.GL.det (K.e_move rfl) rfl ?_
                                    first | refine K.GL.splitB 108 rfl (fun h16 => ?_) (fun h16 => ?_) | skip
                                    all_goals first | exact absurd h16 (by decide) | replace h16 := of_decide_eq_true h16 | replace h16 := of_decide_eq_false h16 | skip
                                    all_goals
                                      first | (refine K.GL.want 108 rfl rfl rfl ?_; first | refine K.GL.det (K.e_move rfl) rfl ?_) | refine K.GL.skip 108 rfl rfl rfl rfl ?_ | refine K.GL.skipU 108 rfl rfl rfl rfl ?_
                                      refine K.GL.want 108 rfl rfl rfl ?_
                                      refine gl_in Try.call29 rfl hk9 hz9 rfl (fun a110 c110 => ?_)
                                      refine K.GL.want 108 rfl rfl rfl ?_
                                      refine K.GL.buildSlice mk50 rfl rfl rfl (fun b111 => ?_)
                                      first | (refine K.GL.want 108 rfl rfl rfl ?_; first | refine K.GL.det ((K.e_call1 Try.call28 rfl (fun w hT => ids_con2 (l := (g9.in_ 7).map EX.id) (k := [5, 4]) (by rw [← idsV_ints]; exact hT.sl_row (k := 1) (n := (g9.in_ 7).length) HasW.mem (by omega) (by rw [idsV_length, Nat.mul_one])) (Sl.of_block (hT.ok _ (List.mem_of_getElem? (i := 0) rfl)) rfl) (by rw [hn9]; decide))).yes (by rw [hn9]; rfl)) rfl ?_) | refine K.GL.skip 108 rfl rfl rfl rfl ?_ | refine K.GL.skipU 108 rfl rfl rfl rfl ?_
                                      first | refine K.GL.det (K.e_pick_t rfl rfl) rfl ?_ | refine K.GL.det (K.e_pick_f rfl rfl) rfl ?_
                                      refine K.GL.det (K.e_move rfl) rfl ?_
                                      first | refine K.GL.splitB 114 rfl (fun h17 => ?_) (fun h17 => ?_) | skip
                                      all_goals first | exact absurd h17 (by decide) | replace h17 := of_decide_eq_true h17 | replace h17 := of_decide_eq_false h17 | skip
                                      all_goals
                                        first | (refine K.GL.want 114 rfl rfl rfl ?_; first | refine K.GL.det (K.e_move rfl) rfl ?_) | refine K.GL.skip 114 rfl rfl rfl rfl ?_ | refine K.GL.skipU 114 rfl rfl rfl rfl ?_
                                        first | (refine K.GL.want 114 rfl rfl rfl ?_; first | refine K.GL.det (K.e_call1 Try.call26 rfl (fun w hT => many_con (hT.ok _ PickI.mem))) rfl ?_) | refine K.GL.skip 114 rfl rfl rfl rfl ?_ | refine K.GL.skipU 114 rfl rfl rfl rfl ?_
                                        first | (refine K.GL.want 114 rfl rfl rfl ?_; first | refine K.GL.det ((K.e_eq rfl rfl).yes (by first | rfl | assumption | decide +kernel | omega)) rfl ?_ | refine K.GL.det ((K.e_eq rfl rfl).no (by first | rfl | assumption | decide +kernel | omega)) rfl ?_ | refine K.GL.det (K.e_eq rfl rfl) rfl ?_) | refine K.GL.skip 114 rfl rfl rfl rfl ?_ | refine K.GL.skipU 114 rfl rfl rfl rfl ?_
                                        first | refine K.GL.det (K.e_pick_t rfl rfl) rfl ?_ | refine K.GL.det (K.e_pick_f rfl rfl) rfl ?_
                                        refine K.GL.det (K.e_move rfl) rfl ?_
                                        first | refine K.GL.splitB 119 rfl (fun h18 => ?_) (fun h18 => ?_) | skip
                                        all_goals first | exact absurd h18 (by decide) | replace h18 := of_decide_eq_true h18 | replace h18 := of_decide_eq_false h18 | skip
                                        all_goals
                                          first | (refine K.GL.want 119 rfl rfl rfl ?_; first | refine K.GL.det (K.e_move rfl) rfl ?_) | refine K.GL.skip 119 rfl rfl rfl rfl ?_ | refine K.GL.skipU 119 rfl rfl rfl rfl ?_
                                          refine K.GL.want 119 rfl rfl rfl ?_
                                          refine gl_pin (was := false) Try.call14 rfl hk9 (by rw [hv9]; decide +kernel) rfl (fun g10 hk10 hv10 => ?_)
                                          rw [hv9] at hv10
                                          first | (refine K.GL.want 119 rfl rfl rfl ?_; first | refine K.GL.det ((K.e_not rfl).cast_bool (b := true) rfl) rfl ?_) | refine K.GL.skip 119 rfl rfl rfl rfl ?_ | refine K.GL.skipU 119 rfl rfl rfl rfl ?_
                                          first | refine K.GL.det (K.e_pick_t rfl rfl) rfl ?_ | refine K.GL.det (K.e_pick_f rfl rfl) rfl ?_
                                          refine K.GL.det (K.e_assign rfl) rfl ?_
                                          refine K.GL.nil ?_
                                          refine K.GQ.go ?_
                                          refine K.GC.ret ?_
                                          refine K.GQ.ret1 Try.results9 rfl (fun w hT => ?_)
                                          exact ⟨rfl, hT.nil⟩
end Go.Proofs.Ytcphpcjcbmennaa
