/- The head of the laws of the table that a device has. -/
import Derived.Test.YtdbedajaapamhaaGreatSuM
namespace Go.Proofs.YtdbedajaapamhaaGreat
open Go Go.K
set_option linter.unusedVariables false
set_option linter.unusedSimpArgs false
attribute [local irreducible] Calls Ev GL GC GQ GR Code.wp

abbrev uT : Tab := ⟨4, -1, oneT.exts⟩

theorem uT_right : RightP uT := (right_iff uT).1 (by decide +kernel)

theorem ldz : ldF (fun _ => zer) = ⟨0, 0, []⟩ := by
  unfold ldF
  rw [ld1_zer, ld1_zer]

abbrev hA : DS := DS.new (Int.toNat 4)

theorem hA0 : Dv 4 hA (fun _ => zer) := Dv.new 4

theorem hL0 : hA.load = (⟨0, 0, []⟩, false, 0) := by rw [hA0.load (by decide), ldz]; rfl

theorem hS1 : (hA.save oneT).2 = 0 := (hA0.save (by decide) oneP).1

theorem hS2 : ((hA.save oneT).1.save uT).2 = 0 := ((hA0.save (by decide) oneP).2.save (by decide) uT_right).1

theorem hL2 : ((hA.save oneT).1.save uT).1.load = (uT, true, 0) := by
  rw [((hA0.save (by decide) oneP).2.save (by decide) uT_right).2.load (by decide)]
  have e : ldF (upd (upd (fun _ => zer) (oneT.gen % 2).toNat (putT oneT)) (uT.gen % 2).toNat (putT uT)) = uT := by
    show ld1 (putT oneT) 1 (ld1 (putT uT) 0 ⟨0, 0, []⟩) = uT
    rw [ld1_put uT_right (i := 0) (by decide) (best := ⟨0, 0, []⟩) (by decide), ld1_not oneP (fun _ => by decide)]
  rw [e]; rfl

theorem hL3 : (((hA.save oneT).1.save uT).1.write 0 (List.replicate 64 0)).1.load = (oneT, true, 0) := by
  have h := (((hA0.save (by decide) oneP).2.save (by decide) uT_right).2.write (i := 0) (by decide) (l := zer) rfl).2
  have h2 := h.load (by decide)
  have e : ldF (upd (upd (upd (fun _ => zer) (oneT.gen % 2).toNat (putT oneT)) (uT.gen % 2).toNat (putT uT)) 0 zer) = oneT := by
    show ld1 (putT oneT) 1 (ld1 zer 0 ⟨0, 0, []⟩) = oneT
    rw [ld1_zer, ld1_put oneP (i := 1) (by decide) (best := ⟨0, 0, []⟩) (by decide)]
  rw [e] at h2
  exact h2

theorem hSm : ((DS.new (Int.toNat 1)).save oneT).2 = 1 := by
  have h0 : Dv 1 (DS.new (Int.toNat 1)) (fun _ => zer) := Dv.new 1
  obtain ⟨h1, h2⟩ := h0.flush
  have h3 : (DS.new (Int.toNat 1)).flush.1.write (oneT.gen % 2) (putT oneT) = ((DS.new (Int.toNat 1)).flush.1, 1) := DS.write_bad (fun h => by
    have h4 := h.1.2
    rw [h2.up.len] at h4
    exact absurd h4 (by decide))
  unfold DS.save DS.save3
  rw [if_pos one_right, if_neg (by rw [h1]; simp), if_pos (by rw [h3]; decide), h3]

/- turntable/turntablelaw10.small -/
set_option maxHeartbeats 1000000 in
set_option maxRecDepth 100000 in
theorem small_con {w : World} :
    Calls Tryz.prog 27 #[] w fun e w' => ∃ d' : Nat, ∃ k' : Nat, ∃ m' : Nat, e = .returned (.pointer (some ⟨ d', 0, none⟩)) ∧ Tr w [] w' [DevR d' (DG.new 1 k' m')] := by
  refine K.enter0 (args := []) Tryz.func27 rfl Tryz.ntmps27 rfl ?_
  refine K.GC.seq ?_
  refine K.GC.region ?_
  refine K.GL.det (K.e_assign rfl) rfl ?_
  refine K.GL.nil ?_
  refine K.GQ.go ?_
  refine K.GC.seq ?_
  refine K.GC.region ?_
  refine gl_dnew2_con Tryz.call6 rfl (by first | assumption | omega | rfl | decide) rfl (fun d1 k1 m1 => ?_)
  refine K.GL.det (K.e_assign rfl) rfl ?_
  refine K.GL.nil ?_
  refine K.GQ.go ?_
  refine K.GC.ret ?_
  refine K.GQ.ret1 Tryz.results27 rfl (fun w hT => ?_)
  exact ⟨d1, k1, m1, rfl, hT⟩
section
variable {ops : Array Oper} {Q : Exit → Act → World → Prop} {N : Nat} {U : Env} {w0 : World} {L0 L F : List Res} {ty : TypeId} {rest : List Oper} {pos : String} {after : Array Edge} {xs : List Operand} {tys : Array TypeId} {dT : Tmp}
end
section
variable {ops : Array Oper} {Q : Exit → Act → World → Prop} {N : Nat} {U : Env} {w0 : World} {L0 L F : List Res} {ty : TypeId} {rest : List Oper} {pos : String} {after : Array Edge} {xs : List Operand} {tys : Array TypeId} {dT : Tmp}
theorem em_small_con (hf : ∀ args w, (callFunc 27 args).run Tryz.prog w = .ok (.enter 27 args) w) (hx : opvs U xs = some []) : K.D.EvM Tryz.prog U w0 L0 L [] (.call ⟨.value (.func 27), xs.toArray, tys⟩) ty (fun g => .pointer (some ⟨ (g 0).2, 0, none⟩)) (fun g => True) (fun g => DevR (g 0).2 (DG.new 1 (g 1).2 (g 2).2)) :=
  K.D.em_call hf hx fun w hT => by
    have hT1 := hT; exact (small_con ).mono fun e w' ⟨d', k', m', h1, h2⟩ => ⟨fun i => (none, match i with | 0 => d' | 1 => k' | _ => m'), h1, trivial, h2⟩
end
/- turntable/turntablelaw10.head -/
set_option maxHeartbeats 8000000 in
set_option maxRecDepth 100000 in
theorem head10_con {w : World} :
    Calls Tryz.prog 4 #[] w fun e w' => e = .returned (.bool true) ∧ Tr w [] w' [] := by
  refine K.enter0 (args := []) Tryz.func4 rfl Tryz.ntmps4 rfl ?_
  refine K.GC.seq ?_
  refine K.GC.region ?_
  refine K.GL.det (K.e_assign rfl) rfl ?_
  refine K.GL.nil ?_
  refine K.GQ.go ?_
  refine K.GC.seq ?_
  refine K.GC.region ?_
  refine gl_dnew_con Tryz.call6 rfl (by first | assumption | omega | rfl | decide) rfl (fun d17 g17 hk17 hv17 => ?_)
  refine K.GL.det (K.e_assign rfl) rfl ?_
  refine K.GL.nil ?_
  refine K.GQ.go ?_
  refine K.GC.seq ?_
  refine K.GC.seq ?_
  refine K.GC.region ?_
  refine K.GL.det (K.e_move rfl) rfl ?_
  refine K.GL.det ((K.e_eqlp Tryz.underlying25 rfl rfl).cast_bool (b := false) rfl) rfl ?_
  refine K.GL.nil ?_
  refine K.GQ.go ?_
  refine K.GC.condB rfl (fun h1 => ?_) (fun h1 => ?_)
  · first
    | exact absurd h1 (by decide)
    | try replace h1 := of_decide_eq_true h1
      refine K.GC.seq ?_
      refine K.GC.region ?_
      refine K.GL.det (K.e_assign rfl) rfl ?_
      refine K.GL.nil ?_
      refine K.GQ.go ?_
      refine K.GC.ret ?_
      refine K.GQ.then_ret ?_
      refine K.GQ.ret1 Tryz.results4 rfl (fun w hT => ?_)
      exact ⟨rfl, hT.nil⟩
  · first
    | exact absurd h1 (by decide)
    | try replace h1 := of_decide_eq_false h1
      refine K.GC.skip ?_
      refine K.GQ.go ?_
      refine K.GC.seq ?_
      refine K.GC.region ?_
      refine K.GL.det (K.e_move rfl) rfl ?_
      refine gl_load_con Tryz.call16 rfl (by first | assumption | omega | rfl | decide) (by first | assumption | omega | rfl | decide) rfl (fun a22 c22 => ?_)
      rw [hL0]
      refine K.GL.det (K.e_move rfl) rfl ?_
      refine K.GL.det (K.e_extract rfl rfl) rfl ?_
      refine K.GL.det (K.e_extract rfl rfl) rfl ?_
      refine K.GL.det (K.e_extract rfl rfl) rfl ?_
      refine K.GL.alloc Tryz.zeroValue31 rfl rfl (fun b2 => ?_)
      refine K.GL.storeP (vs := tabC ⟨0, 0, []⟩ a22 c22) (cs' := tabC ⟨0, 0, []⟩ a22 c22) rfl rfl rfl Tryz.sizeOf31 rfl rfl (by exact spliceO_all rfl) ?_
      refine K.GL.det (K.e_assign rfl) rfl ?_
      refine K.GL.det (K.e_assign rfl) rfl ?_
      refine K.GL.nil ?_
      refine K.GQ.go ?_
      refine K.GC.seq ?_
      refine K.GC.region ?_
      refine gl_one_con Tryz.call26 rfl  rfl (fun a26 c26 => ?_)
      refine K.GL.alloc Tryz.zeroValue31 rfl rfl (fun b5 => ?_)
      refine K.GL.storeP (vs := tabC oneT a26 c26) (cs' := tabC oneT a26 c26) rfl rfl rfl Tryz.sizeOf31 rfl rfl (by exact spliceO_all rfl) ?_
      refine K.GL.nil ?_
      refine K.GQ.go ?_
      refine K.GC.seq ?_
      refine K.GC.region ?_
      refine K.GL.det (K.e_move rfl) rfl ?_
      first | refine K.GL.det (K.e_ldA Tryz.isAgg31 Tryz.sizeOf31 rfl rfl (by assumption)) rfl ?_ | refine K.GL.det (K.e_ldAF Tryz.isAgg31 Tryz.sizeOf31 rfl rfl (by assumption) rfl) rfl ?_ | refine K.GL.det (K.e_loads Tryz.isAgg31 Tryz.sizeOf31 rfl rfl) rfl ?_
      refine gl_save_con Tryz.call8 rfl (by first | assumption | omega | rfl | decide) (by first | assumption | omega | rfl | decide) (by decide) rfl (fun g29 hk29 hv29 => ?_)
      rw [hS1]
      refine K.GL.det (K.e_assign rfl) rfl ?_
      refine K.GL.nil ?_
      refine K.GQ.go ?_
      refine K.GC.seq ?_
      refine K.GC.region ?_
      first | refine K.GL.det (K.e_ldA Tryz.isAgg31 Tryz.sizeOf31 rfl rfl (by assumption)) rfl ?_ | refine K.GL.det (K.e_ldAF Tryz.isAgg31 Tryz.sizeOf31 rfl rfl (by assumption) rfl) rfl ?_ | refine K.GL.det (K.e_loads Tryz.isAgg31 Tryz.sizeOf31 rfl rfl) rfl ?_
      refine K.GL.alloc Tryz.zeroValue31 rfl rfl (fun b7 => ?_)
      refine K.GL.storeP (vs := tabC oneT a26 c26) (cs' := tabC oneT a26 c26) rfl rfl rfl Tryz.sizeOf31 rfl rfl (by exact spliceO_all rfl) ?_
      refine K.GL.nil ?_
      refine K.GQ.go ?_
      refine K.GC.seq ?_
      refine K.GC.region ?_
      first | refine K.GL.det (K.e_fa fo31_0 rfl) rfl ?_ | refine K.GL.det (K.e_fieldAddr fo31_0 rfl) rfl ?_
      refine K.GL.store rfl rfl rfl Tryz.sizeOf2 rfl rfl ?_
      refine K.GL.nil ?_
      refine K.GQ.go ?_
      refine K.GC.seq ?_
      refine K.GC.region ?_
      first | refine K.GL.det (K.e_fa fo31_1 rfl) rfl ?_ | refine K.GL.det (K.e_fieldAddr fo31_1 rfl) rfl ?_
      refine K.GL.store rfl rfl rfl Tryz.sizeOf3 rfl rfl ?_
      refine K.GL.nil ?_
      refine K.GQ.go ?_
      refine K.GC.seq ?_
      refine K.GC.region ?_
      refine K.GL.det (K.e_move rfl) rfl ?_
      first | refine K.GL.det (K.e_ldA Tryz.isAgg31 Tryz.sizeOf31 rfl rfl (by assumption)) rfl ?_ | refine K.GL.det (K.e_ldAF Tryz.isAgg31 Tryz.sizeOf31 rfl rfl (by assumption) rfl) rfl ?_ | refine K.GL.det (K.e_loads Tryz.isAgg31 Tryz.sizeOf31 rfl rfl) rfl ?_
      refine gl_save_con (t := uT) Tryz.call8 rfl (by first | assumption | omega | rfl | decide) (by first | assumption | omega | rfl | decide) (by decide) rfl (fun g35 hk35 hv35 => ?_)
      rw [hS2]
      refine K.GL.det (K.e_assign rfl) rfl ?_
      refine K.GL.nil ?_
      refine K.GQ.go ?_
      refine K.GC.seq ?_
      refine K.GC.region ?_
      refine K.GL.det (K.e_move rfl) rfl ?_
      refine gl_load_con Tryz.call16 rfl (by first | assumption | omega | rfl | decide) (by first | assumption | omega | rfl | decide) rfl (fun a38 c38 => ?_)
      rw [hL2]
      refine K.GL.det (K.e_move rfl) rfl ?_
      refine K.GL.det (K.e_extract rfl rfl) rfl ?_
      refine K.GL.det (K.e_extract rfl rfl) rfl ?_
      refine K.GL.det (K.e_extract rfl rfl) rfl ?_
      refine K.GL.alloc Tryz.zeroValue31 rfl rfl (fun b9 => ?_)
      refine K.GL.storeP (vs := tabC uT a38 c38) (cs' := tabC uT a38 c38) rfl rfl rfl Tryz.sizeOf31 rfl rfl (by exact spliceO_all rfl) ?_
      refine K.GL.det (K.e_assign rfl) rfl ?_
      refine K.GL.det (K.e_assign rfl) rfl ?_
      refine K.GL.nil ?_
      refine K.GQ.go ?_
      refine K.GC.seq ?_
      refine K.GC.region ?_
      refine K.GL.det (K.e_move rfl) rfl ?_
      refine K.GL.makeT (e := encB) (n := 64) (0 : UInt8) mk32 rfl rfl rfl (by omega) (by omega) rfl (fun b43 => ?_)
      refine gl_dwrite_con Tryz.call14 rfl (by first | assumption | omega | rfl | decide) (by first | assumption | omega | rfl | decide) rfl (fun g44 hk44 hv44 => ?_)
      refine K.GL.nil ?_
      refine K.GQ.go ?_
      refine K.GC.seq ?_
      refine K.GC.region ?_
      refine K.GL.det (K.e_move rfl) rfl ?_
      refine gl_load_con Tryz.call16 rfl (by first | assumption | omega | rfl | decide) (by first | assumption | omega | rfl | decide) rfl (fun a47 c47 => ?_)
      rw [hL3]
      refine K.GL.det (K.e_move rfl) rfl ?_
      refine K.GL.det (K.e_extract rfl rfl) rfl ?_
      refine K.GL.det (K.e_extract rfl rfl) rfl ?_
      refine K.GL.det (K.e_extract rfl rfl) rfl ?_
      refine K.GL.alloc Tryz.zeroValue31 rfl rfl (fun b12 => ?_)
      refine K.GL.storeP (vs := tabC oneT a47 c47) (cs' := tabC oneT a47 c47) rfl rfl rfl Tryz.sizeOf31 rfl rfl (by exact spliceO_all rfl) ?_
      refine K.GL.det (K.e_assign rfl) rfl ?_
      refine K.GL.det (K.e_assign rfl) rfl ?_
      refine K.GL.nil ?_
      refine K.GQ.go ?_
      refine K.GC.seq ?_
      have hn0 : ∀ F, RdC w [] [DevR d17 g44] F none encX [] := fun F => rdc_nil encX
      refine K.GC.region ?_
      refine K.GL.det (K.e_move rfl) rfl ?_
      refine K.GL.det (K.e_build lay31 rfl) rfl ?_
      refine gl_save_con (t := ⟨0, 0, []⟩) (a := none) (c := 0) Tryz.call8 rfl (by first | assumption | omega | rfl | decide) (by first | assumption | omega | rfl | decide) (by decide) rfl (fun g53 hk53 hv53 => ?_)
      rw [save_bad none_bad]
      refine K.GL.det (K.e_assign rfl) rfl ?_
      refine K.GL.nil ?_
      refine K.GQ.go ?_
      refine K.GC.seq ?_
      refine K.D.GC.drawn0 2 [[], [], [0, 1], [0, 1, 2]] [[], []] [[], []] [[], []] [0] [0, 3, 4, 5, 6, 7, 8, 9, 10, 11, 12, 13, 15, 16, 56, 57, 58, 59, 60, 61, 62, 63, 64, 65, 66, 67, 68, 69, 70, 71, 72, 73, 74, 75, 76, 77, 78, 79, 80, 81, 82, 83, 84, 85, 86, 87, 88, 89, 90, 91, 92, 93, 94, 95, 96, 97, 98, 99, 100, 101, 102, 103, 104, 105, 106] (by kernel_rfl) (by kernel_rfl) (by kernel_rfl) rfl ?_
      refine K.D.DW.ev0 (b := []) (u := []) (a := []) rfl rfl rfl (fun vs hf => show K.D.EvM _ _ _ _ (_) [] _ _ _ _ _ from em_small_con Tryz.call27 rfl ) ?_
      first | refine K.D.DW.det (b := []) (u := []) rfl rfl rfl (fun vs hf => K.e_ldA Tryz.isAgg31 Tryz.sizeOf31 rfl rfl (by assumption)) ?_ | refine K.D.DW.det (b := []) (u := []) rfl rfl rfl (fun vs hf => K.e_ldAF Tryz.isAgg31 Tryz.sizeOf31 rfl rfl (by assumption) rfl) ?_ | refine K.D.DW.det (b := []) (u := []) rfl rfl rfl (fun vs hf => K.e_loads Tryz.isAgg31 Tryz.sizeOf31 rfl rfl) ?_
      refine K.D.DW.fin (fun vs hf => ?_)
      refine K.GL.keep [0, 3, 4, 5, 6, 7, 8, 9, 10, 11, 12, 13, 15, 16, 54, 55, 56, 57, 58, 59, 60, 61, 62, 63, 64, 65, 66, 67, 68, 69, 70, 71, 72, 73, 74, 75, 76, 77, 78, 79, 80, 81, 82, 83, 84, 85, 86, 87, 88, 89, 90, 91, 92, 93, 94, 95, 96, 97, 98, 99, 100, 101, 102, 103, 104, 105, 106] rfl ?_
      refine K.D.GL.res1 rfl ?_
      try dsimp only
      clear hf
      generalize (vs 0 0).1 = a54, (vs 0 0).2 = c54
      try clear vs
      refine gl_save_con (s := DS.new (Int.toNat 1)) Tryz.call8 rfl (DG.new_ok (by decide) (by decide)) rfl (by decide) rfl (fun g56 hk56 hv56 => ?_)
      rw [hSm]
      refine K.GL.det (K.e_assign rfl) rfl ?_
      refine K.GL.nil ?_
      refine K.GQ.go ?_
      refine K.GC.seq ?_
      refine K.GC.region ?_
      refine K.GL.det (K.e_move rfl) rfl ?_
      first | refine K.GL.det (K.e_notp rfl) rfl ?_ | refine K.GL.det (K.e_not rfl) rfl ?_
      refine K.GL.det (K.e_move rfl) rfl ?_
      first | refine K.GL.splitB 59 rfl (fun h2 => ?_) (fun h2 => ?_) | skip
      all_goals first | exact absurd h2 (by decide) | replace h2 := of_decide_eq_true h2 | replace h2 := of_decide_eq_false h2 | skip
      all_goals
        first | (refine K.GL.want 59 rfl rfl rfl ?_; first | refine K.GL.det (K.e_move rfl) rfl ?_) | refine K.GL.skip 59 rfl rfl rfl rfl ?_ | refine K.GL.skipU 59 rfl rfl rfl rfl ?_
        first | (refine K.GL.want 59 rfl rfl rfl ?_; first | refine K.GL.det ((K.e_eq rfl rfl).yes (by first | omega | assumption | decide +kernel)) rfl ?_ | refine K.GL.det ((K.e_eq rfl rfl).no (by first | omega | assumption | decide +kernel)) rfl ?_ | refine K.GL.det (K.e_eq rfl rfl) rfl ?_) | refine K.GL.skip 59 rfl rfl rfl rfl ?_ | refine K.GL.skipU 59 rfl rfl rfl rfl ?_
        first | refine K.GL.det (K.e_pick_t rfl rfl) rfl ?_ | refine K.GL.det (K.e_pick_f rfl rfl) rfl ?_
        refine K.GL.det (K.e_move rfl) rfl ?_
        first | refine K.GL.splitB 63 rfl (fun h3 => ?_) (fun h3 => ?_) | skip
        all_goals first | exact absurd h3 (by decide) | replace h3 := of_decide_eq_true h3 | replace h3 := of_decide_eq_false h3 | skip
        all_goals
          first | (refine K.GL.want 63 rfl rfl rfl ?_; first | refine K.GL.det (K.e_move rfl) rfl ?_) | refine K.GL.skip 63 rfl rfl rfl rfl ?_ | refine K.GL.skipU 63 rfl rfl rfl rfl ?_
          first | (refine K.GL.want 63 rfl rfl rfl ?_; first | refine K.GL.det ((K.e_eq rfl rfl).yes (by first | omega | assumption | decide +kernel)) rfl ?_ | refine K.GL.det ((K.e_eq rfl rfl).no (by first | omega | assumption | decide +kernel)) rfl ?_ | refine K.GL.det (K.e_eq rfl rfl) rfl ?_) | refine K.GL.skip 63 rfl rfl rfl rfl ?_ | refine K.GL.skipU 63 rfl rfl rfl rfl ?_
          first | refine K.GL.det (K.e_pick_t rfl rfl) rfl ?_ | refine K.GL.det (K.e_pick_f rfl rfl) rfl ?_
          refine K.GL.det (K.e_move rfl) rfl ?_
          first | refine K.GL.splitB 67 rfl (fun h4 => ?_) (fun h4 => ?_) | skip
          all_goals first | exact absurd h4 (by decide) | replace h4 := of_decide_eq_true h4 | replace h4 := of_decide_eq_false h4 | skip
          all_goals
            first | (refine K.GL.want 67 rfl rfl rfl ?_; first | refine K.GL.det (K.e_move rfl) rfl ?_) | refine K.GL.skip 67 rfl rfl rfl rfl ?_ | refine K.GL.skipU 67 rfl rfl rfl rfl ?_
            first | (refine K.GL.want 67 rfl rfl rfl ?_; first | refine K.GL.det ((K.e_eq rfl rfl).yes (by first | omega | assumption | decide +kernel)) rfl ?_ | refine K.GL.det ((K.e_eq rfl rfl).no (by first | omega | assumption | decide +kernel)) rfl ?_ | refine K.GL.det (K.e_eq rfl rfl) rfl ?_) | refine K.GL.skip 67 rfl rfl rfl rfl ?_ | refine K.GL.skipU 67 rfl rfl rfl rfl ?_
            first | refine K.GL.det (K.e_pick_t rfl rfl) rfl ?_ | refine K.GL.det (K.e_pick_f rfl rfl) rfl ?_
            refine K.GL.det (K.e_move rfl) rfl ?_
            first | refine K.GL.splitB 71 rfl (fun h5 => ?_) (fun h5 => ?_) | skip
            all_goals first | exact absurd h5 (by decide) | replace h5 := of_decide_eq_true h5 | replace h5 := of_decide_eq_false h5 | skip
            all_goals
              first | (refine K.GL.want 71 rfl rfl rfl ?_; first | refine K.GL.det (K.e_ldA Tryz.isAgg31 Tryz.sizeOf31 rfl rfl (by assumption)) rfl ?_ | refine K.GL.det (K.e_ldAF Tryz.isAgg31 Tryz.sizeOf31 rfl rfl (by assumption) rfl) rfl ?_ | refine K.GL.det (K.e_loads Tryz.isAgg31 Tryz.sizeOf31 rfl rfl) rfl ?_) | refine K.GL.skip 71 rfl rfl rfl rfl ?_ | refine K.GL.skipU 71 rfl rfl rfl rfl ?_
              first | (refine K.GL.want 71 rfl rfl rfl ?_; first | refine K.GL.det (K.e_ldA Tryz.isAgg31 Tryz.sizeOf31 rfl rfl (by assumption)) rfl ?_ | refine K.GL.det (K.e_ldAF Tryz.isAgg31 Tryz.sizeOf31 rfl rfl (by assumption) rfl) rfl ?_ | refine K.GL.det (K.e_loads Tryz.isAgg31 Tryz.sizeOf31 rfl rfl) rfl ?_) | refine K.GL.skip 71 rfl rfl rfl rfl ?_ | refine K.GL.skipU 71 rfl rfl rfl rfl ?_
              first | (refine K.GL.want 71 rfl rfl rfl ?_; first | refine K.GL.det ((ev_rsame_con (t := uT) (u := uT) Tryz.call18 rfl (by first | assumption | exact getT_len _ | (simp; done) | decide) (by first | assumption | exact getT_len _ | (simp; done) | decide)).cast_bool (b := true) (decide_eq_true rfl)) rfl ?_) | refine K.GL.skip 71 rfl rfl rfl rfl ?_ | refine K.GL.skipU 71 rfl rfl rfl rfl ?_
              first | refine K.GL.det (K.e_pick_t rfl rfl) rfl ?_ | refine K.GL.det (K.e_pick_f rfl rfl) rfl ?_
              refine K.GL.det (K.e_move rfl) rfl ?_
              first | refine K.GL.splitB 76 rfl (fun h6 => ?_) (fun h6 => ?_) | skip
              all_goals first | exact absurd h6 (by decide) | replace h6 := of_decide_eq_true h6 | replace h6 := of_decide_eq_false h6 | skip
              all_goals
                first | (refine K.GL.want 76 rfl rfl rfl ?_; first | refine K.GL.det (K.e_move rfl) rfl ?_) | refine K.GL.skip 76 rfl rfl rfl rfl ?_ | refine K.GL.skipU 76 rfl rfl rfl rfl ?_
                first | refine K.GL.det (K.e_pick_t rfl rfl) rfl ?_ | refine K.GL.det (K.e_pick_f rfl rfl) rfl ?_
                refine K.GL.det (K.e_move rfl) rfl ?_
                first | refine K.GL.splitB 79 rfl (fun h7 => ?_) (fun h7 => ?_) | skip
                all_goals first | exact absurd h7 (by decide) | replace h7 := of_decide_eq_true h7 | replace h7 := of_decide_eq_false h7 | skip
                all_goals
                  first | (refine K.GL.want 79 rfl rfl rfl ?_; first | refine K.GL.det (K.e_move rfl) rfl ?_) | refine K.GL.skip 79 rfl rfl rfl rfl ?_ | refine K.GL.skipU 79 rfl rfl rfl rfl ?_
                  first | (refine K.GL.want 79 rfl rfl rfl ?_; first | refine K.GL.det ((K.e_eq rfl rfl).yes (by first | omega | assumption | decide +kernel)) rfl ?_ | refine K.GL.det ((K.e_eq rfl rfl).no (by first | omega | assumption | decide +kernel)) rfl ?_ | refine K.GL.det (K.e_eq rfl rfl) rfl ?_) | refine K.GL.skip 79 rfl rfl rfl rfl ?_ | refine K.GL.skipU 79 rfl rfl rfl rfl ?_
                  first | refine K.GL.det (K.e_pick_t rfl rfl) rfl ?_ | refine K.GL.det (K.e_pick_f rfl rfl) rfl ?_
                  refine K.GL.det (K.e_move rfl) rfl ?_
                  first | refine K.GL.splitB 83 rfl (fun h8 => ?_) (fun h8 => ?_) | skip
                  all_goals first | exact absurd h8 (by decide) | replace h8 := of_decide_eq_true h8 | replace h8 := of_decide_eq_false h8 | skip
                  all_goals
                    first | (refine K.GL.want 83 rfl rfl rfl ?_; first | refine K.GL.det (K.e_ldA Tryz.isAgg31 Tryz.sizeOf31 rfl rfl (by assumption)) rfl ?_ | refine K.GL.det (K.e_ldAF Tryz.isAgg31 Tryz.sizeOf31 rfl rfl (by assumption) rfl) rfl ?_ | refine K.GL.det (K.e_loads Tryz.isAgg31 Tryz.sizeOf31 rfl rfl) rfl ?_) | refine K.GL.skip 83 rfl rfl rfl rfl ?_ | refine K.GL.skipU 83 rfl rfl rfl rfl ?_
                    first | (refine K.GL.want 83 rfl rfl rfl ?_; first | refine K.GL.det (K.e_ldA Tryz.isAgg31 Tryz.sizeOf31 rfl rfl (by assumption)) rfl ?_ | refine K.GL.det (K.e_ldAF Tryz.isAgg31 Tryz.sizeOf31 rfl rfl (by assumption) rfl) rfl ?_ | refine K.GL.det (K.e_loads Tryz.isAgg31 Tryz.sizeOf31 rfl rfl) rfl ?_) | refine K.GL.skip 83 rfl rfl rfl rfl ?_ | refine K.GL.skipU 83 rfl rfl rfl rfl ?_
                    first | (refine K.GL.want 83 rfl rfl rfl ?_; first | refine K.GL.det ((ev_rsame_con (t := oneT) (u := oneT) Tryz.call18 rfl (by first | assumption | exact getT_len _ | (simp; done) | decide) (by first | assumption | exact getT_len _ | (simp; done) | decide)).cast_bool (b := true) (decide_eq_true rfl)) rfl ?_) | refine K.GL.skip 83 rfl rfl rfl rfl ?_ | refine K.GL.skipU 83 rfl rfl rfl rfl ?_
                    first | refine K.GL.det (K.e_pick_t rfl rfl) rfl ?_ | refine K.GL.det (K.e_pick_f rfl rfl) rfl ?_
                    refine K.GL.det (K.e_move rfl) rfl ?_
                    first | refine K.GL.splitB 88 rfl (fun h9 => ?_) (fun h9 => ?_) | skip
                    all_goals first | exact absurd h9 (by decide) | replace h9 := of_decide_eq_true h9 | replace h9 := of_decide_eq_false h9 | skip
                    all_goals
                      first | (refine K.GL.want 88 rfl rfl rfl ?_; first | refine K.GL.det (K.e_move rfl) rfl ?_) | refine K.GL.skip 88 rfl rfl rfl rfl ?_ | refine K.GL.skipU 88 rfl rfl rfl rfl ?_
                      first | refine K.GL.det (K.e_pick_t rfl rfl) rfl ?_ | refine K.GL.det (K.e_pick_f rfl rfl) rfl ?_
                      refine K.GL.det (K.e_move rfl) rfl ?_
                      first | refine K.GL.splitB 91 rfl (fun h10 => ?_) (fun h10 => ?_) | skip
                      all_goals first | exact absurd h10 (by decide) | replace h10 := of_decide_eq_true h10 | replace h10 := of_decide_eq_false h10 | skip
                      all_goals
                        first | (refine K.GL.want 91 rfl rfl rfl ?_; first | refine K.GL.det (K.e_move rfl) rfl ?_) | refine K.GL.skip 91 rfl rfl rfl rfl ?_ | refine K.GL.skipU 91 rfl rfl rfl rfl ?_
                        first | (refine K.GL.want 91 rfl rfl rfl ?_; first | refine K.GL.det ((K.e_eq rfl rfl).yes (by first | omega | assumption | decide +kernel)) rfl ?_ | refine K.GL.det ((K.e_eq rfl rfl).no (by first | omega | assumption | decide +kernel)) rfl ?_ | refine K.GL.det (K.e_eq rfl rfl) rfl ?_) | refine K.GL.skip 91 rfl rfl rfl rfl ?_ | refine K.GL.skipU 91 rfl rfl rfl rfl ?_
                        first | refine K.GL.det (K.e_pick_t rfl rfl) rfl ?_ | refine K.GL.det (K.e_pick_f rfl rfl) rfl ?_
                        refine K.GL.det (K.e_move rfl) rfl ?_
                        first | refine K.GL.splitB 95 rfl (fun h11 => ?_) (fun h11 => ?_) | skip
                        all_goals first | exact absurd h11 (by decide) | replace h11 := of_decide_eq_true h11 | replace h11 := of_decide_eq_false h11 | skip
                        all_goals
                          first | (refine K.GL.want 95 rfl rfl rfl ?_; first | refine K.GL.det (K.e_move rfl) rfl ?_) | refine K.GL.skip 95 rfl rfl rfl rfl ?_ | refine K.GL.skipU 95 rfl rfl rfl rfl ?_
                          first | (refine K.GL.want 95 rfl rfl rfl ?_; first | refine K.GL.det ((K.e_eq rfl rfl).yes (by first | omega | assumption | decide +kernel)) rfl ?_ | refine K.GL.det ((K.e_eq rfl rfl).no (by first | omega | assumption | decide +kernel)) rfl ?_ | refine K.GL.det (K.e_eq rfl rfl) rfl ?_) | refine K.GL.skip 95 rfl rfl rfl rfl ?_ | refine K.GL.skipU 95 rfl rfl rfl rfl ?_
                          first | refine K.GL.det (K.e_pick_t rfl rfl) rfl ?_ | refine K.GL.det (K.e_pick_f rfl rfl) rfl ?_
                          refine K.GL.det (K.e_move rfl) rfl ?_
                          first | refine K.GL.splitB 99 rfl (fun h12 => ?_) (fun h12 => ?_) | skip
                          all_goals first | exact absurd h12 (by decide) | replace h12 := of_decide_eq_true h12 | replace h12 := of_decide_eq_false h12 | skip
                          all_goals
                            first | (refine K.GL.want 99 rfl rfl rfl ?_; first | refine K.GL.det (ev_slot_con Tryz.call24 rfl ) rfl ?_) | refine K.GL.skip 99 rfl rfl rfl rfl ?_ | refine K.GL.skipU 99 rfl rfl rfl rfl ?_
                            first | (refine K.GL.want 99 rfl rfl rfl ?_; first | refine K.GL.det ((K.e_eq rfl rfl).yes (by first | omega | assumption | decide +kernel)) rfl ?_ | refine K.GL.det ((K.e_eq rfl rfl).no (by first | omega | assumption | decide +kernel)) rfl ?_ | refine K.GL.det (K.e_eq rfl rfl) rfl ?_) | refine K.GL.skip 99 rfl rfl rfl rfl ?_ | refine K.GL.skipU 99 rfl rfl rfl rfl ?_
                            first | refine K.GL.det (K.e_pick_t rfl rfl) rfl ?_ | refine K.GL.det (K.e_pick_f rfl rfl) rfl ?_
                            refine K.GL.det (K.e_move rfl) rfl ?_
                            first | refine K.GL.splitB 103 rfl (fun h13 => ?_) (fun h13 => ?_) | skip
                            all_goals first | exact absurd h13 (by decide) | replace h13 := of_decide_eq_true h13 | replace h13 := of_decide_eq_false h13 | skip
                            all_goals
                              first | (refine K.GL.want 103 rfl rfl rfl ?_; first | refine K.GL.det (ev_slot_con Tryz.call24 rfl ) rfl ?_) | refine K.GL.skip 103 rfl rfl rfl rfl ?_ | refine K.GL.skipU 103 rfl rfl rfl rfl ?_
                              first | (refine K.GL.want 103 rfl rfl rfl ?_; first | refine K.GL.det ((K.e_eq rfl rfl).yes (by first | omega | assumption | decide +kernel)) rfl ?_ | refine K.GL.det ((K.e_eq rfl rfl).no (by first | omega | assumption | decide +kernel)) rfl ?_ | refine K.GL.det (K.e_eq rfl rfl) rfl ?_) | refine K.GL.skip 103 rfl rfl rfl rfl ?_ | refine K.GL.skipU 103 rfl rfl rfl rfl ?_
                              first | refine K.GL.det (K.e_pick_t rfl rfl) rfl ?_ | refine K.GL.det (K.e_pick_f rfl rfl) rfl ?_
                              refine K.GL.det (K.e_assign rfl) rfl ?_
                              refine K.GL.nil ?_
                              refine K.GQ.go ?_
                              refine K.GC.ret ?_
                              refine K.GQ.ret1 Tryz.results4 rfl (fun w hT => ?_)
                              exact ⟨rfl, hT.nil⟩
section
variable {ops : Array Oper} {Q : Exit → Act → World → Prop} {N : Nat} {U : Env} {w0 : World} {L0 L F : List Res} {ty : TypeId} {rest : List Oper} {pos : String} {after : Array Edge} {xs : List Operand} {tys : Array TypeId} {dT : Tmp}
theorem ev_head10_con (hf : ∀ args w, (callFunc 4 args).run Tryz.prog w = .ok (.enter 4 args) w) (hx : opvs U xs = some []) : Ev Tryz.prog U w0 L0 L (.call ⟨.value (.func 4), xs.toArray, tys⟩) ty (Is (.bool true)) No :=
  K.e_call1 hf hx (fun w hT => by exact head10_con )
end
end Go.Proofs.YtdbedajaapamhaaGreat
