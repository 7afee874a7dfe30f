/- SuperNone returns true for all tables. -/
import Derived.ProofKit
import Derived.OpenShut
import Derived.SizedLaws
import Derived.Lib.SmallJoins
import Derived.Test.YtdbedajaapamhaaRows
import Derived.Test.YtdbedajaapamhaaSuH
namespace Go.Proofs.Ytdbedajaapamhaa
open Go Go.K Go.ChangeShapes Go.WideShapes Go.ChangeAt Go.RowKit Go.Joins
set_option linter.unusedVariables false
set_option linter.unusedSimpArgs false
attribute [local irreducible] Calls Ev GL GC GQ GR Code.wp
theorem own : ownKnob Try.prog.godebug = none := by kernel_rfl
theorem laidOut : laidOutB Try.prog = true := by kernel_rfl

theorem none1 {t : Tab} (h : RightP t) : (hA.save t).1.load = (t, true, 0) := by
  rw [(hA0.save (by decide) h).2.load (by decide)]
  have h1 := h.g1
  have e : ldF (upd (fun _ => zer) (t.gen % 2).toNat (putT t)) = t := by
    rcases (by omega : t.gen % 2 = 0 ∨ t.gen % 2 = 1) with hp | hp
    · rw [hp]
      show ld1 zer 1 (ld1 (putT t) 0 ⟨0, 0, []⟩) = t
      rw [ld1_zer, ld1_put h (i := 0) hp (by show (0 : Int) < t.gen; omega)]
    · rw [hp]
      show ld1 (putT t) 1 (ld1 zer 0 ⟨0, 0, []⟩) = t
      rw [ld1_zer, ld1_put h (i := 1) hp (by show (0 : Int) < t.gen; omega)]
  rw [e, decide_eq_true (by omega : 0 < t.gen)]
theorem none2 {t : Tab} (h : RightP t) : (((((hA.save t).1.write 0 (List.replicate 64 0)).1.write 1 (List.replicate 64 0)).1.write 2 (putT t)).1.write (1 - t.gen % 2) (putT t)).1.load = (⟨0, 0, []⟩, false, 0) := by
  have hl := putT_len ((right_iff t).2 h)
  have h2 := ((hA0.save (by decide) h).2.write (i := 0) (by decide) (l := zer) rfl).2
  have h3 := (h2.write (i := 1) (by decide) (l := zer) rfl).2
  have h4 := (h3.write (i := 2) (by decide) hl).2
  have hi : (1 - t.gen % 2).toNat < 4 := by omega
  have he : (((1 - t.gen % 2).toNat : Nat) : Int) = 1 - t.gen % 2 := by omega
  have h5 := (h4.write hi hl).2
  rw [he] at h5
  have h6 := h5.load (by decide)
  have e : ldF (upd (upd (upd (upd (upd (fun _ => zer) (t.gen % 2).toNat (putT t)) 0 zer) 1 zer) 2 (putT t)) (1 - t.gen % 2).toNat (putT t)) = ⟨0, 0, []⟩ := by
    rcases (by omega : t.gen % 2 = 0 ∨ t.gen % 2 = 1) with hp | hp
    · rw [hp]
      show ld1 (putT t) 1 (ld1 zer 0 ⟨0, 0, []⟩) = _
      rw [ld1_zer, ld1_not h (fun h7 => by rw [hp] at h7; exact absurd h7 (by decide))]
    · rw [hp]
      show ld1 zer 1 (ld1 (putT t) 0 ⟨0, 0, []⟩) = _
      rw [ld1_zer, ld1_not h (fun h7 => by rw [hp] at h7; exact absurd h7 (by decide))]
  rw [e] at h6
  exact h6
theorem putT_right {t : Tab} (h : (putT t).length = 64) : RightP t := by
  rcases putT_cases t with ⟨_, h1, _⟩ | ⟨_, h1⟩
  · exact h1
  · omega
/- turntable/turntablelaw10.SuperNone -/
set_option maxHeartbeats 8000000 in
set_option maxRecDepth 100000 in
theorem none_con {t : Tab} {a : Option Addr} {c : Nat} {w : World} (hl : t.exts.length ≤ 9223372036854775807) [Old w [] a (encX) (t.exts)] :
    Calls Try.prog 4 #[.agg (tabC t a c).toArray] w fun e w' => e = .returned (.bool true) ∧ Tr w [] w' [] := by
  refine K.enter0 (args := [_]) Try.func4 rfl Try.ntmps4 rfl ?_
  refine K.GC.seq ?_
  refine K.GC.region ?_
  refine K.GL.box rfl rfl rfl (fun b1 => ?_)
  refine K.GL.det (K.e_assign rfl) rfl ?_
  refine K.GL.nil ?_
  refine K.GQ.go ?_
  refine K.GC.seq ?_
  refine K.GC.region ?_
  refine K.GL.det (ev_head10_con Try.call14 rfl ) rfl ?_
  refine K.GL.det (K.e_assign rfl) rfl ?_
  refine K.GL.nil ?_
  refine K.GQ.go ?_
  refine K.GC.seq ?_
  refine K.GC.region ?_
  refine gl_dnew_con Try.call15 rfl (by first | assumption | omega | rfl | decide) rfl (fun d13 g13 hk13 hv13 => ?_)
  refine K.GL.det (K.e_assign rfl) rfl ?_
  refine K.GL.nil ?_
  refine K.GQ.go ?_
  refine K.GC.seq ?_
  refine K.GC.region ?_
  first | refine K.GL.det (K.e_ldA Try.isAgg29 Try.sizeOf29 rfl rfl (by assumption)) rfl ?_ | refine K.GL.det (K.e_ldAF Try.isAgg29 Try.sizeOf29 rfl rfl (by assumption) rfl) rfl ?_ | refine K.GL.det (K.e_loads Try.isAgg29 Try.sizeOf29 rfl rfl) rfl ?_
  refine gl_rtput_con Try.call21 rfl (by first | assumption | omega | rfl | decide) rfl (fun a15 c15 => ?_)
  refine K.GL.det (K.e_assign rfl) rfl ?_
  refine K.GL.nil ?_
  refine K.GQ.go ?_
  refine K.GC.seq ?_
  refine K.GC.seq ?_
  refine K.GC.region ?_
  refine K.GL.det (K.e_move rfl) rfl ?_
  refine K.GL.det ((K.e_eqlp Try.underlying25 rfl rfl).cast_bool (b := false) rfl) rfl ?_
  refine K.GL.det (K.e_move rfl) rfl ?_
  first | refine K.GL.splitB 18 rfl (fun h1 => ?_) (fun h1 => ?_) | skip
  all_goals first | exact absurd h1 (by decide) | replace h1 := of_decide_eq_true h1 | replace h1 := of_decide_eq_false h1 | skip
  all_goals
    first | (refine K.GL.want 18 rfl rfl rfl ?_; first | refine K.GL.det (K.e_move rfl) rfl ?_) | refine K.GL.skip 18 rfl rfl rfl rfl ?_ | refine K.GL.skipU 18 rfl rfl rfl rfl ?_
    first | (refine K.GL.want 18 rfl rfl rfl ?_; first | refine K.GL.det (K.e_len Try.underlying37 rfl) rfl ?_) | refine K.GL.skip 18 rfl rfl rfl rfl ?_ | refine K.GL.skipU 18 rfl rfl rfl rfl ?_
    first | (refine K.GL.want 18 rfl rfl rfl ?_; first | refine K.GL.det ((K.e_ne rfl rfl).yes (by first | omega | assumption | decide +kernel)) rfl ?_ | refine K.GL.det ((K.e_ne rfl rfl).no (by first | omega | assumption | decide +kernel)) rfl ?_ | refine K.GL.det (K.e_ne rfl rfl) rfl ?_) | refine K.GL.skip 18 rfl rfl rfl rfl ?_ | refine K.GL.skipU 18 rfl rfl rfl rfl ?_
    first | refine K.GL.det (K.e_pick_t rfl rfl) rfl ?_ | refine K.GL.det (K.e_pick_f rfl rfl) rfl ?_
    refine K.GL.nil ?_
    refine K.GQ.go ?_
    refine K.GC.condB rfl (fun h2 => ?_) (fun h2 => ?_)
    · first
      | exact absurd h2 (by decide)
      | try replace h2 := of_decide_eq_true h2
        refine K.GC.seq ?_
        refine K.GC.region ?_
        refine K.GL.det (K.e_move rfl) rfl ?_
        refine K.GL.det ((K.e_neqp Try.underlying25 rfl rfl).cast_bool (b := true) rfl) rfl ?_
        refine K.GL.det (K.e_move rfl) rfl ?_
        first | refine K.GL.splitB 25 rfl (fun h3 => ?_) (fun h3 => ?_) | skip
        all_goals first | exact absurd h3 (by decide) | replace h3 := of_decide_eq_true h3 | replace h3 := of_decide_eq_false h3 | skip
        all_goals
          first | (refine K.GL.want 25 rfl rfl rfl ?_; first | refine K.GL.det (K.e_move rfl) rfl ?_) | refine K.GL.skip 25 rfl rfl rfl rfl ?_ | refine K.GL.skipU 25 rfl rfl rfl rfl ?_
          first | refine K.GL.det (K.e_pick_t rfl rfl) rfl ?_ | refine K.GL.det (K.e_pick_f rfl rfl) rfl ?_
          refine K.GL.det (K.e_assign rfl) rfl ?_
          refine K.GL.nil ?_
          refine K.GQ.go ?_
          refine K.GC.ret ?_
          refine K.GQ.then_ret ?_
          refine K.GQ.ret1 Try.results4 rfl (fun w hT => ?_)
          exact ⟨rfl, hT.nil⟩
    · first
      | exact absurd h2 (by decide)
      | try replace h2 := of_decide_eq_false h2
        refine K.GC.skip ?_
        refine K.GQ.go ?_
        refine K.GC.seq ?_
        have hP : RightP t := putT_right (by omega)
        refine K.GC.region ?_
        refine K.GL.det (K.e_move rfl) rfl ?_
        first | refine K.GL.det (K.e_ldA Try.isAgg29 Try.sizeOf29 rfl rfl (by assumption)) rfl ?_ | refine K.GL.det (K.e_ldAF Try.isAgg29 Try.sizeOf29 rfl rfl (by assumption) rfl) rfl ?_ | refine K.GL.det (K.e_loads Try.isAgg29 Try.sizeOf29 rfl rfl) rfl ?_
        refine gl_save_con Try.call16 rfl (by first | assumption | omega | rfl | decide) (by first | assumption | omega | rfl | decide) (by first | assumption | omega | rfl | decide) rfl (fun g30 hk30 hv30 => ?_)
        refine K.GL.nil ?_
        refine K.GQ.go ?_
        refine K.GC.seq ?_
        refine K.GC.region ?_
        refine K.GL.det (K.e_move rfl) rfl ?_
        refine gl_load_con Try.call17 rfl (by first | assumption | omega | rfl | decide) (by first | assumption | omega | rfl | decide) rfl (fun a33 c33 => ?_)
        rw [none1 hP]
        dsimp only
        refine K.GL.det (K.e_move rfl) rfl ?_
        refine K.GL.det (K.e_extract rfl rfl) rfl ?_
        refine K.GL.det (K.e_extract rfl rfl) rfl ?_
        refine K.GL.det (K.e_extract rfl rfl) rfl ?_
        refine K.GL.alloc Try.zeroValue29 rfl rfl (fun b6 => ?_)
        refine K.GL.storeP (vs := tabC t a33 c33) (cs' := tabC t a33 c33) rfl rfl rfl Try.sizeOf29 rfl rfl (by exact spliceO_all rfl) ?_
        refine K.GL.det (K.e_assign rfl) rfl ?_
        refine K.GL.det (K.e_assign rfl) rfl ?_
        refine K.GL.nil ?_
        refine K.GQ.go ?_
        refine K.GC.seq ?_
        refine K.GC.region ?_
        refine K.GL.det (K.e_move rfl) rfl ?_
        refine K.GL.makeT (e := encB) (n := 64) (0 : UInt8) mk37 rfl rfl rfl (by omega) (by omega) rfl (fun b38 => ?_)
        refine gl_dwrite_con Try.call19 rfl (by first | assumption | omega | rfl | decide) (by first | assumption | omega | rfl | decide) rfl (fun g39 hk39 hv39 => ?_)
        refine K.GL.nil ?_
        refine K.GQ.go ?_
        refine K.GC.seq ?_
        refine K.GC.region ?_
        refine K.GL.det (K.e_move rfl) rfl ?_
        refine K.GL.makeT (e := encB) (n := 64) (0 : UInt8) mk37 rfl rfl rfl (by omega) (by omega) rfl (fun b41 => ?_)
        refine gl_dwrite_con Try.call19 rfl (by first | assumption | omega | rfl | decide) (by first | assumption | omega | rfl | decide) rfl (fun g42 hk42 hv42 => ?_)
        refine K.GL.nil ?_
        refine K.GQ.go ?_
        refine K.GC.seq ?_
        refine K.GC.region ?_
        refine K.GL.det (K.e_move rfl) rfl ?_
        refine K.GL.det (K.e_move rfl) rfl ?_
        refine gl_dwrite_con Try.call19 rfl (by first | assumption | omega | rfl | decide) (by first | assumption | omega | rfl | decide) rfl (fun g45 hk45 hv45 => ?_)
        refine K.GL.nil ?_
        refine K.GQ.go ?_
        refine K.GC.seq ?_
        refine K.GC.region ?_
        refine K.GL.det (K.e_move rfl) rfl ?_
        first | refine K.GL.det (K.e_fa fo29_0 rfl) rfl ?_ | refine K.GL.det (K.e_fieldAddr fo29_0 rfl) rfl ?_
        first | refine K.GL.det (K.e_ldE Try.isAgg2 rfl rfl (by assumption) rfl) rfl ?_ | refine K.GL.det (K.e_ldF Try.isAgg2 rfl rfl (by assumption) rfl) rfl ?_ | refine K.GL.det (K.e_load Try.isAgg2 rfl rfl) rfl ?_ | refine K.GL.det (K.e_load0 Try.isAgg2 rfl (by assumption)) rfl ?_
        refine K.GL.det (ev_slot_con Try.call20 rfl ) rfl ?_
        first | refine K.GL.det (K.e_sub rfl rfl ⟨by omega, by omega⟩) rfl ?_ | refine K.GL.det (K.e_subw rfl rfl) rfl ?_
        refine K.GL.det (K.e_move rfl) rfl ?_
        refine gl_dwrite_con Try.call19 rfl (by first | assumption | omega | rfl | decide) (by first | assumption | omega | rfl | decide) rfl (fun g52 hk52 hv52 => ?_)
        refine K.GL.nil ?_
        refine K.GQ.go ?_
        refine K.GC.seq ?_
        refine K.GC.region ?_
        refine K.GL.det (K.e_move rfl) rfl ?_
        refine gl_load_con Try.call17 rfl (by first | assumption | omega | rfl | decide) (by first | assumption | omega | rfl | decide) rfl (fun a55 c55 => ?_)
        rw [none2 hP]
        dsimp only
        refine K.GL.det (K.e_move rfl) rfl ?_
        refine K.GL.det (K.e_extract rfl rfl) rfl ?_
        refine K.GL.det (K.e_extract rfl rfl) rfl ?_
        refine K.GL.det (K.e_extract rfl rfl) rfl ?_
        refine K.GL.alloc Try.zeroValue29 rfl rfl (fun b9 => ?_)
        refine K.GL.storeP (vs := tabC ⟨0, 0, []⟩ a55 c55) (cs' := tabC ⟨0, 0, []⟩ a55 c55) rfl rfl rfl Try.sizeOf29 rfl rfl (by exact spliceO_all rfl) ?_
        refine K.GL.det (K.e_assign rfl) rfl ?_
        refine K.GL.det (K.e_assign rfl) rfl ?_
        refine K.GL.nil ?_
        refine K.GQ.go ?_
        refine K.GC.seq ?_
        refine K.GC.region ?_
        refine K.GL.det (K.e_move rfl) rfl ?_
        refine K.GL.det (K.e_move rfl) rfl ?_
        first | refine K.GL.splitB 60 rfl (fun h4 => ?_) (fun h4 => ?_) | skip
        all_goals first | exact absurd h4 (by decide) | replace h4 := of_decide_eq_true h4 | replace h4 := of_decide_eq_false h4 | skip
        all_goals
          first | (refine K.GL.want 60 rfl rfl rfl ?_; first | refine K.GL.det (K.e_move rfl) rfl ?_) | refine K.GL.skip 60 rfl rfl rfl rfl ?_ | refine K.GL.skipU 60 rfl rfl rfl rfl ?_
          first | refine K.GL.det (K.e_pick_t rfl rfl) rfl ?_ | refine K.GL.det (K.e_pick_f rfl rfl) rfl ?_
          refine K.GL.det (K.e_move rfl) rfl ?_
          first | refine K.GL.splitB 63 rfl (fun h5 => ?_) (fun h5 => ?_) | skip
          all_goals first | exact absurd h5 (by decide) | replace h5 := of_decide_eq_true h5 | replace h5 := of_decide_eq_false h5 | skip
          all_goals
            first | (refine K.GL.want 63 rfl rfl rfl ?_; first | refine K.GL.det (K.e_move rfl) rfl ?_) | refine K.GL.skip 63 rfl rfl rfl rfl ?_ | refine K.GL.skipU 63 rfl rfl rfl rfl ?_
            first | (refine K.GL.want 63 rfl rfl rfl ?_; first | refine K.GL.det (K.e_notp rfl) rfl ?_ | refine K.GL.det (K.e_not rfl) rfl ?_) | refine K.GL.skip 63 rfl rfl rfl rfl ?_ | refine K.GL.skipU 63 rfl rfl rfl rfl ?_
            first | refine K.GL.det (K.e_pick_t rfl rfl) rfl ?_ | refine K.GL.det (K.e_pick_f rfl rfl) rfl ?_
            refine K.GL.det (K.e_move rfl) rfl ?_
            first | refine K.GL.splitB 67 rfl (fun h6 => ?_) (fun h6 => ?_) | skip
            all_goals first | exact absurd h6 (by decide) | replace h6 := of_decide_eq_true h6 | replace h6 := of_decide_eq_false h6 | skip
            all_goals
              first | (refine K.GL.want 67 rfl rfl rfl ?_; first | refine K.GL.det (K.e_move rfl) rfl ?_) | refine K.GL.skip 67 rfl rfl rfl rfl ?_ | refine K.GL.skipU 67 rfl rfl rfl rfl ?_
              first | (refine K.GL.want 67 rfl rfl rfl ?_; first | refine K.GL.det ((K.e_eq rfl rfl).yes (by first | omega | assumption | decide +kernel)) rfl ?_ | refine K.GL.det ((K.e_eq rfl rfl).no (by first | omega | assumption | decide +kernel)) rfl ?_ | refine K.GL.det (K.e_eq rfl rfl) rfl ?_) | refine K.GL.skip 67 rfl rfl rfl rfl ?_ | refine K.GL.skipU 67 rfl rfl rfl rfl ?_
              first | refine K.GL.det (K.e_pick_t rfl rfl) rfl ?_ | refine K.GL.det (K.e_pick_f rfl rfl) rfl ?_
              refine K.GL.det (K.e_assign rfl) rfl ?_
              refine K.GL.nil ?_
              refine K.GQ.go ?_
              refine K.GC.ret ?_
              refine K.GQ.ret1 Try.results4 rfl (fun w hT => ?_)
              exact ⟨rfl, hT.nil⟩
section
variable {ops : Array Oper} {Q : Exit → Act → World → Prop} {N : Nat} {U : Env} {w0 : World} {L0 L F : List Res} {ty : TypeId} {rest : List Oper} {pos : String} {after : Array Edge} {xs : List Operand} {tys : Array TypeId} {dT : Tmp}
theorem ev_none_con {t : Tab} {a : Option Addr} {c : Nat} (hf : ∀ args w, (callFunc 4 args).run Try.prog w = .ok (.enter 4 args) w) (hx : opvs U xs = some [.agg (tabC t a c).toArray]) (hl : t.exts.length ≤ 9223372036854775807) [o0 : RdC w0 L0 [] L a (encX) (t.exts)] : Ev Try.prog U w0 L0 L (.call ⟨.value (.func 4), xs.toArray, tys⟩) ty (Is (.bool true)) No :=
  K.e_call1 hf hx (fun w hT => by have _o0 := o0.out w hT; exact none_con hl)
end

set_option maxHeartbeats 1000000 in
set_option maxRecDepth 100000 in
theorem SuperNone_lifted (os : Os) (started : os.Started) (H : Type) (enc : TypeId × Value → H) :
    ReturnsInHanded {} Try.checked os 4 .any (Rows.superNoneSpec.pre6 enc Try.prog Try.f4 Rows.superNoneRow.domain false) (Rows.superNoneSpec.post enc Try.prog Try.f4 false true false false) := by
  refine returnsInHanded_of_change_sized (C := Try.checked) own started (by kernel_rfl) Try.func4
    (ChangeSpec.witness6 (enc := enc) (C := Try.checked) false ⟨#[], #[.agg #[.int .i64 0, .int .i64 0, .slice none 0 0]], []⟩ 8 (by kernel_rfl) (by kernel_rfl) (by kernel_rfl) (by kernel_rfl)) ?_
  intro W base args ds gs before hval0 hW _ hsz0 _
  have hval : ∀ (j : Nat) t v, Try.f4.params[j]? = some t → args[j]? = some v → Value.okWide Try.prog W .any base t v := hval0
  have hsz : (DataW.weightsEach Try.prog (Try.f4.params.toList ++ []) (ds ++ gs)).all (· ≤ reachBytes) = true := hsz0
  have hW' := hW
  obtain ⟨p, q, hA0, hV, hpe, hfz, hnd⟩ := hW
  have hA : DataW.TrodAll enc Try.prog W 0 (fun _ => true) true Try.f4.params.toList args.toList ds p := hA0
  obtain ⟨rfl, rfl⟩ := trodVars_none hV
  rw [Try.params4] at hA hval hsz
  obtain ⟨v0, vs0, d0, ds0, p0, q0, hargs, rfl, rfl, h0, r0⟩ := trodAll_cons hA
  obtain ⟨rfl, rfl, rfl⟩ := trodAll_nil r0
  obtain rfl : args = #[v0] := by cases args; simp_all
  clear hA0 hval0 hsz0 hA hargs
  obtain ⟨csz, rfl, _⟩ := okWide_struct Try.underlying29 (hval 0 29 _ rfl rfl)
  obtain ⟨fuelz, hfz⟩ := h0
  obtain ⟨tz, az, cz, hcsz, hnz, hcz, hoz⟩ := open_tab _ _ _ hfz
  unfold maxLen at hnz
  obtain rfl : csz = (tabC tz az cz).toArray := by
    have : csz.toList = tabC tz az cz := by simpa [Value.cells] using hcsz
    rw [← this]
  have core : Calls Try.prog 4 #[.agg (tabC tz az cz).toArray] W fun e W' => e = .returned (.bool true) ∧ Tr W [] W' [] := none_con hnz
  exact core.mono fun e W' ⟨he, hT⟩ => ⟨_, he, law_post (tb := 4) hW' rfl rfl Try.underlying4 (fun _ => rfl) laidOut (by kernel_rfl) hT.below⟩
theorem SuperNone_holds : Rows.SuperNoneSaid :=
  OpenClaim.holds_of_wide 4 Try.f4 rfl rfl rfl rfl rfl rfl rfl ⟨rfl, rfl, rfl, rfl, rfl⟩ rfl rfl rfl rfl rfl (by kernel_rfl) Try.func4 (by kernel_rfl)
    (of_decide_eq_true (by kernel_rfl)) (by unfold Func.isWrapper; first | (rw [if_pos (by decide +kernel)]; kernel_rfl) | (rw [if_neg (by decide +kernel)]; exact ⟨rfl, rfl⟩))
    (fun os started H enc _ => SuperNone_lifted os started H enc)

end Go.Proofs.Ytdbedajaapamhaa
