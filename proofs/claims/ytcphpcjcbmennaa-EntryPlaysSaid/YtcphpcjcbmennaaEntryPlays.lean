/- EntryPlays returns true for all calls, of any number. -/
import Derived.ProofKit
import Derived.OpenShut
import Derived.SizedLaws
import Derived.Lib.SmallJoins
import Derived.Test.YtcphpcjcbmennaaRows
import Derived.Test.YtcphpcjcbmennaaEntQ
namespace Go.Proofs.Ytcphpcjcbmennaa
open Go Go.K Go.ChangeShapes Go.WideShapes Go.ChangeAt Go.RowKit Go.Joins
set_option linter.unusedVariables false
set_option linter.unusedSimpArgs false
attribute [local irreducible] Calls Ev GL GC GQ GR Code.wp
theorem own : ownKnob Try.prog.godebug = none := by kernel_rfl
theorem laidOut : laidOutB Try.prog = true := by kernel_rfl
def encOPX : Enc OX := ⟨encP, 20, by decide, fun _ => rfl, fun _ => rfl⟩
def OpAt (w : World) (l : List OX) : Prop := ∀ q ∈ l, Sl w 1 q.ea q.e.sv.length (strs q.e.sv)
class InOp (w0 : World) (L0 L : List Res) (l : List OX) : Prop where
  out : ∀ w, Tr w0 L0 w L → OpAt w l
theorem old_sv {w : World} {a : Option Addr} {l : List Bytes} (h : Sl w 1 a l.length (strs l)) : Old w [] a K.encS l := Old.of0 rfl rfl (strs_fl l).symm h
theorem del_len {g g2 : IG} {k : Int} (hv : g2.ents = xdel k g.ents) : g2.es.length ≤ g.es.length := by
  have := xdel_length k g.ents
  rw [← hv, IG.ents_length, IG.ents_length] at this
  exact this
theorem rl_len {r : RI} {g : IG} (h : r.xs = srt g.ents) : r.l.length = g.es.length := by
  have h2 := congrArg List.length h
  rw [List.length_map] at h2
  rw [h2, ← IG.ents_length]
  exact (sortX_perm EX.tick EX.id g.ents).length_eq
theorem in_eq {r : RI} {g : IG} {m : Int} (hn : (g.ents.map EX.id).Nodup) (h : r.xs = srt g.ents) : inS r.xs m r.l.length = g.in_ m := by
  unfold inS
  rw [List.take_of_length_le (by rw [List.length_map]; exact Nat.le_refl _), h]
  exact sortX_of_perm (fun _ => rfl) ((sortX_perm _ _ _).filter _) ((srt_ids hn).sublist (List.filter_sublist.map _))
theorem all_sv {g : IG} (hk : g.Ok) {l : List OE} (hl : l.map OE.x = g.all) : ∀ o ∈ l, o.x.sv.length ≤ 9000 := fun o ho => by
  have h1 : o.x ∈ g.all := by rw [← hl]; exact List.mem_map.2 ⟨o, ho, rfl⟩
  have h2 := (sortX_perm _ _ _).mem_iff.1 h1
  obtain ⟨e, he, h3⟩ := List.mem_map.1 h2
  rw [← h3]
  exact hk.sv e he
theorem srt_nil : srt [] = [] := List.length_eq_zero_iff.1 ((sortX_perm EX.tick EX.id []).length_eq)

/- turntable/turntablelaw14.great -/
theorem xgreat_con {l : List OX} {a : Option Addr} {c : Nat} {w : World} (hl : l.length ≤ 9223372036854775807) (hm : ∀ q ∈ l, q.e.sv.length ≤ 9223372036854775807) (hop : OpAt w l) [Old w [] a (encOPX) (l)] :
    Calls Try.prog 11 #[.slice a l.length c] w fun e w' => ∃ b' : Bool, e = .returned (.bool b') ∧ (b' = false → l.length ≤ 200 ∧ ∀ q ∈ l, q.e.sv.length ≤ 9000) ∧ Tr w [] w' [] := by
  have hA : Old w [] a encOPX l := inferInstance
  exact (great_con (n := l.length) hA.sl hop hl hm).mono fun e w' ⟨gr, h1, h2, h3⟩ => ⟨gr, h1, h2, h3⟩
section
variable {ops : Array Oper} {Q : Exit → Act → World → Prop} {N : Nat} {U : Env} {w0 : World} {L0 L F : List Res} {ty : TypeId} {rest : List Oper} {pos : String} {after : Array Edge} {xs : List Operand} {tys : Array TypeId} {dT : Tmp}
theorem gl_xgreat_con {l : List OX} {a : Option Addr} {c : Nat} (hf : ∀ args w, (callFunc 11 args).run Try.prog w = .ok (.enter 11 args) w) (hx : opvs U xs = some [.slice a l.length c]) (hl : l.length ≤ 9223372036854775807) (hm : ∀ q ∈ l, q.e.sv.length ≤ 9223372036854775807) [o0 : RdC w0 L0 [] L a (encOPX) (l)] [i0 : InOp w0 L0 L l] (hd : Nat.ble (dT + 1) N = true)
    (hr : ∀ (b' : Bool), (b' = false → l.length ≤ 200 ∧ ∀ q ∈ l, q.e.sv.length ≤ 9000) → GL Try.prog ops Q rest N ((dT, .bool b') :: U) w0 L0 (L)) : GL Try.prog ops Q (⟨some dT, .call ⟨.value (.func 11), xs.toArray, tys⟩, ty, pos, after, Option.none⟩ :: rest) N U w0 L0 L :=
  GL.callM (α := (Bool)) (l := []) (Pv := fun y v => v = .bool y ∧ (y = false → l.length ≤ 200 ∧ ∀ q ∈ l, q.e.sv.length ≤ 9000)) (l' := fun y => []) hf hx (Sub.refl _)
    (fun w hT => by
      have _o0 := o0.out w hT; exact (xgreat_con hl hm (i0.out w hT)).mono fun e w' ⟨b', h1, g0, h2⟩ => ⟨(b'), _, h1, ⟨rfl, g0⟩, h2⟩) hd fun y v hv => by obtain ⟨rfl, g0⟩ := hv; exact hr y g0
end
theorem fo35_0 : K.fieldOff Try.prog 35 0 = some (3, 0, 1) := by kernel_rfl
theorem fo35_2 : K.fieldOff Try.prog 35 2 = some (2, 14, 1) := by kernel_rfl
theorem fo35_3 : K.fieldOff Try.prog 35 3 = some (4, 15, 1) := by kernel_rfl
theorem fo35_4 : K.fieldOff Try.prog 35 4 = some (3, 16, 1) := by kernel_rfl
theorem fo35_5 : K.fieldOff Try.prog 35 5 = some (2, 17, 1) := by kernel_rfl
theorem fo35_6 : K.fieldOff Try.prog 35 6 = some (3, 18, 1) := by kernel_rfl
theorem fo35_7 : K.fieldOff Try.prog 35 7 = some (3, 19, 1) := by kernel_rfl
/- turntable/turntablelaw14.EntryPlays -/
set_option maxHeartbeats 16000000 in
set_option maxRecDepth 100000 in
theorem plays_con {l : List OX} {m : Int} {a : Option Addr} {c : Nat} {w : World} (hl : l.length ≤ 9223372036854775807) (hG : ∀ q ∈ l, OGood w q) [Old w [] a (encOPX) (l)] :
    Calls Try.prog 5 #[.slice a l.length c, .int .i64 m] w fun e w' => e = .returned (.bool true) ∧ Tr w [] w' [] := by
  have hop : ∀ L, InOp w [] L l := fun L => ⟨fun w1 hT q hq => (hG q hq).e.sl.stay hT (fun r hr => by cases hr)⟩
  refine K.enter0 (args := [_, _]) Try.func5 rfl Try.ntmps5 rfl ?_
  refine K.GC.seq ?_
  refine K.GC.region ?_
  refine K.GL.det (K.e_assign rfl) rfl ?_
  refine K.GL.nil ?_
  refine K.GQ.go ?_
  refine K.GC.seq ?_
  refine K.GC.region ?_
  refine K.GL.det (K.e_call1 Try.call9 rfl (fun w hT => head_con)) rfl ?_
  refine K.GL.det (K.e_assign rfl) rfl ?_
  refine K.GL.nil ?_
  refine K.GQ.go ?_
  refine K.GC.seq ?_
  refine K.GC.region ?_
  refine gl_xnew_con Try.call10 rfl  rfl (fun d17 g17 hk17 he17 => ?_)
  refine K.GL.det (K.e_assign rfl) rfl ?_
  refine K.GL.nil ?_
  refine K.GQ.go ?_
  refine K.GC.seq ?_
  refine K.GC.region ?_
  refine gl_rnew_con Try.call19 rfl  rfl (fun r18 => ?_)
  refine K.GL.det (K.e_assign rfl) rfl ?_
  refine K.GL.nil ?_
  refine K.GQ.go ?_
  refine K.GC.seq ?_
  refine K.GC.seq ?_
  refine K.GC.region ?_
  refine K.GL.det (K.e_move rfl) rfl ?_
  refine K.GL.det ((K.e_eqlp Try.underlying24 rfl rfl).cast_bool (b := false) rfl) rfl ?_
  refine K.GL.det (K.e_move rfl) rfl ?_
  first | refine K.GL.splitB 21 rfl (fun h1 => ?_) (fun h1 => ?_) | skip
  all_goals first | exact absurd h1 (by decide) | replace h1 := of_decide_eq_true h1 | replace h1 := of_decide_eq_false h1 | skip
  all_goals
    first
      | refine K.GL.skip 21 rfl rfl rfl rfl ?_
      | refine K.GL.skipU 21 rfl rfl rfl rfl ?_
      | refine K.GL.skip0 21 rfl rfl rfl ?_
      | (refine K.GL.want 21 rfl rfl rfl ?_
         refine K.GL.det (K.e_move rfl) rfl ?_)
    first
      | refine K.GL.skip 21 rfl rfl rfl rfl ?_
      | refine K.GL.skipU 21 rfl rfl rfl rfl ?_
      | refine K.GL.skip0 21 rfl rfl rfl ?_
      | (refine K.GL.want 21 rfl rfl rfl ?_
         refine gl_xgreat_con Try.call11 rfl (by first | assumption | omega | rfl | decide) (fun q hq => (hG q hq).e.lt) rfl (fun b23 hb23 => ?_))
    first | refine K.GL.det (K.e_pick_t rfl rfl) rfl ?_ | refine K.GL.det (K.e_pick_f rfl rfl) rfl ?_
    refine K.GL.nil ?_
    refine K.GQ.go ?_
    refine K.GC.condB rfl (fun h2 => ?_) (fun h2 => ?_)
    · first
      | exact absurd h2 (by decide)
      | try replace h2 := of_decide_eq_true h2
        refine K.GC.seq ?_
        refine K.GC.region ?_
        refine K.GL.det (K.e_move rfl) rfl ?_
        refine K.GL.det ((K.e_neqp Try.underlying24 rfl rfl).cast_bool (b := true) rfl) rfl ?_
        refine K.GL.det (K.e_move rfl) rfl ?_
        first | refine K.GL.splitB 27 rfl (fun h3 => ?_) (fun h3 => ?_) | skip
        all_goals first | exact absurd h3 (by decide) | replace h3 := of_decide_eq_true h3 | replace h3 := of_decide_eq_false h3 | skip
        all_goals
          first | (refine K.GL.want 27 rfl rfl rfl ?_; first | refine K.GL.det (K.e_move rfl) rfl ?_) | refine K.GL.skip 27 rfl rfl rfl rfl ?_ | refine K.GL.skipU 27 rfl rfl rfl rfl ?_
          first | refine K.GL.det (K.e_pick_t rfl rfl) rfl ?_ | refine K.GL.det (K.e_pick_f rfl rfl) rfl ?_
          refine K.GL.det (K.e_assign rfl) rfl ?_
          refine K.GL.nil ?_
          refine K.GQ.go ?_
          refine K.GC.ret ?_
          refine K.GQ.then_ret ?_
          refine K.GQ.ret1 Try.results5 rfl (fun w hT => ?_)
          exact ⟨rfl, hT.nil⟩
    · first
      | exact absurd h2 (by decide)
      | try replace h2 := of_decide_eq_false h2
        refine K.GC.skip ?_
        refine K.GQ.go ?_
        refine K.GC.seq ?_
        refine K.GC.seq ?_
        have hbb := hb23 (by first | assumption | simp_all)
        refine K.GC.region ?_
        refine K.GL.det (K.e_assign rfl) rfl ?_
        refine K.GL.nil ?_
        refine K.GQ.go ?_
        refine K.GC.block ?_
        refine K.GC.loopk (α := Nat × IG × RI) [0, 1, 5, 6, 7, 155, 156, 157, 158, 159, 160, 161, 162, 163, 164, 165, 166, 167, 168, 169] rfl (fun z => [(8, .int .i64 (z.1 : Int))]) (fun z => [IdxR d17 z.2.1, RefI r18 z.2.2]) (fun z => z.1 ≤ l.length ∧ z.2.1.Ok ∧ SvOk z.2.2.l ∧ z.2.2.xs = srt z.2.1.ents ∧ z.2.1.es.length ≤ z.1) (fun z => (l.length - z.1)) (0, g17, ⟨[], none, 0⟩) ⟨Nat.zero_le _, hk17, (fun o h => by cases h), (by rw [he17]; exact srt_nil.symm), (by have h := congrArg List.length he17; rw [IG.ents_length] at h; simp at h; show g17.es.length ≤ 0; rw [h]; exact Nat.le_refl _)⟩ (by first | ((repeat refine ⟨rfl, ?_⟩); exact trivial) | (simp only [List.take_zero, List.map_nil, List.flatMap_nil, List.append_nil]; (repeat refine ⟨rfl, ?_⟩); exact trivial)) (by first | exact K.sb | (dsimp only; exact K.sb) | (simp only [List.take_zero, List.map_nil, List.flatMap_nil, List.append_nil]; exact K.sb) | exact K.Sub.refl _) (fun z hI => ?_)
        have hI1 := hI.1
        have hxe := hI.2.2.2.1
        have hids := hI.2.1.ids
        have hel0 := hI.2.2.2.2
        have hrl := rl_len hxe
        have hrz : z.2.2.l.length ≤ 9000 := by omega
        refine K.GC.seq ?_
        refine K.GC.seq ?_
        refine K.GC.region ?_
        refine K.GL.det (K.e_move rfl) rfl ?_
        refine K.GL.det (K.e_move rfl) rfl ?_
        refine K.GL.det (K.e_len Try.underlying22 rfl) rfl ?_
        first | refine K.GL.det ((K.e_lt rfl rfl).yes (by first | omega | assumption | decide +kernel)) rfl ?_ | refine K.GL.det ((K.e_lt rfl rfl).no (by first | omega | assumption | decide +kernel)) rfl ?_ | refine K.GL.det (K.e_lt rfl rfl) rfl ?_
        refine K.GL.nil ?_
        refine K.GQ.go ?_
        refine K.GC.condB rfl (fun h4 => ?_) (fun h4 => ?_)
        · first
          | exact absurd h4 (by decide)
          | try replace h4 := of_decide_eq_true h4
            refine K.GC.skip ?_
            refine K.GQ.go ?_
            refine K.GC.seq ?_
            refine K.GC.block ?_
            refine K.GC.seq ?_
            obtain ⟨q, hq⟩ : ∃ q, l[z.1]? = some q := get_ex (by omega)
            have hgq := hG q (List.mem_of_getElem? hq)
            have hq9 := hbb.2 q (List.mem_of_getElem? hq)
            have hos : Old w [] q.ea K.encS q.e.sv := old_sv hgq.e.sl
            refine K.GC.region ?_
            refine K.GL.det (K.e_move rfl) rfl ?_
            refine K.GL.det (K.e_move rfl) rfl ?_
            first | refine K.GL.ixK sl22 rfl rfl rfl rfl (by assumption) rfl ?_ | refine K.GL.ix sl22 rfl rfl rfl rfl (by omega) rfl (fun q38 hq38 => ?_) | refine K.GL.ixI sl22 rfl rfl rfl rfl (by omega) (by omega) rfl (fun q38 hq38 => ?_) | refine K.GL.det (K.e_indexAddrS sl22 rfl rfl (by assumption) (by omega) (by omega)) rfl ?_ | refine K.GL.det (K.e_indexAddr sl22 rfl rfl (by omega) (by omega)) rfl ?_
            refine K.GL.det (K.e_ldA (l := l) (e := encOPX) Try.isAgg35 Try.sizeOf35 rfl rfl hq) rfl ?_
            refine K.GL.alloc Try.zeroValue35 rfl rfl (fun b9 => ?_)
            refine K.GL.storeP (vs := encP q) (cs' := encP q) rfl rfl rfl Try.sizeOf35 rfl rfl (by exact spliceO_all rfl) ?_
            refine K.GL.nil ?_
            refine K.GQ.go ?_
            refine K.GC.seq ?_
            refine K.GC.region ?_
            refine K.GL.det (K.e_assign rfl) rfl ?_
            refine K.GL.nil ?_
            refine K.GQ.go ?_
            refine K.GC.seq ?_
            refine K.GC.region ?_
            refine K.GL.det (K.e_assign rfl) rfl ?_
            refine K.GL.nil ?_
            refine K.GQ.go ?_
            refine K.GC.seq ?_
            refine K.GC.seq ?_
            refine K.GC.region ?_
            first | refine K.GL.det (K.e_fa fo35_0 rfl) rfl ?_ | refine K.GL.det (K.e_fieldAddr fo35_0 rfl) rfl ?_
            refine K.GL.det (K.e_load Try.isAgg3 rfl rfl) rfl ?_
            refine K.GL.nil ?_
            refine K.GQ.go ?_
            refine K.GC.block ?_
            refine K.GC.seq ?_
            refine K.GC.region ?_
            first | refine K.GL.det ((K.e_eq rfl rfl).yes (by first | omega | assumption | decide +kernel)) rfl ?_ | refine K.GL.det ((K.e_eq rfl rfl).no (by first | omega | assumption | decide +kernel)) rfl ?_ | refine K.GL.det (K.e_eq rfl rfl) rfl ?_
            refine K.GL.det (K.e_assign rfl) rfl ?_
            refine K.GL.nil ?_
            refine K.GQ.go ?_
            refine K.GC.condB rfl (fun h5 => ?_) (fun h5 => ?_)
            · first
              | exact absurd h5 (by decide)
              | try replace h5 := of_decide_eq_true h5
                refine K.GC.seq ?_
                refine K.GC.region ?_
                refine K.GL.det (K.e_move rfl) rfl ?_
                first | refine K.GL.det (K.e_fa fo35_2 rfl) rfl ?_ | refine K.GL.det (K.e_fieldAddr fo35_2 rfl) rfl ?_
                refine K.GL.det (K.e_load Try.isAgg2 rfl rfl) rfl ?_
                refine gl_xdel_con (gx := z.2.1) (k := q.id) Try.call13 rfl hI.2.1 rfl (fun gd hkd hed => ?_)
                refine K.GL.det (K.e_assign rfl) rfl ?_
                refine K.GL.nil ?_
                refine K.GQ.go ?_
                refine K.GC.region ?_
                refine K.GL.det (K.e_move rfl) rfl ?_
                first | refine K.GL.det (K.e_fa fo35_2 rfl) rfl ?_ | refine K.GL.det (K.e_fieldAddr fo35_2 rfl) rfl ?_
                refine K.GL.det (K.e_load Try.isAgg2 rfl rfl) rfl ?_
                refine gl_rdel_con (gr := z.2.2) (k := q.id) Try.call20 rfl hI.2.2.1 hrz rfl (fun gr h9r hxr => ?_)
                rw [hxe, srt_get hids]
                refine K.GL.det (K.e_assign rfl) rfl ?_
                refine K.GL.nil ?_
                refine K.GQ.block_normal ?_
                refine K.GQ.go ?_
                refine K.GC.seq ?_
                have hids2 := hkd.ids
                have hxs : gr.xs = srt gd.ents := by
                  first
                  | (rw [hed]; exact hxr _ hids hxe)
                  | (rw [hxr, hxe, hed]; exact (srt_del hids).symm)
                  | (rw [hxr, hxe, hed]; symm; refine srt_mod hids ?_ ?_ <;> intro _ <;> rfl)
                have hel : gd.es.length ≤ z.1 + 1 := by
                  first
                  | exact put_len hI.2.2.2.2 hed
                  | (have h := mod_len hed; omega)
                  | (have h := del_len hed; omega)
                have hrl2 := rl_len hxs
                have hrz2 : gr.l.length ≤ 9000 := by omega
                have hnr : (gr.xs.map EX.id).Nodup := by rw [hxs]; exact srt_ids hids2
                refine K.GC.region ?_
                refine K.GL.det (K.e_move rfl) rfl ?_
                first | refine K.GL.det (K.e_fa fo35_2 rfl) rfl ?_ | refine K.GL.det (K.e_fieldAddr fo35_2 rfl) rfl ?_
                refine K.GL.det (K.e_load Try.isAgg2 rfl rfl) rfl ?_
                refine gl_xgt_con (gx := gd) (k := q.id) Try.call12 rfl hkd rfl (fun a114 c114 => ?_)
                refine K.GL.det (K.e_move rfl) rfl ?_
                refine K.GL.det (K.e_extract rfl rfl) rfl ?_
                refine K.GL.det (K.e_extract rfl rfl) rfl ?_
                refine K.GL.alloc Try.zeroValue33 rfl rfl (fun b12 => ?_)
                refine K.GL.storeP (vs := encE ((xget q.id gd.ents).getD EX.zero) a114 c114) (cs' := encE ((xget q.id gd.ents).getD EX.zero) a114 c114) rfl rfl rfl Try.sizeOf33 rfl rfl (by exact spliceO_all rfl) ?_
                refine K.GL.det (K.e_assign rfl) rfl ?_
                refine K.GL.nil ?_
                refine K.GQ.go ?_
                refine K.GC.seq ?_
                refine K.GC.region ?_
                refine K.GL.det (K.e_move rfl) rfl ?_
                first | refine K.GL.det (K.e_fa fo35_2 rfl) rfl ?_ | refine K.GL.det (K.e_fieldAddr fo35_2 rfl) rfl ?_
                refine K.GL.det (K.e_load Try.isAgg2 rfl rfl) rfl ?_
                refine gl_rgt_con (gr := gr) (k := q.id) Try.call25 rfl h9r hrz2 rfl (fun a121 c121 => ?_)
                rw [hxs, srt_get hids2]
                refine K.GL.det (K.e_move rfl) rfl ?_
                refine K.GL.det (K.e_extract rfl rfl) rfl ?_
                refine K.GL.det (K.e_extract rfl rfl) rfl ?_
                refine K.GL.alloc Try.zeroValue33 rfl rfl (fun b14 => ?_)
                refine K.GL.storeP (vs := encE ((xget q.id gd.ents).getD EX.zero) a121 c121) (cs' := encE ((xget q.id gd.ents).getD EX.zero) a121 c121) rfl rfl rfl Try.sizeOf33 rfl rfl (by exact spliceO_all rfl) ?_
                refine K.GL.det (K.e_assign rfl) rfl ?_
                refine K.GL.nil ?_
                refine K.GQ.go ?_
                refine K.GC.seq ?_
                refine K.GC.region ?_
                refine K.GL.det (K.e_move rfl) rfl ?_
                refine K.GL.det (K.e_move rfl) rfl ?_
                refine K.GL.det ((K.e_neb Try.underlying4 rfl rfl).cast_bool (b := false) (by simp)) rfl ?_
                refine K.GL.det (K.e_move rfl) rfl ?_
                first | refine K.GL.splitB 127 rfl (fun h6 => ?_) (fun h6 => ?_) | skip
                all_goals first | exact absurd h6 (by decide) | replace h6 := of_decide_eq_true h6 | replace h6 := of_decide_eq_false h6 | skip
                all_goals
                  first
                    | refine K.GL.skip 127 rfl rfl rfl rfl ?_
                    | refine K.GL.skipU 127 rfl rfl rfl rfl ?_
                    | refine K.GL.skip0 127 rfl rfl rfl ?_
                    | (refine K.GL.want 127 rfl rfl rfl ?_
                       refine K.GL.det (K.e_move rfl) rfl ?_)
                  first
                    | refine K.GL.skip 127 rfl rfl rfl rfl ?_
                    | refine K.GL.skipU 127 rfl rfl rfl rfl ?_
                    | refine K.GL.skip0 127 rfl rfl rfl ?_
                    | (refine K.GL.want 127 rfl rfl rfl ?_
                       refine K.GL.det (K.e_move rfl) rfl ?_)
                  first
                    | refine K.GL.skip 127 rfl rfl rfl rfl ?_
                    | refine K.GL.skipU 127 rfl rfl rfl rfl ?_
                    | refine K.GL.skip0 127 rfl rfl rfl ?_
                    | (refine K.GL.want 127 rfl rfl rfl ?_
                       refine K.GL.det ((K.e_neb Try.underlying4 rfl rfl).cast_bool (b := false) (by simp)) rfl ?_)
                  first | refine K.GL.det (K.e_pick_t rfl rfl) rfl ?_ | refine K.GL.det (K.e_pick_f rfl rfl) rfl ?_
                  refine K.GL.det (K.e_move rfl) rfl ?_
                  first | refine K.GL.splitB 132 rfl (fun h7 => ?_) (fun h7 => ?_) | skip
                  all_goals first | exact absurd h7 (by decide) | replace h7 := of_decide_eq_true h7 | replace h7 := of_decide_eq_false h7 | skip
                  all_goals
                    first
                      | refine K.GL.skip 132 rfl rfl rfl rfl ?_
                      | refine K.GL.skipU 132 rfl rfl rfl rfl ?_
                      | refine K.GL.skip0 132 rfl rfl rfl ?_
                      | (refine K.GL.want 132 rfl rfl rfl ?_
                         first | refine K.GL.det (K.e_ldA Try.isAgg33 Try.sizeOf33 rfl rfl (by assumption)) rfl ?_ | refine K.GL.det (K.e_ldAF Try.isAgg33 Try.sizeOf33 rfl rfl (by assumption) rfl) rfl ?_ | refine K.GL.det (K.e_loads Try.isAgg33 Try.sizeOf33 rfl rfl) rfl ?_)
                    first
                      | refine K.GL.skip 132 rfl rfl rfl rfl ?_
                      | refine K.GL.skipU 132 rfl rfl rfl rfl ?_
                      | refine K.GL.skip0 132 rfl rfl rfl ?_
                      | (refine K.GL.want 132 rfl rfl rfl ?_
                         first | refine K.GL.det (K.e_ldA Try.isAgg33 Try.sizeOf33 rfl rfl (by assumption)) rfl ?_ | refine K.GL.det (K.e_ldAF Try.isAgg33 Try.sizeOf33 rfl rfl (by assumption) rfl) rfl ?_ | refine K.GL.det (K.e_loads Try.isAgg33 Try.sizeOf33 rfl rfl) rfl ?_)
                    first
                      | refine K.GL.skip 132 rfl rfl rfl rfl ?_
                      | refine K.GL.skipU 132 rfl rfl rfl rfl ?_
                      | refine K.GL.skip0 132 rfl rfl rfl ?_
                      | (refine K.GL.want 132 rfl rfl rfl ?_
                         refine K.GL.det ((ev_xsame_con (x := ((xget q.id gd.ents).getD EX.zero)) (y := ((xget q.id gd.ents).getD EX.zero)) Try.call18 rfl (get_lt hkd rfl)).cast_bool (b := true) (decide_eq_true rfl)) rfl ?_)
                    first
                      | refine K.GL.skip 132 rfl rfl rfl rfl ?_
                      | refine K.GL.skipU 132 rfl rfl rfl rfl ?_
                      | refine K.GL.skip0 132 rfl rfl rfl ?_
                      | (refine K.GL.want 132 rfl rfl rfl ?_
                         first | refine K.GL.det (K.e_notp rfl) rfl ?_ | refine K.GL.det (K.e_not rfl) rfl ?_)
                    first | refine K.GL.det (K.e_pick_t rfl rfl) rfl ?_ | refine K.GL.det (K.e_pick_f rfl rfl) rfl ?_
                    refine K.GL.det (K.e_move rfl) rfl ?_
                    first | refine K.GL.splitB 138 rfl (fun h8 => ?_) (fun h8 => ?_) | skip
                    all_goals first | exact absurd h8 (by decide) | replace h8 := of_decide_eq_true h8 | replace h8 := of_decide_eq_false h8 | skip
                    all_goals
                      first
                        | refine K.GL.skip 138 rfl rfl rfl rfl ?_
                        | refine K.GL.skipU 138 rfl rfl rfl rfl ?_
                        | refine K.GL.skip0 138 rfl rfl rfl ?_
                        | (refine K.GL.want 138 rfl rfl rfl ?_
                           refine K.GL.det (K.e_move rfl) rfl ?_)
                      first
                        | refine K.GL.skip 138 rfl rfl rfl rfl ?_
                        | refine K.GL.skipU 138 rfl rfl rfl rfl ?_
                        | refine K.GL.skip0 138 rfl rfl rfl ?_
                        | (refine K.GL.want 138 rfl rfl rfl ?_
                           refine K.GL.det (ev_xmany_con (gx := gd) Try.call26 rfl ) rfl ?_)
                      first
                        | refine K.GL.skip 138 rfl rfl rfl rfl ?_
                        | refine K.GL.skipU 138 rfl rfl rfl rfl ?_
                        | refine K.GL.skip0 138 rfl rfl rfl ?_
                        | (refine K.GL.want 138 rfl rfl rfl ?_
                           refine K.GL.det (K.e_move rfl) rfl ?_)
                      first
                        | refine K.GL.skip 138 rfl rfl rfl rfl ?_
                        | refine K.GL.skipU 138 rfl rfl rfl rfl ?_
                        | refine K.GL.skip0 138 rfl rfl rfl ?_
                        | (refine K.GL.want 138 rfl rfl rfl ?_
                           refine gl_rmany_con (gr := gr) Try.call27 rfl  rfl (?_))
                      first
                        | refine K.GL.skip 138 rfl rfl rfl rfl ?_
                        | refine K.GL.skipU 138 rfl rfl rfl rfl ?_
                        | refine K.GL.skip0 138 rfl rfl rfl ?_
                        | (refine K.GL.want 138 rfl rfl rfl ?_
                           refine K.GL.det ((K.e_ne rfl rfl).no (by rw [IG.ents_length]; omega)) rfl ?_)
                      first | refine K.GL.det (K.e_pick_t rfl rfl) rfl ?_ | refine K.GL.det (K.e_pick_f rfl rfl) rfl ?_
                      refine K.GL.det (K.e_move rfl) rfl ?_
                      first | refine K.GL.splitB 145 rfl (fun h9 => ?_) (fun h9 => ?_) | skip
                      all_goals first | exact absurd h9 (by decide) | replace h9 := of_decide_eq_true h9 | replace h9 := of_decide_eq_false h9 | skip
                      all_goals
                        first
                          | refine K.GL.skip 145 rfl rfl rfl rfl ?_
                          | refine K.GL.skipU 145 rfl rfl rfl rfl ?_
                          | refine K.GL.skip0 145 rfl rfl rfl ?_
                          | (refine K.GL.want 145 rfl rfl rfl ?_
                             refine K.GL.det (K.e_move rfl) rfl ?_)
                        first
                          | refine K.GL.skip 145 rfl rfl rfl rfl ?_
                          | refine K.GL.skipU 145 rfl rfl rfl rfl ?_
                          | refine K.GL.skip0 145 rfl rfl rfl ?_
                          | (refine K.GL.want 145 rfl rfl rfl ?_
                             refine K.GL.det (K.e_move rfl) rfl ?_)
                        first
                          | refine K.GL.skip 145 rfl rfl rfl rfl ?_
                          | refine K.GL.skipU 145 rfl rfl rfl rfl ?_
                          | refine K.GL.skip0 145 rfl rfl rfl ?_
                          | (refine K.GL.want 145 rfl rfl rfl ?_
                             refine gl_xin_con (gx := gd) (k := m) Try.call29 rfl hkd (by omega) rfl (fun a148 c148 => ?_))
                        first
                          | refine K.GL.skip 145 rfl rfl rfl rfl ?_
                          | refine K.GL.skipU 145 rfl rfl rfl rfl ?_
                          | refine K.GL.skip0 145 rfl rfl rfl ?_
                          | (refine K.GL.want 145 rfl rfl rfl ?_
                             refine K.GL.det (K.e_move rfl) rfl ?_)
                        first
                          | refine K.GL.skip 145 rfl rfl rfl rfl ?_
                          | refine K.GL.skipU 145 rfl rfl rfl rfl ?_
                          | refine K.GL.skip0 145 rfl rfl rfl ?_
                          | (refine K.GL.want 145 rfl rfl rfl ?_
                             refine K.GL.det (K.e_move rfl) rfl ?_)
                        first
                          | refine K.GL.skip 145 rfl rfl rfl rfl ?_
                          | refine K.GL.skipU 145 rfl rfl rfl rfl ?_
                          | refine K.GL.skip0 145 rfl rfl rfl ?_
                          | (refine K.GL.want 145 rfl rfl rfl ?_
                             refine gl_rin_con (gr := gr) (k := m) Try.call30 rfl hrz2 hnr rfl (fun a151 c151 => ?_)
                             rw [in_eq hids2 hxs])
                        first
                          | refine K.GL.skip 145 rfl rfl rfl rfl ?_
                          | refine K.GL.skipU 145 rfl rfl rfl rfl ?_
                          | refine K.GL.skip0 145 rfl rfl rfl ?_
                          | (refine K.GL.want 145 rfl rfl rfl ?_
                             refine K.GL.det ((ev_xids_con (l := (gd.in_ m).map EX.id) (k := (gd.in_ m).map EX.id) Try.call28 rfl (by have := gd.in_length m; rw [List.length_map]; omega)).cast_bool (b := true) (decide_eq_true rfl)) rfl ?_)
                        first
                          | refine K.GL.skip 145 rfl rfl rfl rfl ?_
                          | refine K.GL.skipU 145 rfl rfl rfl rfl ?_
                          | refine K.GL.skip0 145 rfl rfl rfl ?_
                          | (refine K.GL.want 145 rfl rfl rfl ?_
                             first | refine K.GL.det (K.e_notp rfl) rfl ?_ | refine K.GL.det (K.e_not rfl) rfl ?_)
                        first | refine K.GL.det (K.e_pick_t rfl rfl) rfl ?_ | refine K.GL.det (K.e_pick_f rfl rfl) rfl ?_
                        refine K.GL.nil ?_
                        refine K.GQ.go ?_
                        refine K.GC.condB rfl (fun h10 => ?_) (fun h10 => ?_)
                        · first
                          | exact absurd h10 (by decide)
                          | try replace h10 := of_decide_eq_true h10
                            refine K.GC.seq ?_
                            refine K.GC.region ?_
                            refine K.GL.det (K.e_assign rfl) rfl ?_
                            refine K.GL.nil ?_
                            refine K.GQ.go ?_
                            refine K.GC.ret ?_
                            refine K.GQ.block_ret ?_
                            refine K.GQ.then_ret ?_
                            refine K.GQ.then_ret ?_
                            refine K.GQ.block_ret ?_
                            refine K.GQ.then_ret ?_
                            refine K.GQ.ret1 Try.results5 rfl (fun w hT => ?_)
                            exact ⟨rfl, hT.nil⟩
                        · first
                          | exact absurd h10 (by decide)
                          | try replace h10 := of_decide_eq_false h10
                            refine K.GC.skip ?_
                            refine K.GQ.block_normal ?_
                            refine K.GQ.go ?_
                            refine K.GC.region ?_
                            refine K.GL.det (K.e_move rfl) rfl ?_
                            first | refine K.GL.det (K.e_add rfl rfl ⟨by omega, by omega⟩) rfl ?_ | refine K.GL.det (K.e_addw rfl rfl) rfl ?_
                            refine K.GL.det (K.e_assign rfl) rfl ?_
                            refine K.GL.nil ?_
                            exact K.GQ.round ((z.1 + 1, gd, gr) : Nat × IG × RI) ⟨by show z.1 + 1 ≤ _; omega, hkd, h9r, hxs, hel⟩ (by simp only; omega) (by (repeat refine ⟨rfl, ?_⟩); exact trivial) (by first | exact K.sb | (dsimp only; exact K.sb))
            · first
              | exact absurd h5 (by decide)
              | try replace h5 := of_decide_eq_false h5
                refine K.GC.seq ?_
                refine K.GC.region ?_
                first | refine K.GL.det ((K.e_eq rfl rfl).yes (by first | omega | assumption | decide +kernel)) rfl ?_ | refine K.GL.det ((K.e_eq rfl rfl).no (by first | omega | assumption | decide +kernel)) rfl ?_ | refine K.GL.det (K.e_eq rfl rfl) rfl ?_
                refine K.GL.det (K.e_assign rfl) rfl ?_
                refine K.GL.nil ?_
                refine K.GQ.go ?_
                refine K.GC.condB rfl (fun h11 => ?_) (fun h11 => ?_)
                · first
                  | exact absurd h11 (by decide)
                  | try replace h11 := of_decide_eq_true h11
                    refine K.GC.seq ?_
                    refine K.GC.region ?_
                    refine K.GL.det (K.e_move rfl) rfl ?_
                    first | refine K.GL.det (K.e_fa fo35_2 rfl) rfl ?_ | refine K.GL.det (K.e_fieldAddr fo35_2 rfl) rfl ?_
                    refine K.GL.det (K.e_load Try.isAgg2 rfl rfl) rfl ?_
                    first | refine K.GL.det (K.e_fa fo35_3 rfl) rfl ?_ | refine K.GL.det (K.e_fieldAddr fo35_3 rfl) rfl ?_
                    refine K.GL.det (K.e_load Try.isAgg4 rfl rfl) rfl ?_
                    refine gl_xpin_con (gx := z.2.1) (k := q.id) Try.call14 rfl hI.2.1 rfl (fun gd hkd hed => ?_)
                    refine K.GL.det (K.e_assign rfl) rfl ?_
                    refine K.GL.nil ?_
                    refine K.GQ.go ?_
                    refine K.GC.region ?_
                    refine K.GL.det (K.e_move rfl) rfl ?_
                    first | refine K.GL.det (K.e_fa fo35_2 rfl) rfl ?_ | refine K.GL.det (K.e_fieldAddr fo35_2 rfl) rfl ?_
                    refine K.GL.det (K.e_load Try.isAgg2 rfl rfl) rfl ?_
                    first | refine K.GL.det (K.e_fa fo35_3 rfl) rfl ?_ | refine K.GL.det (K.e_fieldAddr fo35_3 rfl) rfl ?_
                    refine K.GL.det (K.e_load Try.isAgg4 rfl rfl) rfl ?_
                    refine gl_rpin_con (gr := z.2.2) (k := q.id) Try.call21 rfl hI.2.2.1 hrz rfl (fun gr h9r hxr => ?_)
                    rw [hxe, srt_get hids]
                    refine K.GL.det (K.e_assign rfl) rfl ?_
                    refine K.GL.nil ?_
                    refine K.GQ.block_normal ?_
                    refine K.GQ.go ?_
                    refine K.GC.seq ?_
                    have hids2 := hkd.ids
                    have hxs : gr.xs = srt gd.ents := by
                      first
                      | (rw [hed]; exact hxr _ hids hxe)
                      | (rw [hxr, hxe, hed]; exact (srt_del hids).symm)
                      | (rw [hxr, hxe, hed]; symm; refine srt_mod hids ?_ ?_ <;> intro _ <;> rfl)
                    have hel : gd.es.length ≤ z.1 + 1 := by
                      first
                      | exact put_len hI.2.2.2.2 hed
                      | (have h := mod_len hed; omega)
                      | (have h := del_len hed; omega)
                    have hrl2 := rl_len hxs
                    have hrz2 : gr.l.length ≤ 9000 := by omega
                    have hnr : (gr.xs.map EX.id).Nodup := by rw [hxs]; exact srt_ids hids2
                    refine K.GC.region ?_
                    refine K.GL.det (K.e_move rfl) rfl ?_
                    first | refine K.GL.det (K.e_fa fo35_2 rfl) rfl ?_ | refine K.GL.det (K.e_fieldAddr fo35_2 rfl) rfl ?_
                    refine K.GL.det (K.e_load Try.isAgg2 rfl rfl) rfl ?_
                    refine gl_xgt_con (gx := gd) (k := q.id) Try.call12 rfl hkd rfl (fun a114 c114 => ?_)
                    refine K.GL.det (K.e_move rfl) rfl ?_
                    refine K.GL.det (K.e_extract rfl rfl) rfl ?_
                    refine K.GL.det (K.e_extract rfl rfl) rfl ?_
                    refine K.GL.alloc Try.zeroValue33 rfl rfl (fun b12 => ?_)
                    refine K.GL.storeP (vs := encE ((xget q.id gd.ents).getD EX.zero) a114 c114) (cs' := encE ((xget q.id gd.ents).getD EX.zero) a114 c114) rfl rfl rfl Try.sizeOf33 rfl rfl (by exact spliceO_all rfl) ?_
                    refine K.GL.det (K.e_assign rfl) rfl ?_
                    refine K.GL.nil ?_
                    refine K.GQ.go ?_
                    refine K.GC.seq ?_
                    refine K.GC.region ?_
                    refine K.GL.det (K.e_move rfl) rfl ?_
                    first | refine K.GL.det (K.e_fa fo35_2 rfl) rfl ?_ | refine K.GL.det (K.e_fieldAddr fo35_2 rfl) rfl ?_
                    refine K.GL.det (K.e_load Try.isAgg2 rfl rfl) rfl ?_
                    refine gl_rgt_con (gr := gr) (k := q.id) Try.call25 rfl h9r hrz2 rfl (fun a121 c121 => ?_)
                    rw [hxs, srt_get hids2]
                    refine K.GL.det (K.e_move rfl) rfl ?_
                    refine K.GL.det (K.e_extract rfl rfl) rfl ?_
                    refine K.GL.det (K.e_extract rfl rfl) rfl ?_
                    refine K.GL.alloc Try.zeroValue33 rfl rfl (fun b14 => ?_)
                    refine K.GL.storeP (vs := encE ((xget q.id gd.ents).getD EX.zero) a121 c121) (cs' := encE ((xget q.id gd.ents).getD EX.zero) a121 c121) rfl rfl rfl Try.sizeOf33 rfl rfl (by exact spliceO_all rfl) ?_
                    refine K.GL.det (K.e_assign rfl) rfl ?_
                    refine K.GL.nil ?_
                    refine K.GQ.go ?_
                    refine K.GC.seq ?_
                    refine K.GC.region ?_
                    refine K.GL.det (K.e_move rfl) rfl ?_
                    refine K.GL.det (K.e_move rfl) rfl ?_
                    refine K.GL.det ((K.e_neb Try.underlying4 rfl rfl).cast_bool (b := false) (by simp)) rfl ?_
                    refine K.GL.det (K.e_move rfl) rfl ?_
                    first | refine K.GL.splitB 127 rfl (fun h12 => ?_) (fun h12 => ?_) | skip
                    all_goals first | exact absurd h12 (by decide) | replace h12 := of_decide_eq_true h12 | replace h12 := of_decide_eq_false h12 | skip
                    all_goals
                      first
                        | refine K.GL.skip 127 rfl rfl rfl rfl ?_
                        | refine K.GL.skipU 127 rfl rfl rfl rfl ?_
                        | refine K.GL.skip0 127 rfl rfl rfl ?_
                        | (refine K.GL.want 127 rfl rfl rfl ?_
                           refine K.GL.det (K.e_move rfl) rfl ?_)
                      first
                        | refine K.GL.skip 127 rfl rfl rfl rfl ?_
                        | refine K.GL.skipU 127 rfl rfl rfl rfl ?_
                        | refine K.GL.skip0 127 rfl rfl rfl ?_
                        | (refine K.GL.want 127 rfl rfl rfl ?_
                           refine K.GL.det (K.e_move rfl) rfl ?_)
                      first
                        | refine K.GL.skip 127 rfl rfl rfl rfl ?_
                        | refine K.GL.skipU 127 rfl rfl rfl rfl ?_
                        | refine K.GL.skip0 127 rfl rfl rfl ?_
                        | (refine K.GL.want 127 rfl rfl rfl ?_
                           refine K.GL.det ((K.e_neb Try.underlying4 rfl rfl).cast_bool (b := false) (by simp)) rfl ?_)
                      first | refine K.GL.det (K.e_pick_t rfl rfl) rfl ?_ | refine K.GL.det (K.e_pick_f rfl rfl) rfl ?_
                      refine K.GL.det (K.e_move rfl) rfl ?_
                      first | refine K.GL.splitB 132 rfl (fun h13 => ?_) (fun h13 => ?_) | skip
                      all_goals first | exact absurd h13 (by decide) | replace h13 := of_decide_eq_true h13 | replace h13 := of_decide_eq_false h13 | skip
                      all_goals
                        first
                          | refine K.GL.skip 132 rfl rfl rfl rfl ?_
                          | refine K.GL.skipU 132 rfl rfl rfl rfl ?_
                          | refine K.GL.skip0 132 rfl rfl rfl ?_
                          | (refine K.GL.want 132 rfl rfl rfl ?_
                             first | refine K.GL.det (K.e_ldA Try.isAgg33 Try.sizeOf33 rfl rfl (by assumption)) rfl ?_ | refine K.GL.det (K.e_ldAF Try.isAgg33 Try.sizeOf33 rfl rfl (by assumption) rfl) rfl ?_ | refine K.GL.det (K.e_loads Try.isAgg33 Try.sizeOf33 rfl rfl) rfl ?_)
                        first
                          | refine K.GL.skip 132 rfl rfl rfl rfl ?_
                          | refine K.GL.skipU 132 rfl rfl rfl rfl ?_
                          | refine K.GL.skip0 132 rfl rfl rfl ?_
                          | (refine K.GL.want 132 rfl rfl rfl ?_
                             first | refine K.GL.det (K.e_ldA Try.isAgg33 Try.sizeOf33 rfl rfl (by assumption)) rfl ?_ | refine K.GL.det (K.e_ldAF Try.isAgg33 Try.sizeOf33 rfl rfl (by assumption) rfl) rfl ?_ | refine K.GL.det (K.e_loads Try.isAgg33 Try.sizeOf33 rfl rfl) rfl ?_)
                        first
                          | refine K.GL.skip 132 rfl rfl rfl rfl ?_
                          | refine K.GL.skipU 132 rfl rfl rfl rfl ?_
                          | refine K.GL.skip0 132 rfl rfl rfl ?_
                          | (refine K.GL.want 132 rfl rfl rfl ?_
                             refine K.GL.det ((ev_xsame_con (x := ((xget q.id gd.ents).getD EX.zero)) (y := ((xget q.id gd.ents).getD EX.zero)) Try.call18 rfl (get_lt hkd rfl)).cast_bool (b := true) (decide_eq_true rfl)) rfl ?_)
                        first
                          | refine K.GL.skip 132 rfl rfl rfl rfl ?_
                          | refine K.GL.skipU 132 rfl rfl rfl rfl ?_
                          | refine K.GL.skip0 132 rfl rfl rfl ?_
                          | (refine K.GL.want 132 rfl rfl rfl ?_
                             first | refine K.GL.det (K.e_notp rfl) rfl ?_ | refine K.GL.det (K.e_not rfl) rfl ?_)
                        first | refine K.GL.det (K.e_pick_t rfl rfl) rfl ?_ | refine K.GL.det (K.e_pick_f rfl rfl) rfl ?_
                        refine K.GL.det (K.e_move rfl) rfl ?_
                        first | refine K.GL.splitB 138 rfl (fun h14 => ?_) (fun h14 => ?_) | skip
                        all_goals first | exact absurd h14 (by decide) | replace h14 := of_decide_eq_true h14 | replace h14 := of_decide_eq_false h14 | skip
                        all_goals
                          first
                            | refine K.GL.skip 138 rfl rfl rfl rfl ?_
                            | refine K.GL.skipU 138 rfl rfl rfl rfl ?_
                            | refine K.GL.skip0 138 rfl rfl rfl ?_
                            | (refine K.GL.want 138 rfl rfl rfl ?_
                               refine K.GL.det (K.e_move rfl) rfl ?_)
                          first
                            | refine K.GL.skip 138 rfl rfl rfl rfl ?_
                            | refine K.GL.skipU 138 rfl rfl rfl rfl ?_
                            | refine K.GL.skip0 138 rfl rfl rfl ?_
                            | (refine K.GL.want 138 rfl rfl rfl ?_
                               refine K.GL.det (ev_xmany_con (gx := gd) Try.call26 rfl ) rfl ?_)
                          first
                            | refine K.GL.skip 138 rfl rfl rfl rfl ?_
                            | refine K.GL.skipU 138 rfl rfl rfl rfl ?_
                            | refine K.GL.skip0 138 rfl rfl rfl ?_
                            | (refine K.GL.want 138 rfl rfl rfl ?_
                               refine K.GL.det (K.e_move rfl) rfl ?_)
                          first
                            | refine K.GL.skip 138 rfl rfl rfl rfl ?_
                            | refine K.GL.skipU 138 rfl rfl rfl rfl ?_
                            | refine K.GL.skip0 138 rfl rfl rfl ?_
                            | (refine K.GL.want 138 rfl rfl rfl ?_
                               refine gl_rmany_con (gr := gr) Try.call27 rfl  rfl (?_))
                          first
                            | refine K.GL.skip 138 rfl rfl rfl rfl ?_
                            | refine K.GL.skipU 138 rfl rfl rfl rfl ?_
                            | refine K.GL.skip0 138 rfl rfl rfl ?_
                            | (refine K.GL.want 138 rfl rfl rfl ?_
                               refine K.GL.det ((K.e_ne rfl rfl).no (by rw [IG.ents_length]; omega)) rfl ?_)
                          first | refine K.GL.det (K.e_pick_t rfl rfl) rfl ?_ | refine K.GL.det (K.e_pick_f rfl rfl) rfl ?_
                          refine K.GL.det (K.e_move rfl) rfl ?_
                          first | refine K.GL.splitB 145 rfl (fun h15 => ?_) (fun h15 => ?_) | skip
                          all_goals first | exact absurd h15 (by decide) | replace h15 := of_decide_eq_true h15 | replace h15 := of_decide_eq_false h15 | skip
                          all_goals
                            first
                              | refine K.GL.skip 145 rfl rfl rfl rfl ?_
                              | refine K.GL.skipU 145 rfl rfl rfl rfl ?_
                              | refine K.GL.skip0 145 rfl rfl rfl ?_
                              | (refine K.GL.want 145 rfl rfl rfl ?_
                                 refine K.GL.det (K.e_move rfl) rfl ?_)
                            first
                              | refine K.GL.skip 145 rfl rfl rfl rfl ?_
                              | refine K.GL.skipU 145 rfl rfl rfl rfl ?_
                              | refine K.GL.skip0 145 rfl rfl rfl ?_
                              | (refine K.GL.want 145 rfl rfl rfl ?_
                                 refine K.GL.det (K.e_move rfl) rfl ?_)
                            first
                              | refine K.GL.skip 145 rfl rfl rfl rfl ?_
                              | refine K.GL.skipU 145 rfl rfl rfl rfl ?_
                              | refine K.GL.skip0 145 rfl rfl rfl ?_
                              | (refine K.GL.want 145 rfl rfl rfl ?_
                                 refine gl_xin_con (gx := gd) (k := m) Try.call29 rfl hkd (by omega) rfl (fun a148 c148 => ?_))
                            first
                              | refine K.GL.skip 145 rfl rfl rfl rfl ?_
                              | refine K.GL.skipU 145 rfl rfl rfl rfl ?_
                              | refine K.GL.skip0 145 rfl rfl rfl ?_
                              | (refine K.GL.want 145 rfl rfl rfl ?_
                                 refine K.GL.det (K.e_move rfl) rfl ?_)
                            first
                              | refine K.GL.skip 145 rfl rfl rfl rfl ?_
                              | refine K.GL.skipU 145 rfl rfl rfl rfl ?_
                              | refine K.GL.skip0 145 rfl rfl rfl ?_
                              | (refine K.GL.want 145 rfl rfl rfl ?_
                                 refine K.GL.det (K.e_move rfl) rfl ?_)
                            first
                              | refine K.GL.skip 145 rfl rfl rfl rfl ?_
                              | refine K.GL.skipU 145 rfl rfl rfl rfl ?_
                              | refine K.GL.skip0 145 rfl rfl rfl ?_
                              | (refine K.GL.want 145 rfl rfl rfl ?_
                                 refine gl_rin_con (gr := gr) (k := m) Try.call30 rfl hrz2 hnr rfl (fun a151 c151 => ?_)
                                 rw [in_eq hids2 hxs])
                            first
                              | refine K.GL.skip 145 rfl rfl rfl rfl ?_
                              | refine K.GL.skipU 145 rfl rfl rfl rfl ?_
                              | refine K.GL.skip0 145 rfl rfl rfl ?_
                              | (refine K.GL.want 145 rfl rfl rfl ?_
                                 refine K.GL.det ((ev_xids_con (l := (gd.in_ m).map EX.id) (k := (gd.in_ m).map EX.id) Try.call28 rfl (by have := gd.in_length m; rw [List.length_map]; omega)).cast_bool (b := true) (decide_eq_true rfl)) rfl ?_)
                            first
                              | refine K.GL.skip 145 rfl rfl rfl rfl ?_
                              | refine K.GL.skipU 145 rfl rfl rfl rfl ?_
                              | refine K.GL.skip0 145 rfl rfl rfl ?_
                              | (refine K.GL.want 145 rfl rfl rfl ?_
                                 first | refine K.GL.det (K.e_notp rfl) rfl ?_ | refine K.GL.det (K.e_not rfl) rfl ?_)
                            first | refine K.GL.det (K.e_pick_t rfl rfl) rfl ?_ | refine K.GL.det (K.e_pick_f rfl rfl) rfl ?_
                            refine K.GL.nil ?_
                            refine K.GQ.go ?_
                            refine K.GC.condB rfl (fun h16 => ?_) (fun h16 => ?_)
                            · first
                              | exact absurd h16 (by decide)
                              | try replace h16 := of_decide_eq_true h16
                                refine K.GC.seq ?_
                                refine K.GC.region ?_
                                refine K.GL.det (K.e_assign rfl) rfl ?_
                                refine K.GL.nil ?_
                                refine K.GQ.go ?_
                                refine K.GC.ret ?_
                                refine K.GQ.block_ret ?_
                                refine K.GQ.then_ret ?_
                                refine K.GQ.then_ret ?_
                                refine K.GQ.block_ret ?_
                                refine K.GQ.then_ret ?_
                                refine K.GQ.ret1 Try.results5 rfl (fun w hT => ?_)
                                exact ⟨rfl, hT.nil⟩
                            · first
                              | exact absurd h16 (by decide)
                              | try replace h16 := of_decide_eq_false h16
                                refine K.GC.skip ?_
                                refine K.GQ.block_normal ?_
                                refine K.GQ.go ?_
                                refine K.GC.region ?_
                                refine K.GL.det (K.e_move rfl) rfl ?_
                                first | refine K.GL.det (K.e_add rfl rfl ⟨by omega, by omega⟩) rfl ?_ | refine K.GL.det (K.e_addw rfl rfl) rfl ?_
                                refine K.GL.det (K.e_assign rfl) rfl ?_
                                refine K.GL.nil ?_
                                exact K.GQ.round ((z.1 + 1, gd, gr) : Nat × IG × RI) ⟨by show z.1 + 1 ≤ _; omega, hkd, h9r, hxs, hel⟩ (by simp only; omega) (by (repeat refine ⟨rfl, ?_⟩); exact trivial) (by first | exact K.sb | (dsimp only; exact K.sb))
                · first
                  | exact absurd h11 (by decide)
                  | try replace h11 := of_decide_eq_false h11
                    refine K.GC.seq ?_
                    refine K.GC.region ?_
                    first | refine K.GL.det ((K.e_eq rfl rfl).yes (by first | omega | assumption | decide +kernel)) rfl ?_ | refine K.GL.det ((K.e_eq rfl rfl).no (by first | omega | assumption | decide +kernel)) rfl ?_ | refine K.GL.det (K.e_eq rfl rfl) rfl ?_
                    refine K.GL.det (K.e_assign rfl) rfl ?_
                    refine K.GL.nil ?_
                    refine K.GQ.go ?_
                    refine K.GC.condB rfl (fun h17 => ?_) (fun h17 => ?_)
                    · first
                      | exact absurd h17 (by decide)
                      | try replace h17 := of_decide_eq_true h17
                        refine K.GC.seq ?_
                        refine K.GC.region ?_
                        refine K.GL.det (K.e_move rfl) rfl ?_
                        first | refine K.GL.det (K.e_fa fo35_2 rfl) rfl ?_ | refine K.GL.det (K.e_fieldAddr fo35_2 rfl) rfl ?_
                        refine K.GL.det (K.e_load Try.isAgg2 rfl rfl) rfl ?_
                        first | refine K.GL.det (K.e_fa fo35_4 rfl) rfl ?_ | refine K.GL.det (K.e_fieldAddr fo35_4 rfl) rfl ?_
                        refine K.GL.det (K.e_load Try.isAgg3 rfl rfl) rfl ?_
                        refine gl_xclass_con (gx := z.2.1) (k := q.id) Try.call15 rfl hI.2.1 rfl (fun gd hkd hed => ?_)
                        refine K.GL.det (K.e_assign rfl) rfl ?_
                        refine K.GL.nil ?_
                        refine K.GQ.go ?_
                        refine K.GC.region ?_
                        refine K.GL.det (K.e_move rfl) rfl ?_
                        first | refine K.GL.det (K.e_fa fo35_2 rfl) rfl ?_ | refine K.GL.det (K.e_fieldAddr fo35_2 rfl) rfl ?_
                        refine K.GL.det (K.e_load Try.isAgg2 rfl rfl) rfl ?_
                        first | refine K.GL.det (K.e_fa fo35_4 rfl) rfl ?_ | refine K.GL.det (K.e_fieldAddr fo35_4 rfl) rfl ?_
                        refine K.GL.det (K.e_load Try.isAgg3 rfl rfl) rfl ?_
                        refine gl_rclass_con (gr := z.2.2) (k := q.id) Try.call22 rfl hI.2.2.1 hrz rfl (fun gr h9r hxr => ?_)
                        rw [hxe, srt_get hids]
                        refine K.GL.det (K.e_assign rfl) rfl ?_
                        refine K.GL.nil ?_
                        refine K.GQ.block_normal ?_
                        refine K.GQ.go ?_
                        refine K.GC.seq ?_
                        have hids2 := hkd.ids
                        have hxs : gr.xs = srt gd.ents := by
                          first
                          | (rw [hed]; exact hxr _ hids hxe)
                          | (rw [hxr, hxe, hed]; exact (srt_del hids).symm)
                          | (rw [hxr, hxe, hed]; symm; refine srt_mod hids ?_ ?_ <;> intro _ <;> rfl)
                        have hel : gd.es.length ≤ z.1 + 1 := by
                          first
                          | exact put_len hI.2.2.2.2 hed
                          | (have h := mod_len hed; omega)
                          | (have h := del_len hed; omega)
                        have hrl2 := rl_len hxs
                        have hrz2 : gr.l.length ≤ 9000 := by omega
                        have hnr : (gr.xs.map EX.id).Nodup := by rw [hxs]; exact srt_ids hids2
                        refine K.GC.region ?_
                        refine K.GL.det (K.e_move rfl) rfl ?_
                        first | refine K.GL.det (K.e_fa fo35_2 rfl) rfl ?_ | refine K.GL.det (K.e_fieldAddr fo35_2 rfl) rfl ?_
                        refine K.GL.det (K.e_load Try.isAgg2 rfl rfl) rfl ?_
                        refine gl_xgt_con (gx := gd) (k := q.id) Try.call12 rfl hkd rfl (fun a114 c114 => ?_)
                        refine K.GL.det (K.e_move rfl) rfl ?_
                        refine K.GL.det (K.e_extract rfl rfl) rfl ?_
                        refine K.GL.det (K.e_extract rfl rfl) rfl ?_
                        refine K.GL.alloc Try.zeroValue33 rfl rfl (fun b12 => ?_)
                        refine K.GL.storeP (vs := encE ((xget q.id gd.ents).getD EX.zero) a114 c114) (cs' := encE ((xget q.id gd.ents).getD EX.zero) a114 c114) rfl rfl rfl Try.sizeOf33 rfl rfl (by exact spliceO_all rfl) ?_
                        refine K.GL.det (K.e_assign rfl) rfl ?_
                        refine K.GL.nil ?_
                        refine K.GQ.go ?_
                        refine K.GC.seq ?_
                        refine K.GC.region ?_
                        refine K.GL.det (K.e_move rfl) rfl ?_
                        first | refine K.GL.det (K.e_fa fo35_2 rfl) rfl ?_ | refine K.GL.det (K.e_fieldAddr fo35_2 rfl) rfl ?_
                        refine K.GL.det (K.e_load Try.isAgg2 rfl rfl) rfl ?_
                        refine gl_rgt_con (gr := gr) (k := q.id) Try.call25 rfl h9r hrz2 rfl (fun a121 c121 => ?_)
                        rw [hxs, srt_get hids2]
                        refine K.GL.det (K.e_move rfl) rfl ?_
                        refine K.GL.det (K.e_extract rfl rfl) rfl ?_
                        refine K.GL.det (K.e_extract rfl rfl) rfl ?_
                        refine K.GL.alloc Try.zeroValue33 rfl rfl (fun b14 => ?_)
                        refine K.GL.storeP (vs := encE ((xget q.id gd.ents).getD EX.zero) a121 c121) (cs' := encE ((xget q.id gd.ents).getD EX.zero) a121 c121) rfl rfl rfl Try.sizeOf33 rfl rfl (by exact spliceO_all rfl) ?_
                        refine K.GL.det (K.e_assign rfl) rfl ?_
                        refine K.GL.nil ?_
                        refine K.GQ.go ?_
                        refine K.GC.seq ?_
                        refine K.GC.region ?_
                        refine K.GL.det (K.e_move rfl) rfl ?_
                        refine K.GL.det (K.e_move rfl) rfl ?_
                        refine K.GL.det ((K.e_neb Try.underlying4 rfl rfl).cast_bool (b := false) (by simp)) rfl ?_
                        refine K.GL.det (K.e_move rfl) rfl ?_
                        first | refine K.GL.splitB 127 rfl (fun h18 => ?_) (fun h18 => ?_) | skip
                        all_goals first | exact absurd h18 (by decide) | replace h18 := of_decide_eq_true h18 | replace h18 := of_decide_eq_false h18 | skip
                        all_goals
                          first
                            | refine K.GL.skip 127 rfl rfl rfl rfl ?_
                            | refine K.GL.skipU 127 rfl rfl rfl rfl ?_
                            | refine K.GL.skip0 127 rfl rfl rfl ?_
                            | (refine K.GL.want 127 rfl rfl rfl ?_
                               refine K.GL.det (K.e_move rfl) rfl ?_)
                          first
                            | refine K.GL.skip 127 rfl rfl rfl rfl ?_
                            | refine K.GL.skipU 127 rfl rfl rfl rfl ?_
                            | refine K.GL.skip0 127 rfl rfl rfl ?_
                            | (refine K.GL.want 127 rfl rfl rfl ?_
                               refine K.GL.det (K.e_move rfl) rfl ?_)
                          first
                            | refine K.GL.skip 127 rfl rfl rfl rfl ?_
                            | refine K.GL.skipU 127 rfl rfl rfl rfl ?_
                            | refine K.GL.skip0 127 rfl rfl rfl ?_
                            | (refine K.GL.want 127 rfl rfl rfl ?_
                               refine K.GL.det ((K.e_neb Try.underlying4 rfl rfl).cast_bool (b := false) (by simp)) rfl ?_)
                          first | refine K.GL.det (K.e_pick_t rfl rfl) rfl ?_ | refine K.GL.det (K.e_pick_f rfl rfl) rfl ?_
                          refine K.GL.det (K.e_move rfl) rfl ?_
                          first | refine K.GL.splitB 132 rfl (fun h19 => ?_) (fun h19 => ?_) | skip
                          all_goals first | exact absurd h19 (by decide) | replace h19 := of_decide_eq_true h19 | replace h19 := of_decide_eq_false h19 | skip
                          all_goals
                            first
                              | refine K.GL.skip 132 rfl rfl rfl rfl ?_
                              | refine K.GL.skipU 132 rfl rfl rfl rfl ?_
                              | refine K.GL.skip0 132 rfl rfl rfl ?_
                              | (refine K.GL.want 132 rfl rfl rfl ?_
                                 first | refine K.GL.det (K.e_ldA Try.isAgg33 Try.sizeOf33 rfl rfl (by assumption)) rfl ?_ | refine K.GL.det (K.e_ldAF Try.isAgg33 Try.sizeOf33 rfl rfl (by assumption) rfl) rfl ?_ | refine K.GL.det (K.e_loads Try.isAgg33 Try.sizeOf33 rfl rfl) rfl ?_)
                            first
                              | refine K.GL.skip 132 rfl rfl rfl rfl ?_
                              | refine K.GL.skipU 132 rfl rfl rfl rfl ?_
                              | refine K.GL.skip0 132 rfl rfl rfl ?_
                              | (refine K.GL.want 132 rfl rfl rfl ?_
                                 first | refine K.GL.det (K.e_ldA Try.isAgg33 Try.sizeOf33 rfl rfl (by assumption)) rfl ?_ | refine K.GL.det (K.e_ldAF Try.isAgg33 Try.sizeOf33 rfl rfl (by assumption) rfl) rfl ?_ | refine K.GL.det (K.e_loads Try.isAgg33 Try.sizeOf33 rfl rfl) rfl ?_)
                            first
                              | refine K.GL.skip 132 rfl rfl rfl rfl ?_
                              | refine K.GL.skipU 132 rfl rfl rfl rfl ?_
                              | refine K.GL.skip0 132 rfl rfl rfl ?_
                              | (refine K.GL.want 132 rfl rfl rfl ?_
                                 refine K.GL.det ((ev_xsame_con (x := ((xget q.id gd.ents).getD EX.zero)) (y := ((xget q.id gd.ents).getD EX.zero)) Try.call18 rfl (get_lt hkd rfl)).cast_bool (b := true) (decide_eq_true rfl)) rfl ?_)
                            first
                              | refine K.GL.skip 132 rfl rfl rfl rfl ?_
                              | refine K.GL.skipU 132 rfl rfl rfl rfl ?_
                              | refine K.GL.skip0 132 rfl rfl rfl ?_
                              | (refine K.GL.want 132 rfl rfl rfl ?_
                                 first | refine K.GL.det (K.e_notp rfl) rfl ?_ | refine K.GL.det (K.e_not rfl) rfl ?_)
                            first | refine K.GL.det (K.e_pick_t rfl rfl) rfl ?_ | refine K.GL.det (K.e_pick_f rfl rfl) rfl ?_
                            refine K.GL.det (K.e_move rfl) rfl ?_
                            first | refine K.GL.splitB 138 rfl (fun h20 => ?_) (fun h20 => ?_) | skip
                            all_goals first | exact absurd h20 (by decide) | replace h20 := of_decide_eq_true h20 | replace h20 := of_decide_eq_false h20 | skip
                            all_goals
                              first
                                | refine K.GL.skip 138 rfl rfl rfl rfl ?_
                                | refine K.GL.skipU 138 rfl rfl rfl rfl ?_
                                | refine K.GL.skip0 138 rfl rfl rfl ?_
                                | (refine K.GL.want 138 rfl rfl rfl ?_
                                   refine K.GL.det (K.e_move rfl) rfl ?_)
                              first
                                | refine K.GL.skip 138 rfl rfl rfl rfl ?_
                                | refine K.GL.skipU 138 rfl rfl rfl rfl ?_
                                | refine K.GL.skip0 138 rfl rfl rfl ?_
                                | (refine K.GL.want 138 rfl rfl rfl ?_
                                   refine K.GL.det (ev_xmany_con (gx := gd) Try.call26 rfl ) rfl ?_)
                              first
                                | refine K.GL.skip 138 rfl rfl rfl rfl ?_
                                | refine K.GL.skipU 138 rfl rfl rfl rfl ?_
                                | refine K.GL.skip0 138 rfl rfl rfl ?_
                                | (refine K.GL.want 138 rfl rfl rfl ?_
                                   refine K.GL.det (K.e_move rfl) rfl ?_)
                              first
                                | refine K.GL.skip 138 rfl rfl rfl rfl ?_
                                | refine K.GL.skipU 138 rfl rfl rfl rfl ?_
                                | refine K.GL.skip0 138 rfl rfl rfl ?_
                                | (refine K.GL.want 138 rfl rfl rfl ?_
                                   refine gl_rmany_con (gr := gr) Try.call27 rfl  rfl (?_))
                              first
                                | refine K.GL.skip 138 rfl rfl rfl rfl ?_
                                | refine K.GL.skipU 138 rfl rfl rfl rfl ?_
                                | refine K.GL.skip0 138 rfl rfl rfl ?_
                                | (refine K.GL.want 138 rfl rfl rfl ?_
                                   refine K.GL.det ((K.e_ne rfl rfl).no (by rw [IG.ents_length]; omega)) rfl ?_)
                              first | refine K.GL.det (K.e_pick_t rfl rfl) rfl ?_ | refine K.GL.det (K.e_pick_f rfl rfl) rfl ?_
                              refine K.GL.det (K.e_move rfl) rfl ?_
                              first | refine K.GL.splitB 145 rfl (fun h21 => ?_) (fun h21 => ?_) | skip
                              all_goals first | exact absurd h21 (by decide) | replace h21 := of_decide_eq_true h21 | replace h21 := of_decide_eq_false h21 | skip
                              all_goals
                                first
                                  | refine K.GL.skip 145 rfl rfl rfl rfl ?_
                                  | refine K.GL.skipU 145 rfl rfl rfl rfl ?_
                                  | refine K.GL.skip0 145 rfl rfl rfl ?_
                                  | (refine K.GL.want 145 rfl rfl rfl ?_
                                     refine K.GL.det (K.e_move rfl) rfl ?_)
                                first
                                  | refine K.GL.skip 145 rfl rfl rfl rfl ?_
                                  | refine K.GL.skipU 145 rfl rfl rfl rfl ?_
                                  | refine K.GL.skip0 145 rfl rfl rfl ?_
                                  | (refine K.GL.want 145 rfl rfl rfl ?_
                                     refine K.GL.det (K.e_move rfl) rfl ?_)
                                first
                                  | refine K.GL.skip 145 rfl rfl rfl rfl ?_
                                  | refine K.GL.skipU 145 rfl rfl rfl rfl ?_
                                  | refine K.GL.skip0 145 rfl rfl rfl ?_
                                  | (refine K.GL.want 145 rfl rfl rfl ?_
                                     refine gl_xin_con (gx := gd) (k := m) Try.call29 rfl hkd (by omega) rfl (fun a148 c148 => ?_))
                                first
                                  | refine K.GL.skip 145 rfl rfl rfl rfl ?_
                                  | refine K.GL.skipU 145 rfl rfl rfl rfl ?_
                                  | refine K.GL.skip0 145 rfl rfl rfl ?_
                                  | (refine K.GL.want 145 rfl rfl rfl ?_
                                     refine K.GL.det (K.e_move rfl) rfl ?_)
                                first
                                  | refine K.GL.skip 145 rfl rfl rfl rfl ?_
                                  | refine K.GL.skipU 145 rfl rfl rfl rfl ?_
                                  | refine K.GL.skip0 145 rfl rfl rfl ?_
                                  | (refine K.GL.want 145 rfl rfl rfl ?_
                                     refine K.GL.det (K.e_move rfl) rfl ?_)
                                first
                                  | refine K.GL.skip 145 rfl rfl rfl rfl ?_
                                  | refine K.GL.skipU 145 rfl rfl rfl rfl ?_
                                  | refine K.GL.skip0 145 rfl rfl rfl ?_
                                  | (refine K.GL.want 145 rfl rfl rfl ?_
                                     refine gl_rin_con (gr := gr) (k := m) Try.call30 rfl hrz2 hnr rfl (fun a151 c151 => ?_)
                                     rw [in_eq hids2 hxs])
                                first
                                  | refine K.GL.skip 145 rfl rfl rfl rfl ?_
                                  | refine K.GL.skipU 145 rfl rfl rfl rfl ?_
                                  | refine K.GL.skip0 145 rfl rfl rfl ?_
                                  | (refine K.GL.want 145 rfl rfl rfl ?_
                                     refine K.GL.det ((ev_xids_con (l := (gd.in_ m).map EX.id) (k := (gd.in_ m).map EX.id) Try.call28 rfl (by have := gd.in_length m; rw [List.length_map]; omega)).cast_bool (b := true) (decide_eq_true rfl)) rfl ?_)
                                first
                                  | refine K.GL.skip 145 rfl rfl rfl rfl ?_
                                  | refine K.GL.skipU 145 rfl rfl rfl rfl ?_
                                  | refine K.GL.skip0 145 rfl rfl rfl ?_
                                  | (refine K.GL.want 145 rfl rfl rfl ?_
                                     first | refine K.GL.det (K.e_notp rfl) rfl ?_ | refine K.GL.det (K.e_not rfl) rfl ?_)
                                first | refine K.GL.det (K.e_pick_t rfl rfl) rfl ?_ | refine K.GL.det (K.e_pick_f rfl rfl) rfl ?_
                                refine K.GL.nil ?_
                                refine K.GQ.go ?_
                                refine K.GC.condB rfl (fun h22 => ?_) (fun h22 => ?_)
                                · first
                                  | exact absurd h22 (by decide)
                                  | try replace h22 := of_decide_eq_true h22
                                    refine K.GC.seq ?_
                                    refine K.GC.region ?_
                                    refine K.GL.det (K.e_assign rfl) rfl ?_
                                    refine K.GL.nil ?_
                                    refine K.GQ.go ?_
                                    refine K.GC.ret ?_
                                    refine K.GQ.block_ret ?_
                                    refine K.GQ.then_ret ?_
                                    refine K.GQ.then_ret ?_
                                    refine K.GQ.block_ret ?_
                                    refine K.GQ.then_ret ?_
                                    refine K.GQ.ret1 Try.results5 rfl (fun w hT => ?_)
                                    exact ⟨rfl, hT.nil⟩
                                · first
                                  | exact absurd h22 (by decide)
                                  | try replace h22 := of_decide_eq_false h22
                                    refine K.GC.skip ?_
                                    refine K.GQ.block_normal ?_
                                    refine K.GQ.go ?_
                                    refine K.GC.region ?_
                                    refine K.GL.det (K.e_move rfl) rfl ?_
                                    first | refine K.GL.det (K.e_add rfl rfl ⟨by omega, by omega⟩) rfl ?_ | refine K.GL.det (K.e_addw rfl rfl) rfl ?_
                                    refine K.GL.det (K.e_assign rfl) rfl ?_
                                    refine K.GL.nil ?_
                                    exact K.GQ.round ((z.1 + 1, gd, gr) : Nat × IG × RI) ⟨by show z.1 + 1 ≤ _; omega, hkd, h9r, hxs, hel⟩ (by simp only; omega) (by (repeat refine ⟨rfl, ?_⟩); exact trivial) (by first | exact K.sb | (dsimp only; exact K.sb))
                    · first
                      | exact absurd h17 (by decide)
                      | try replace h17 := of_decide_eq_false h17
                        refine K.GC.seq ?_
                        refine K.GC.region ?_
                        first | refine K.GL.det ((K.e_eq rfl rfl).yes (by first | omega | assumption | decide +kernel)) rfl ?_ | refine K.GL.det ((K.e_eq rfl rfl).no (by first | omega | assumption | decide +kernel)) rfl ?_ | refine K.GL.det (K.e_eq rfl rfl) rfl ?_
                        refine K.GL.det (K.e_assign rfl) rfl ?_
                        refine K.GL.nil ?_
                        refine K.GQ.go ?_
                        refine K.GC.condB rfl (fun h23 => ?_) (fun h23 => ?_)
                        · first
                          | exact absurd h23 (by decide)
                          | try replace h23 := of_decide_eq_true h23
                            refine K.GC.seq ?_
                            refine K.GC.region ?_
                            refine K.GL.det (K.e_move rfl) rfl ?_
                            first | refine K.GL.det (K.e_fa fo35_2 rfl) rfl ?_ | refine K.GL.det (K.e_fieldAddr fo35_2 rfl) rfl ?_
                            refine K.GL.det (K.e_load Try.isAgg2 rfl rfl) rfl ?_
                            first | refine K.GL.det (K.e_fa fo35_5 rfl) rfl ?_ | refine K.GL.det (K.e_fieldAddr fo35_5 rfl) rfl ?_
                            refine K.GL.det (K.e_load Try.isAgg2 rfl rfl) rfl ?_
                            first | refine K.GL.det (K.e_fa fo35_6 rfl) rfl ?_ | refine K.GL.det (K.e_fieldAddr fo35_6 rfl) rfl ?_
                            refine K.GL.det (K.e_load Try.isAgg3 rfl rfl) rfl ?_
                            first | refine K.GL.det (K.e_fa fo35_7 rfl) rfl ?_ | refine K.GL.det (K.e_fieldAddr fo35_7 rfl) rfl ?_
                            refine K.GL.det (K.e_load Try.isAgg3 rfl rfl) rfl ?_
                            refine gl_xmove_con (gx := z.2.1) (k := q.id) Try.call16 rfl hI.2.1 rfl (fun gd hkd hed => ?_)
                            refine K.GL.det (K.e_assign rfl) rfl ?_
                            refine K.GL.nil ?_
                            refine K.GQ.go ?_
                            refine K.GC.region ?_
                            refine K.GL.det (K.e_move rfl) rfl ?_
                            first | refine K.GL.det (K.e_fa fo35_2 rfl) rfl ?_ | refine K.GL.det (K.e_fieldAddr fo35_2 rfl) rfl ?_
                            refine K.GL.det (K.e_load Try.isAgg2 rfl rfl) rfl ?_
                            first | refine K.GL.det (K.e_fa fo35_5 rfl) rfl ?_ | refine K.GL.det (K.e_fieldAddr fo35_5 rfl) rfl ?_
                            refine K.GL.det (K.e_load Try.isAgg2 rfl rfl) rfl ?_
                            first | refine K.GL.det (K.e_fa fo35_6 rfl) rfl ?_ | refine K.GL.det (K.e_fieldAddr fo35_6 rfl) rfl ?_
                            refine K.GL.det (K.e_load Try.isAgg3 rfl rfl) rfl ?_
                            first | refine K.GL.det (K.e_fa fo35_7 rfl) rfl ?_ | refine K.GL.det (K.e_fieldAddr fo35_7 rfl) rfl ?_
                            refine K.GL.det (K.e_load Try.isAgg3 rfl rfl) rfl ?_
                            refine gl_rmove_con (gr := z.2.2) (k := q.id) Try.call23 rfl hI.2.2.1 hrz rfl (fun gr h9r hxr => ?_)
                            rw [hxe, srt_get hids]
                            refine K.GL.det (K.e_assign rfl) rfl ?_
                            refine K.GL.nil ?_
                            refine K.GQ.block_normal ?_
                            refine K.GQ.go ?_
                            refine K.GC.seq ?_
                            have hids2 := hkd.ids
                            have hxs : gr.xs = srt gd.ents := by
                              first
                              | (rw [hed]; exact hxr _ hids hxe)
                              | (rw [hxr, hxe, hed]; exact (srt_del hids).symm)
                              | (rw [hxr, hxe, hed]; symm; refine srt_mod hids ?_ ?_ <;> intro _ <;> rfl)
                            have hel : gd.es.length ≤ z.1 + 1 := by
                              first
                              | exact put_len hI.2.2.2.2 hed
                              | (have h := mod_len hed; omega)
                              | (have h := del_len hed; omega)
                            have hrl2 := rl_len hxs
                            have hrz2 : gr.l.length ≤ 9000 := by omega
                            have hnr : (gr.xs.map EX.id).Nodup := by rw [hxs]; exact srt_ids hids2
                            refine K.GC.region ?_
                            refine K.GL.det (K.e_move rfl) rfl ?_
                            first | refine K.GL.det (K.e_fa fo35_2 rfl) rfl ?_ | refine K.GL.det (K.e_fieldAddr fo35_2 rfl) rfl ?_
                            refine K.GL.det (K.e_load Try.isAgg2 rfl rfl) rfl ?_
                            refine gl_xgt_con (gx := gd) (k := q.id) Try.call12 rfl hkd rfl (fun a114 c114 => ?_)
                            refine K.GL.det (K.e_move rfl) rfl ?_
                            refine K.GL.det (K.e_extract rfl rfl) rfl ?_
                            refine K.GL.det (K.e_extract rfl rfl) rfl ?_
                            refine K.GL.alloc Try.zeroValue33 rfl rfl (fun b12 => ?_)
                            refine K.GL.storeP (vs := encE ((xget q.id gd.ents).getD EX.zero) a114 c114) (cs' := encE ((xget q.id gd.ents).getD EX.zero) a114 c114) rfl rfl rfl Try.sizeOf33 rfl rfl (by exact spliceO_all rfl) ?_
                            refine K.GL.det (K.e_assign rfl) rfl ?_
                            refine K.GL.nil ?_
                            refine K.GQ.go ?_
                            refine K.GC.seq ?_
                            refine K.GC.region ?_
                            refine K.GL.det (K.e_move rfl) rfl ?_
                            first | refine K.GL.det (K.e_fa fo35_2 rfl) rfl ?_ | refine K.GL.det (K.e_fieldAddr fo35_2 rfl) rfl ?_
                            refine K.GL.det (K.e_load Try.isAgg2 rfl rfl) rfl ?_
                            refine gl_rgt_con (gr := gr) (k := q.id) Try.call25 rfl h9r hrz2 rfl (fun a121 c121 => ?_)
                            rw [hxs, srt_get hids2]
                            refine K.GL.det (K.e_move rfl) rfl ?_
                            refine K.GL.det (K.e_extract rfl rfl) rfl ?_
                            refine K.GL.det (K.e_extract rfl rfl) rfl ?_
                            refine K.GL.alloc Try.zeroValue33 rfl rfl (fun b14 => ?_)
                            refine K.GL.storeP (vs := encE ((xget q.id gd.ents).getD EX.zero) a121 c121) (cs' := encE ((xget q.id gd.ents).getD EX.zero) a121 c121) rfl rfl rfl Try.sizeOf33 rfl rfl (by exact spliceO_all rfl) ?_
                            refine K.GL.det (K.e_assign rfl) rfl ?_
                            refine K.GL.nil ?_
                            refine K.GQ.go ?_
                            refine K.GC.seq ?_
                            refine K.GC.region ?_
                            refine K.GL.det (K.e_move rfl) rfl ?_
                            refine K.GL.det (K.e_move rfl) rfl ?_
                            refine K.GL.det ((K.e_neb Try.underlying4 rfl rfl).cast_bool (b := false) (by simp)) rfl ?_
                            refine K.GL.det (K.e_move rfl) rfl ?_
                            first | refine K.GL.splitB 127 rfl (fun h24 => ?_) (fun h24 => ?_) | skip
                            all_goals first | exact absurd h24 (by decide) | replace h24 := of_decide_eq_true h24 | replace h24 := of_decide_eq_false h24 | skip
                            all_goals
                              first
                                | refine K.GL.skip 127 rfl rfl rfl rfl ?_
                                | refine K.GL.skipU 127 rfl rfl rfl rfl ?_
                                | refine K.GL.skip0 127 rfl rfl rfl ?_
                                | (refine K.GL.want 127 rfl rfl rfl ?_
                                   refine K.GL.det (K.e_move rfl) rfl ?_)
                              first
                                | refine K.GL.skip 127 rfl rfl rfl rfl ?_
                                | refine K.GL.skipU 127 rfl rfl rfl rfl ?_
                                | refine K.GL.skip0 127 rfl rfl rfl ?_
                                | (refine K.GL.want 127 rfl rfl rfl ?_
                                   refine K.GL.det (K.e_move rfl) rfl ?_)
                              first
                                | refine K.GL.skip 127 rfl rfl rfl rfl ?_
                                | refine K.GL.skipU 127 rfl rfl rfl rfl ?_
                                | refine K.GL.skip0 127 rfl rfl rfl ?_
                                | (refine K.GL.want 127 rfl rfl rfl ?_
                                   refine K.GL.det ((K.e_neb Try.underlying4 rfl rfl).cast_bool (b := false) (by simp)) rfl ?_)
                              first | refine K.GL.det (K.e_pick_t rfl rfl) rfl ?_ | refine K.GL.det (K.e_pick_f rfl rfl) rfl ?_
                              refine K.GL.det (K.e_move rfl) rfl ?_
                              first | refine K.GL.splitB 132 rfl (fun h25 => ?_) (fun h25 => ?_) | skip
                              all_goals first | exact absurd h25 (by decide) | replace h25 := of_decide_eq_true h25 | replace h25 := of_decide_eq_false h25 | skip
                              all_goals
                                first
                                  | refine K.GL.skip 132 rfl rfl rfl rfl ?_
                                  | refine K.GL.skipU 132 rfl rfl rfl rfl ?_
                                  | refine K.GL.skip0 132 rfl rfl rfl ?_
                                  | (refine K.GL.want 132 rfl rfl rfl ?_
                                     first | refine K.GL.det (K.e_ldA Try.isAgg33 Try.sizeOf33 rfl rfl (by assumption)) rfl ?_ | refine K.GL.det (K.e_ldAF Try.isAgg33 Try.sizeOf33 rfl rfl (by assumption) rfl) rfl ?_ | refine K.GL.det (K.e_loads Try.isAgg33 Try.sizeOf33 rfl rfl) rfl ?_)
                                first
                                  | refine K.GL.skip 132 rfl rfl rfl rfl ?_
                                  | refine K.GL.skipU 132 rfl rfl rfl rfl ?_
                                  | refine K.GL.skip0 132 rfl rfl rfl ?_
                                  | (refine K.GL.want 132 rfl rfl rfl ?_
                                     first | refine K.GL.det (K.e_ldA Try.isAgg33 Try.sizeOf33 rfl rfl (by assumption)) rfl ?_ | refine K.GL.det (K.e_ldAF Try.isAgg33 Try.sizeOf33 rfl rfl (by assumption) rfl) rfl ?_ | refine K.GL.det (K.e_loads Try.isAgg33 Try.sizeOf33 rfl rfl) rfl ?_)
                                first
                                  | refine K.GL.skip 132 rfl rfl rfl rfl ?_
                                  | refine K.GL.skipU 132 rfl rfl rfl rfl ?_
                                  | refine K.GL.skip0 132 rfl rfl rfl ?_
                                  | (refine K.GL.want 132 rfl rfl rfl ?_
                                     refine K.GL.det ((ev_xsame_con (x := ((xget q.id gd.ents).getD EX.zero)) (y := ((xget q.id gd.ents).getD EX.zero)) Try.call18 rfl (get_lt hkd rfl)).cast_bool (b := true) (decide_eq_true rfl)) rfl ?_)
                                first
                                  | refine K.GL.skip 132 rfl rfl rfl rfl ?_
                                  | refine K.GL.skipU 132 rfl rfl rfl rfl ?_
                                  | refine K.GL.skip0 132 rfl rfl rfl ?_
                                  | (refine K.GL.want 132 rfl rfl rfl ?_
                                     first | refine K.GL.det (K.e_notp rfl) rfl ?_ | refine K.GL.det (K.e_not rfl) rfl ?_)
                                first | refine K.GL.det (K.e_pick_t rfl rfl) rfl ?_ | refine K.GL.det (K.e_pick_f rfl rfl) rfl ?_
                                refine K.GL.det (K.e_move rfl) rfl ?_
                                first | refine K.GL.splitB 138 rfl (fun h26 => ?_) (fun h26 => ?_) | skip
                                all_goals first | exact absurd h26 (by decide) | replace h26 := of_decide_eq_true h26 | replace h26 := of_decide_eq_false h26 | skip
                                all_goals
                                  first
                                    | refine K.GL.skip 138 rfl rfl rfl rfl ?_
                                    | refine K.GL.skipU 138 rfl rfl rfl rfl ?_
                                    | refine K.GL.skip0 138 rfl rfl rfl ?_
                                    | (refine K.GL.want 138 rfl rfl rfl ?_
                                       refine K.GL.det (K.e_move rfl) rfl ?_)
                                  first
                                    | refine K.GL.skip 138 rfl rfl rfl rfl ?_
                                    | refine K.GL.skipU 138 rfl rfl rfl rfl ?_
                                    | refine K.GL.skip0 138 rfl rfl rfl ?_
                                    | (refine K.GL.want 138 rfl rfl rfl ?_
                                       refine K.GL.det (ev_xmany_con (gx := gd) Try.call26 rfl ) rfl ?_)
                                  first
                                    | refine K.GL.skip 138 rfl rfl rfl rfl ?_
                                    | refine K.GL.skipU 138 rfl rfl rfl rfl ?_
                                    | refine K.GL.skip0 138 rfl rfl rfl ?_
                                    | (refine K.GL.want 138 rfl rfl rfl ?_
                                       refine K.GL.det (K.e_move rfl) rfl ?_)
                                  first
                                    | refine K.GL.skip 138 rfl rfl rfl rfl ?_
                                    | refine K.GL.skipU 138 rfl rfl rfl rfl ?_
                                    | refine K.GL.skip0 138 rfl rfl rfl ?_
                                    | (refine K.GL.want 138 rfl rfl rfl ?_
                                       refine gl_rmany_con (gr := gr) Try.call27 rfl  rfl (?_))
                                  first
                                    | refine K.GL.skip 138 rfl rfl rfl rfl ?_
                                    | refine K.GL.skipU 138 rfl rfl rfl rfl ?_
                                    | refine K.GL.skip0 138 rfl rfl rfl ?_
                                    | (refine K.GL.want 138 rfl rfl rfl ?_
                                       refine K.GL.det ((K.e_ne rfl rfl).no (by rw [IG.ents_length]; omega)) rfl ?_)
                                  first | refine K.GL.det (K.e_pick_t rfl rfl) rfl ?_ | refine K.GL.det (K.e_pick_f rfl rfl) rfl ?_
                                  refine K.GL.det (K.e_move rfl) rfl ?_
                                  first | refine K.GL.splitB 145 rfl (fun h27 => ?_) (fun h27 => ?_) | skip
                                  all_goals first | exact absurd h27 (by decide) | replace h27 := of_decide_eq_true h27 | replace h27 := of_decide_eq_false h27 | skip
                                  all_goals
                                    first
                                      | refine K.GL.skip 145 rfl rfl rfl rfl ?_
                                      | refine K.GL.skipU 145 rfl rfl rfl rfl ?_
                                      | refine K.GL.skip0 145 rfl rfl rfl ?_
                                      | (refine K.GL.want 145 rfl rfl rfl ?_
                                         refine K.GL.det (K.e_move rfl) rfl ?_)
                                    first
                                      | refine K.GL.skip 145 rfl rfl rfl rfl ?_
                                      | refine K.GL.skipU 145 rfl rfl rfl rfl ?_
                                      | refine K.GL.skip0 145 rfl rfl rfl ?_
                                      | (refine K.GL.want 145 rfl rfl rfl ?_
                                         refine K.GL.det (K.e_move rfl) rfl ?_)
                                    first
                                      | refine K.GL.skip 145 rfl rfl rfl rfl ?_
                                      | refine K.GL.skipU 145 rfl rfl rfl rfl ?_
                                      | refine K.GL.skip0 145 rfl rfl rfl ?_
                                      | (refine K.GL.want 145 rfl rfl rfl ?_
                                         refine gl_xin_con (gx := gd) (k := m) Try.call29 rfl hkd (by omega) rfl (fun a148 c148 => ?_))
                                    first
                                      | refine K.GL.skip 145 rfl rfl rfl rfl ?_
                                      | refine K.GL.skipU 145 rfl rfl rfl rfl ?_
                                      | refine K.GL.skip0 145 rfl rfl rfl ?_
                                      | (refine K.GL.want 145 rfl rfl rfl ?_
                                         refine K.GL.det (K.e_move rfl) rfl ?_)
                                    first
                                      | refine K.GL.skip 145 rfl rfl rfl rfl ?_
                                      | refine K.GL.skipU 145 rfl rfl rfl rfl ?_
                                      | refine K.GL.skip0 145 rfl rfl rfl ?_
                                      | (refine K.GL.want 145 rfl rfl rfl ?_
                                         refine K.GL.det (K.e_move rfl) rfl ?_)
                                    first
                                      | refine K.GL.skip 145 rfl rfl rfl rfl ?_
                                      | refine K.GL.skipU 145 rfl rfl rfl rfl ?_
                                      | refine K.GL.skip0 145 rfl rfl rfl ?_
                                      | (refine K.GL.want 145 rfl rfl rfl ?_
                                         refine gl_rin_con (gr := gr) (k := m) Try.call30 rfl hrz2 hnr rfl (fun a151 c151 => ?_)
                                         rw [in_eq hids2 hxs])
                                    first
                                      | refine K.GL.skip 145 rfl rfl rfl rfl ?_
                                      | refine K.GL.skipU 145 rfl rfl rfl rfl ?_
                                      | refine K.GL.skip0 145 rfl rfl rfl ?_
                                      | (refine K.GL.want 145 rfl rfl rfl ?_
                                         refine K.GL.det ((ev_xids_con (l := (gd.in_ m).map EX.id) (k := (gd.in_ m).map EX.id) Try.call28 rfl (by have := gd.in_length m; rw [List.length_map]; omega)).cast_bool (b := true) (decide_eq_true rfl)) rfl ?_)
                                    first
                                      | refine K.GL.skip 145 rfl rfl rfl rfl ?_
                                      | refine K.GL.skipU 145 rfl rfl rfl rfl ?_
                                      | refine K.GL.skip0 145 rfl rfl rfl ?_
                                      | (refine K.GL.want 145 rfl rfl rfl ?_
                                         first | refine K.GL.det (K.e_notp rfl) rfl ?_ | refine K.GL.det (K.e_not rfl) rfl ?_)
                                    first | refine K.GL.det (K.e_pick_t rfl rfl) rfl ?_ | refine K.GL.det (K.e_pick_f rfl rfl) rfl ?_
                                    refine K.GL.nil ?_
                                    refine K.GQ.go ?_
                                    refine K.GC.condB rfl (fun h28 => ?_) (fun h28 => ?_)
                                    · first
                                      | exact absurd h28 (by decide)
                                      | try replace h28 := of_decide_eq_true h28
                                        refine K.GC.seq ?_
                                        refine K.GC.region ?_
                                        refine K.GL.det (K.e_assign rfl) rfl ?_
                                        refine K.GL.nil ?_
                                        refine K.GQ.go ?_
                                        refine K.GC.ret ?_
                                        refine K.GQ.block_ret ?_
                                        refine K.GQ.then_ret ?_
                                        refine K.GQ.then_ret ?_
                                        refine K.GQ.block_ret ?_
                                        refine K.GQ.then_ret ?_
                                        refine K.GQ.ret1 Try.results5 rfl (fun w hT => ?_)
                                        exact ⟨rfl, hT.nil⟩
                                    · first
                                      | exact absurd h28 (by decide)
                                      | try replace h28 := of_decide_eq_false h28
                                        refine K.GC.skip ?_
                                        refine K.GQ.block_normal ?_
                                        refine K.GQ.go ?_
                                        refine K.GC.region ?_
                                        refine K.GL.det (K.e_move rfl) rfl ?_
                                        first | refine K.GL.det (K.e_add rfl rfl ⟨by omega, by omega⟩) rfl ?_ | refine K.GL.det (K.e_addw rfl rfl) rfl ?_
                                        refine K.GL.det (K.e_assign rfl) rfl ?_
                                        refine K.GL.nil ?_
                                        exact K.GQ.round ((z.1 + 1, gd, gr) : Nat × IG × RI) ⟨by show z.1 + 1 ≤ _; omega, hkd, h9r, hxs, hel⟩ (by simp only; omega) (by (repeat refine ⟨rfl, ?_⟩); exact trivial) (by first | exact K.sb | (dsimp only; exact K.sb))
                        · first
                          | exact absurd h23 (by decide)
                          | try replace h23 := of_decide_eq_false h23
                            refine K.GC.seq ?_
                            refine K.GC.region ?_
                            refine K.GL.det (K.e_move rfl) rfl ?_
                            first | refine K.GL.det (K.e_fa fo35_1 rfl) rfl ?_ | refine K.GL.det (K.e_fieldAddr fo35_1 rfl) rfl ?_
                            first | refine K.GL.det (K.e_ldA Try.isAgg33 Try.sizeOf33 rfl rfl (by assumption)) rfl ?_ | refine K.GL.det (K.e_ldAF Try.isAgg33 Try.sizeOf33 rfl rfl (by assumption) rfl) rfl ?_ | refine K.GL.det (K.e_loads Try.isAgg33 Try.sizeOf33 rfl rfl) rfl ?_
                            refine gl_xput_con (gx := z.2.1) (x := q.e) (a := q.ea) (c := q.ec) Try.call17 rfl hI.2.1 hgq.e.id hq9 rfl (fun gd hkd hed => ?_)
                            refine K.GL.det (K.e_assign rfl) rfl ?_
                            refine K.GL.nil ?_
                            refine K.GQ.go ?_
                            refine K.GC.region ?_
                            refine K.GL.det (K.e_move rfl) rfl ?_
                            first | refine K.GL.det (K.e_fa fo35_1 rfl) rfl ?_ | refine K.GL.det (K.e_fieldAddr fo35_1 rfl) rfl ?_
                            first | refine K.GL.det (K.e_ldA Try.isAgg33 Try.sizeOf33 rfl rfl (by assumption)) rfl ?_ | refine K.GL.det (K.e_ldAF Try.isAgg33 Try.sizeOf33 rfl rfl (by assumption) rfl) rfl ?_ | refine K.GL.det (K.e_loads Try.isAgg33 Try.sizeOf33 rfl rfl) rfl ?_
                            refine gl_rput_con (gr := z.2.2) (q := (⟨q.e, q.ea, q.ec⟩ : OE)) Try.call24 rfl hI.2.2.1 (by omega) hq9 rfl (fun gr h9r hlr hxr => ?_)
                            rw [hxe, srt_get hids]
                            refine K.GL.det (K.e_assign rfl) rfl ?_
                            refine K.GL.nil ?_
                            refine K.GQ.block_normal ?_
                            refine K.GQ.go ?_
                            refine K.GC.seq ?_
                            have hids2 := hkd.ids
                            have hxs : gr.xs = srt gd.ents := by
                              first
                              | (rw [hed]; exact hxr _ hids hxe)
                              | (rw [hxr, hxe, hed]; exact (srt_del hids).symm)
                              | (rw [hxr, hxe, hed]; symm; refine srt_mod hids ?_ ?_ <;> intro _ <;> rfl)
                            have hel : gd.es.length ≤ z.1 + 1 := by
                              first
                              | exact put_len hI.2.2.2.2 hed
                              | (have h := mod_len hed; omega)
                              | (have h := del_len hed; omega)
                            have hrl2 := rl_len hxs
                            have hrz2 : gr.l.length ≤ 9000 := by omega
                            have hnr : (gr.xs.map EX.id).Nodup := by rw [hxs]; exact srt_ids hids2
                            refine K.GC.region ?_
                            refine K.GL.det (K.e_move rfl) rfl ?_
                            first | refine K.GL.det (K.e_fa fo35_2 rfl) rfl ?_ | refine K.GL.det (K.e_fieldAddr fo35_2 rfl) rfl ?_
                            refine K.GL.det (K.e_load Try.isAgg2 rfl rfl) rfl ?_
                            refine gl_xgt_con (gx := gd) (k := q.id) Try.call12 rfl hkd rfl (fun a114 c114 => ?_)
                            refine K.GL.det (K.e_move rfl) rfl ?_
                            refine K.GL.det (K.e_extract rfl rfl) rfl ?_
                            refine K.GL.det (K.e_extract rfl rfl) rfl ?_
                            refine K.GL.alloc Try.zeroValue33 rfl rfl (fun b12 => ?_)
                            refine K.GL.storeP (vs := encE ((xget q.id gd.ents).getD EX.zero) a114 c114) (cs' := encE ((xget q.id gd.ents).getD EX.zero) a114 c114) rfl rfl rfl Try.sizeOf33 rfl rfl (by exact spliceO_all rfl) ?_
                            refine K.GL.det (K.e_assign rfl) rfl ?_
                            refine K.GL.nil ?_
                            refine K.GQ.go ?_
                            refine K.GC.seq ?_
                            refine K.GC.region ?_
                            refine K.GL.det (K.e_move rfl) rfl ?_
                            first | refine K.GL.det (K.e_fa fo35_2 rfl) rfl ?_ | refine K.GL.det (K.e_fieldAddr fo35_2 rfl) rfl ?_
                            refine K.GL.det (K.e_load Try.isAgg2 rfl rfl) rfl ?_
                            refine gl_rgt_con (gr := gr) (k := q.id) Try.call25 rfl h9r hrz2 rfl (fun a121 c121 => ?_)
                            rw [hxs, srt_get hids2]
                            refine K.GL.det (K.e_move rfl) rfl ?_
                            refine K.GL.det (K.e_extract rfl rfl) rfl ?_
                            refine K.GL.det (K.e_extract rfl rfl) rfl ?_
                            refine K.GL.alloc Try.zeroValue33 rfl rfl (fun b14 => ?_)
                            refine K.GL.storeP (vs := encE ((xget q.id gd.ents).getD EX.zero) a121 c121) (cs' := encE ((xget q.id gd.ents).getD EX.zero) a121 c121) rfl rfl rfl Try.sizeOf33 rfl rfl (by exact spliceO_all rfl) ?_
                            refine K.GL.det (K.e_assign rfl) rfl ?_
                            refine K.GL.nil ?_
                            refine K.GQ.go ?_
                            refine K.GC.seq ?_
                            refine K.GC.region ?_
                            refine K.GL.det (K.e_move rfl) rfl ?_
                            refine K.GL.det (K.e_move rfl) rfl ?_
                            refine K.GL.det ((K.e_neb Try.underlying4 rfl rfl).cast_bool (b := false) (by simp)) rfl ?_
                            refine K.GL.det (K.e_move rfl) rfl ?_
                            first | refine K.GL.splitB 127 rfl (fun h29 => ?_) (fun h29 => ?_) | skip
                            all_goals first | exact absurd h29 (by decide) | replace h29 := of_decide_eq_true h29 | replace h29 := of_decide_eq_false h29 | skip
                            all_goals
                              first
                                | refine K.GL.skip 127 rfl rfl rfl rfl ?_
                                | refine K.GL.skipU 127 rfl rfl rfl rfl ?_
                                | refine K.GL.skip0 127 rfl rfl rfl ?_
                                | (refine K.GL.want 127 rfl rfl rfl ?_
                                   refine K.GL.det (K.e_move rfl) rfl ?_)
                              first
                                | refine K.GL.skip 127 rfl rfl rfl rfl ?_
                                | refine K.GL.skipU 127 rfl rfl rfl rfl ?_
                                | refine K.GL.skip0 127 rfl rfl rfl ?_
                                | (refine K.GL.want 127 rfl rfl rfl ?_
                                   refine K.GL.det (K.e_move rfl) rfl ?_)
                              first
                                | refine K.GL.skip 127 rfl rfl rfl rfl ?_
                                | refine K.GL.skipU 127 rfl rfl rfl rfl ?_
                                | refine K.GL.skip0 127 rfl rfl rfl ?_
                                | (refine K.GL.want 127 rfl rfl rfl ?_
                                   refine K.GL.det ((K.e_neb Try.underlying4 rfl rfl).cast_bool (b := false) (by simp)) rfl ?_)
                              first | refine K.GL.det (K.e_pick_t rfl rfl) rfl ?_ | refine K.GL.det (K.e_pick_f rfl rfl) rfl ?_
                              refine K.GL.det (K.e_move rfl) rfl ?_
                              first | refine K.GL.splitB 132 rfl (fun h30 => ?_) (fun h30 => ?_) | skip
                              all_goals first | exact absurd h30 (by decide) | replace h30 := of_decide_eq_true h30 | replace h30 := of_decide_eq_false h30 | skip
                              all_goals
                                first
                                  | refine K.GL.skip 132 rfl rfl rfl rfl ?_
                                  | refine K.GL.skipU 132 rfl rfl rfl rfl ?_
                                  | refine K.GL.skip0 132 rfl rfl rfl ?_
                                  | (refine K.GL.want 132 rfl rfl rfl ?_
                                     first | refine K.GL.det (K.e_ldA Try.isAgg33 Try.sizeOf33 rfl rfl (by assumption)) rfl ?_ | refine K.GL.det (K.e_ldAF Try.isAgg33 Try.sizeOf33 rfl rfl (by assumption) rfl) rfl ?_ | refine K.GL.det (K.e_loads Try.isAgg33 Try.sizeOf33 rfl rfl) rfl ?_)
                                first
                                  | refine K.GL.skip 132 rfl rfl rfl rfl ?_
                                  | refine K.GL.skipU 132 rfl rfl rfl rfl ?_
                                  | refine K.GL.skip0 132 rfl rfl rfl ?_
                                  | (refine K.GL.want 132 rfl rfl rfl ?_
                                     first | refine K.GL.det (K.e_ldA Try.isAgg33 Try.sizeOf33 rfl rfl (by assumption)) rfl ?_ | refine K.GL.det (K.e_ldAF Try.isAgg33 Try.sizeOf33 rfl rfl (by assumption) rfl) rfl ?_ | refine K.GL.det (K.e_loads Try.isAgg33 Try.sizeOf33 rfl rfl) rfl ?_)
                                first
                                  | refine K.GL.skip 132 rfl rfl rfl rfl ?_
                                  | refine K.GL.skipU 132 rfl rfl rfl rfl ?_
                                  | refine K.GL.skip0 132 rfl rfl rfl ?_
                                  | (refine K.GL.want 132 rfl rfl rfl ?_
                                     refine K.GL.det ((ev_xsame_con (x := ((xget q.id gd.ents).getD EX.zero)) (y := ((xget q.id gd.ents).getD EX.zero)) Try.call18 rfl (get_lt hkd rfl)).cast_bool (b := true) (decide_eq_true rfl)) rfl ?_)
                                first
                                  | refine K.GL.skip 132 rfl rfl rfl rfl ?_
                                  | refine K.GL.skipU 132 rfl rfl rfl rfl ?_
                                  | refine K.GL.skip0 132 rfl rfl rfl ?_
                                  | (refine K.GL.want 132 rfl rfl rfl ?_
                                     first | refine K.GL.det (K.e_notp rfl) rfl ?_ | refine K.GL.det (K.e_not rfl) rfl ?_)
                                first | refine K.GL.det (K.e_pick_t rfl rfl) rfl ?_ | refine K.GL.det (K.e_pick_f rfl rfl) rfl ?_
                                refine K.GL.det (K.e_move rfl) rfl ?_
                                first | refine K.GL.splitB 138 rfl (fun h31 => ?_) (fun h31 => ?_) | skip
                                all_goals first | exact absurd h31 (by decide) | replace h31 := of_decide_eq_true h31 | replace h31 := of_decide_eq_false h31 | skip
                                all_goals
                                  first
                                    | refine K.GL.skip 138 rfl rfl rfl rfl ?_
                                    | refine K.GL.skipU 138 rfl rfl rfl rfl ?_
                                    | refine K.GL.skip0 138 rfl rfl rfl ?_
                                    | (refine K.GL.want 138 rfl rfl rfl ?_
                                       refine K.GL.det (K.e_move rfl) rfl ?_)
                                  first
                                    | refine K.GL.skip 138 rfl rfl rfl rfl ?_
                                    | refine K.GL.skipU 138 rfl rfl rfl rfl ?_
                                    | refine K.GL.skip0 138 rfl rfl rfl ?_
                                    | (refine K.GL.want 138 rfl rfl rfl ?_
                                       refine K.GL.det (ev_xmany_con (gx := gd) Try.call26 rfl ) rfl ?_)
                                  first
                                    | refine K.GL.skip 138 rfl rfl rfl rfl ?_
                                    | refine K.GL.skipU 138 rfl rfl rfl rfl ?_
                                    | refine K.GL.skip0 138 rfl rfl rfl ?_
                                    | (refine K.GL.want 138 rfl rfl rfl ?_
                                       refine K.GL.det (K.e_move rfl) rfl ?_)
                                  first
                                    | refine K.GL.skip 138 rfl rfl rfl rfl ?_
                                    | refine K.GL.skipU 138 rfl rfl rfl rfl ?_
                                    | refine K.GL.skip0 138 rfl rfl rfl ?_
                                    | (refine K.GL.want 138 rfl rfl rfl ?_
                                       refine gl_rmany_con (gr := gr) Try.call27 rfl  rfl (?_))
                                  first
                                    | refine K.GL.skip 138 rfl rfl rfl rfl ?_
                                    | refine K.GL.skipU 138 rfl rfl rfl rfl ?_
                                    | refine K.GL.skip0 138 rfl rfl rfl ?_
                                    | (refine K.GL.want 138 rfl rfl rfl ?_
                                       refine K.GL.det ((K.e_ne rfl rfl).no (by rw [IG.ents_length]; omega)) rfl ?_)
                                  first | refine K.GL.det (K.e_pick_t rfl rfl) rfl ?_ | refine K.GL.det (K.e_pick_f rfl rfl) rfl ?_
                                  refine K.GL.det (K.e_move rfl) rfl ?_
                                  first | refine K.GL.splitB 145 rfl (fun h32 => ?_) (fun h32 => ?_) | skip
                                  all_goals first | exact absurd h32 (by decide) | replace h32 := of_decide_eq_true h32 | replace h32 := of_decide_eq_false h32 | skip
                                  all_goals
                                    first
                                      | refine K.GL.skip 145 rfl rfl rfl rfl ?_
                                      | refine K.GL.skipU 145 rfl rfl rfl rfl ?_
                                      | refine K.GL.skip0 145 rfl rfl rfl ?_
                                      | (refine K.GL.want 145 rfl rfl rfl ?_
                                         refine K.GL.det (K.e_move rfl) rfl ?_)
                                    first
                                      | refine K.GL.skip 145 rfl rfl rfl rfl ?_
                                      | refine K.GL.skipU 145 rfl rfl rfl rfl ?_
                                      | refine K.GL.skip0 145 rfl rfl rfl ?_
                                      | (refine K.GL.want 145 rfl rfl rfl ?_
                                         refine K.GL.det (K.e_move rfl) rfl ?_)
                                    first
                                      | refine K.GL.skip 145 rfl rfl rfl rfl ?_
                                      | refine K.GL.skipU 145 rfl rfl rfl rfl ?_
                                      | refine K.GL.skip0 145 rfl rfl rfl ?_
                                      | (refine K.GL.want 145 rfl rfl rfl ?_
                                         refine gl_xin_con (gx := gd) (k := m) Try.call29 rfl hkd (by omega) rfl (fun a148 c148 => ?_))
                                    first
                                      | refine K.GL.skip 145 rfl rfl rfl rfl ?_
                                      | refine K.GL.skipU 145 rfl rfl rfl rfl ?_
                                      | refine K.GL.skip0 145 rfl rfl rfl ?_
                                      | (refine K.GL.want 145 rfl rfl rfl ?_
                                         refine K.GL.det (K.e_move rfl) rfl ?_)
                                    first
                                      | refine K.GL.skip 145 rfl rfl rfl rfl ?_
                                      | refine K.GL.skipU 145 rfl rfl rfl rfl ?_
                                      | refine K.GL.skip0 145 rfl rfl rfl ?_
                                      | (refine K.GL.want 145 rfl rfl rfl ?_
                                         refine K.GL.det (K.e_move rfl) rfl ?_)
                                    first
                                      | refine K.GL.skip 145 rfl rfl rfl rfl ?_
                                      | refine K.GL.skipU 145 rfl rfl rfl rfl ?_
                                      | refine K.GL.skip0 145 rfl rfl rfl ?_
                                      | (refine K.GL.want 145 rfl rfl rfl ?_
                                         refine gl_rin_con (gr := gr) (k := m) Try.call30 rfl hrz2 hnr rfl (fun a151 c151 => ?_)
                                         rw [in_eq hids2 hxs])
                                    first
                                      | refine K.GL.skip 145 rfl rfl rfl rfl ?_
                                      | refine K.GL.skipU 145 rfl rfl rfl rfl ?_
                                      | refine K.GL.skip0 145 rfl rfl rfl ?_
                                      | (refine K.GL.want 145 rfl rfl rfl ?_
                                         refine K.GL.det ((ev_xids_con (l := (gd.in_ m).map EX.id) (k := (gd.in_ m).map EX.id) Try.call28 rfl (by have := gd.in_length m; rw [List.length_map]; omega)).cast_bool (b := true) (decide_eq_true rfl)) rfl ?_)
                                    first
                                      | refine K.GL.skip 145 rfl rfl rfl rfl ?_
                                      | refine K.GL.skipU 145 rfl rfl rfl rfl ?_
                                      | refine K.GL.skip0 145 rfl rfl rfl ?_
                                      | (refine K.GL.want 145 rfl rfl rfl ?_
                                         first | refine K.GL.det (K.e_notp rfl) rfl ?_ | refine K.GL.det (K.e_not rfl) rfl ?_)
                                    first | refine K.GL.det (K.e_pick_t rfl rfl) rfl ?_ | refine K.GL.det (K.e_pick_f rfl rfl) rfl ?_
                                    refine K.GL.nil ?_
                                    refine K.GQ.go ?_
                                    refine K.GC.condB rfl (fun h33 => ?_) (fun h33 => ?_)
                                    · first
                                      | exact absurd h33 (by decide)
                                      | try replace h33 := of_decide_eq_true h33
                                        refine K.GC.seq ?_
                                        refine K.GC.region ?_
                                        refine K.GL.det (K.e_assign rfl) rfl ?_
                                        refine K.GL.nil ?_
                                        refine K.GQ.go ?_
                                        refine K.GC.ret ?_
                                        refine K.GQ.block_ret ?_
                                        refine K.GQ.then_ret ?_
                                        refine K.GQ.then_ret ?_
                                        refine K.GQ.block_ret ?_
                                        refine K.GQ.then_ret ?_
                                        refine K.GQ.ret1 Try.results5 rfl (fun w hT => ?_)
                                        exact ⟨rfl, hT.nil⟩
                                    · first
                                      | exact absurd h33 (by decide)
                                      | try replace h33 := of_decide_eq_false h33
                                        refine K.GC.skip ?_
                                        refine K.GQ.block_normal ?_
                                        refine K.GQ.go ?_
                                        refine K.GC.region ?_
                                        refine K.GL.det (K.e_move rfl) rfl ?_
                                        first | refine K.GL.det (K.e_add rfl rfl ⟨by omega, by omega⟩) rfl ?_ | refine K.GL.det (K.e_addw rfl rfl) rfl ?_
                                        refine K.GL.det (K.e_assign rfl) rfl ?_
                                        refine K.GL.nil ?_
                                        exact K.GQ.round ((z.1 + 1, gd, gr) : Nat × IG × RI) ⟨by show z.1 + 1 ≤ _; omega, hkd, h9r, hxs, hel⟩ (by simp only; omega) (by (repeat refine ⟨rfl, ?_⟩); exact trivial) (by first | exact K.sb | (dsimp only; exact K.sb))
        · first
          | exact absurd h4 (by decide)
          | try replace h4 := of_decide_eq_false h4
            refine K.GC.exit ?_
            refine K.GQ.then_exit ?_
            refine K.GQ.then_exit ?_
            refine K.GQ.block_hit ?_
            refine K.GQ.go ?_
            refine K.GC.seq ?_
            refine K.GC.region ?_
            refine K.GL.det (K.e_move rfl) rfl ?_
            refine K.GL.det (K.e_move rfl) rfl ?_
            first | refine K.GL.splitB 156 rfl (fun h34 => ?_) (fun h34 => ?_) | skip
            all_goals first | exact absurd h34 (by decide) | replace h34 := of_decide_eq_true h34 | replace h34 := of_decide_eq_false h34 | skip
            all_goals
              first
                | refine K.GL.skip 156 rfl rfl rfl rfl ?_
                | refine K.GL.skipU 156 rfl rfl rfl rfl ?_
                | refine K.GL.skip0 156 rfl rfl rfl ?_
                | (refine K.GL.want 156 rfl rfl rfl ?_
                   refine K.GL.det (K.e_move rfl) rfl ?_)
              first
                | refine K.GL.skip 156 rfl rfl rfl rfl ?_
                | refine K.GL.skipU 156 rfl rfl rfl rfl ?_
                | refine K.GL.skip0 156 rfl rfl rfl ?_
                | (refine K.GL.want 156 rfl rfl rfl ?_
                   refine gl_xall_con (gx := z.2.1) Try.call32 rfl hI.2.1 (by omega) rfl (fun l158 a158 c158 hl158 => ?_))
              first
                | refine K.GL.skip 156 rfl rfl rfl rfl ?_
                | refine K.GL.skipU 156 rfl rfl rfl rfl ?_
                | refine K.GL.skip0 156 rfl rfl rfl ?_
                | (refine K.GL.want 156 rfl rfl rfl ?_
                   refine K.GL.det (K.e_move rfl) rfl ?_)
              first
                | refine K.GL.skip 156 rfl rfl rfl rfl ?_
                | refine K.GL.skipU 156 rfl rfl rfl rfl ?_
                | refine K.GL.skip0 156 rfl rfl rfl ?_
                | (refine K.GL.want 156 rfl rfl rfl ?_
                   refine gl_rall_con (gr := z.2.2) Try.call33 rfl hI.2.2.1 hrz rfl (fun l160 a160 c160 hl160 hv160 => ?_))
              first
                | refine K.GL.skip 156 rfl rfl rfl rfl ?_
                | refine K.GL.skipU 156 rfl rfl rfl rfl ?_
                | refine K.GL.skip0 156 rfl rfl rfl ?_
                | (refine K.GL.want 156 rfl rfl rfl ?_
                   refine K.GL.det ((ev_xentries_con (l := l158) (k := l160) Try.call31 rfl (all_sv hI.2.1 hl158) (by have h := congrArg List.length hl158; rw [List.length_map, IG.all_length] at h; omega)).cast_bool (b := true) (decide_eq_true (by rw [hl158, hl160, hI.2.2.2.1]))) rfl ?_)
              first | refine K.GL.det (K.e_pick_t rfl rfl) rfl ?_ | refine K.GL.det (K.e_pick_f rfl rfl) rfl ?_
              refine K.GL.det (K.e_move rfl) rfl ?_
              first | refine K.GL.splitB 163 rfl (fun h35 => ?_) (fun h35 => ?_) | skip
              all_goals first | exact absurd h35 (by decide) | replace h35 := of_decide_eq_true h35 | replace h35 := of_decide_eq_false h35 | skip
              all_goals
                first
                  | refine K.GL.skip 163 rfl rfl rfl rfl ?_
                  | refine K.GL.skipU 163 rfl rfl rfl rfl ?_
                  | refine K.GL.skip0 163 rfl rfl rfl ?_
                  | (refine K.GL.want 163 rfl rfl rfl ?_
                     refine K.GL.det (K.e_move rfl) rfl ?_)
                first
                  | refine K.GL.skip 163 rfl rfl rfl rfl ?_
                  | refine K.GL.skipU 163 rfl rfl rfl rfl ?_
                  | refine K.GL.skip0 163 rfl rfl rfl ?_
                  | (refine K.GL.want 163 rfl rfl rfl ?_
                     refine gl_xitems_con (gx := z.2.1) Try.call35 rfl hI.2.1 (by omega) rfl (fun a165 c165 => ?_))
                first
                  | refine K.GL.skip 163 rfl rfl rfl rfl ?_
                  | refine K.GL.skipU 163 rfl rfl rfl rfl ?_
                  | refine K.GL.skip0 163 rfl rfl rfl ?_
                  | (refine K.GL.want 163 rfl rfl rfl ?_
                     refine K.GL.det (K.e_move rfl) rfl ?_)
                first
                  | refine K.GL.skip 163 rfl rfl rfl rfl ?_
                  | refine K.GL.skipU 163 rfl rfl rfl rfl ?_
                  | refine K.GL.skip0 163 rfl rfl rfl ?_
                  | (refine K.GL.want 163 rfl rfl rfl ?_
                     refine gl_ritems_con (gr := z.2.2) Try.call36 rfl hrz rfl (fun a167 c167 => ?_)
                     rw [hxe])
                first
                  | refine K.GL.skip 163 rfl rfl rfl rfl ?_
                  | refine K.GL.skipU 163 rfl rfl rfl rfl ?_
                  | refine K.GL.skip0 163 rfl rfl rfl ?_
                  | (refine K.GL.want 163 rfl rfl rfl ?_
                     refine K.GL.det ((ev_xitm_con (l := z.2.1.all) (k := z.2.1.all) Try.call34 rfl (by rw [IG.all_length]; omega)).cast_bool (b := true) (decide_eq_true rfl)) rfl ?_)
                first | refine K.GL.det (K.e_pick_t rfl rfl) rfl ?_ | refine K.GL.det (K.e_pick_f rfl rfl) rfl ?_
                refine K.GL.det (K.e_assign rfl) rfl ?_
                refine K.GL.nil ?_
                refine K.GQ.go ?_
                refine K.GC.ret ?_
                refine K.GQ.ret1 Try.results5 rfl (fun w hT => ?_)
                exact ⟨rfl, hT.nil⟩

set_option maxHeartbeats 1000000 in
set_option maxRecDepth 100000 in
theorem EntryPlays_lifted (os : Os) (started : os.Started) (H : Type) (enc : TypeId × Value → H) :
    ReturnsInHanded {} Try.checked os 5 .any (Rows.entryPlaysSpec.pre6 enc Try.prog Try.f5 Rows.entryPlaysRow.domain false) (Rows.entryPlaysSpec.post enc Try.prog Try.f5 false true false false) := by
  refine returnsInHanded_of_change_sized (C := Try.checked) own started (by kernel_rfl) Try.func5
    (ChangeSpec.witness6 (enc := enc) (C := Try.checked) false ⟨#[], #[.slice none 0 0, .int .i64 0], []⟩ 8 (by kernel_rfl) (by kernel_rfl) (by kernel_rfl) (by kernel_rfl)) ?_
  intro W base args ds gs before hval0 hW _ hsz0 _
  have hval : ∀ (j : Nat) t v, Try.f5.params[j]? = some t → args[j]? = some v → Value.okWide Try.prog W .any base t v := hval0
  have hsz : (DataW.weightsEach Try.prog (Try.f5.params.toList ++ []) (ds ++ gs)).all (· ≤ reachBytes) = true := hsz0
  have hW' := hW
  obtain ⟨p, q, hA0, hV, hpe, hfz, hnd⟩ := hW
  have hA : DataW.TrodAll enc Try.prog W 0 (fun _ => true) true Try.f5.params.toList args.toList ds p := hA0
  obtain ⟨rfl, rfl⟩ := trodVars_none hV
  rw [Try.params5] at hA hval hsz
  obtain ⟨v0, vs0, d0, ds0, p0, q0, hargs, rfl, rfl, h0, r0⟩ := trodAll_cons hA
  obtain ⟨v1, vs1, d1, ds1, p1, q1, rfl, rfl, rfl, h1, r1⟩ := trodAll_cons r0
  obtain ⟨rfl, rfl, rfl⟩ := trodAll_nil r1
  obtain rfl : args = #[v0, v1] := by cases args; simp_all
  clear hA0 hval0 hsz0 hA hargs
  obtain ⟨ax, nx, cx, rfl⟩ := okWide_slice Try.underlying22 (hval 0 22 _ rfl rfl)
  obtain ⟨fuelx, hfx⟩ := h0
  obtain ⟨ax', nx', cx', lx, hcsx, hnx, hSx, hGx⟩ := open_ops hfx
  have hcsx' : Value.slice ax nx cx = .slice ax' nx' cx' := by simpa [Value.cells] using hcsx
  simp only [Value.slice.injEq] at hcsx'
  obtain ⟨rfl, rfl, rfl⟩ := hcsx'
  unfold maxLen at hnx
  obtain ⟨y, rfl, rfl, rfl, wy⟩ := open_int Try.underlying2 (hval 1 2 _ rfl rfl) h1
  have core : Calls Try.prog 5 #[.slice ax nx cx, .int .i64 y] W fun e W' => e = .returned (.bool true) ∧ Tr W [] W' [] := by
    have hlx : nx = lx.length := (hSx.count (by omega) encP_len).symm
    have hox : Old W [] ax encOPX lx := Old.of0 rfl hlx rfl hSx
    have h := plays_con (w := W) (l := lx) (m := y) (a := ax) (c := cx) (by omega) hGx
    rw [← hlx] at h
    exact h
  exact core.mono fun e W' ⟨he, hT⟩ => ⟨_, he, law_post (tb := 4) hW' rfl rfl Try.underlying4 (fun _ => rfl) laidOut (by kernel_rfl) hT.below⟩
theorem EntryPlays_holds : Rows.EntryPlaysSaid :=
  OpenClaim.holds_of_wide 5 Try.f5 rfl rfl rfl rfl rfl rfl rfl ⟨rfl, rfl, rfl, rfl, rfl⟩ rfl rfl rfl rfl rfl (by kernel_rfl) Try.func5 (by kernel_rfl)
    (of_decide_eq_true (by kernel_rfl)) (by unfold Func.isWrapper; first | (rw [if_pos (by decide +kernel)]; kernel_rfl) | (rw [if_neg (by decide +kernel)]; exact ⟨rfl, rfl⟩))
    (fun os started H enc _ => EntryPlays_lifted os started H enc)

end Go.Proofs.Ytcphpcjcbmennaa
