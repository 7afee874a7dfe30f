/- Are there too many calls? -/
import Derived.ProofKit
import Derived.OpenShut
import Derived.SizedLaws
import Derived.Lib.SmallJoins
import Derived.Test.YtcphpcjcbmennaaEntJ
namespace Go.Proofs.Ytcphpcjcbmennaa
open Go Go.K Go.ChangeShapes Go.WideShapes Go.ChangeAt Go.RowKit
set_option linter.unusedVariables false
set_option linter.unusedSimpArgs false
attribute [local irreducible] Calls Ev GL GC GQ GR Code.wp
theorem fo35_1 : K.fieldOff Try.prog 35 1 = some (33, 1, 13) := by kernel_rfl
theorem sl22 : K.slOf Try.prog 22 = some (35, 20) := by kernel_rfl
/- turntable/turntablelaw14.great -/
set_option maxHeartbeats 4000000 in
set_option maxRecDepth 100000 in
theorem great_con {a : Option Addr} {n c : Nat} {l : List OX} {w : World} (hL : Sl w 20 a n (l.flatMap encP)) (hG : ∀ q ∈ l, Sl w 1 q.ea q.e.sv.length (strs q.e.sv)) (hn : n ≤ 9223372036854775807) (hm : ∀ q ∈ l, q.e.sv.length ≤ 9223372036854775807) :
    Calls Try.prog 11 #[.slice a n c] w fun e w' => ∃ gr : Bool, e = .returned (.bool gr) ∧ (gr = false → n ≤ 200 ∧ ∀ q ∈ l, q.e.sv.length ≤ 9000) ∧ Tr w [] w' [] := by
  have hln : l.length = n := hL.count (by omega) encP_len
  refine K.enter0 (args := [_]) Try.func11 rfl Try.ntmps11 rfl ?_
  refine K.GC.seq ?_
  refine K.GC.region ?_
  refine K.GL.det (K.e_assign rfl) rfl ?_
  refine K.GL.nil ?_
  refine K.GQ.go ?_
  refine K.GC.seq ?_
  refine K.GC.region ?_
  refine K.GL.det (K.e_assign rfl) rfl ?_
  refine K.GL.nil ?_
  refine K.GQ.go ?_
  refine K.GC.seq ?_
  refine K.GC.seq ?_
  refine K.GC.region ?_
  refine K.GL.det (K.e_assign rfl) rfl ?_
  refine K.GL.nil ?_
  refine K.GQ.go ?_
  refine K.GC.block ?_
  refine K.GC.loopk (α := Nat × Int) [0, 2, 58, 59, 60, 61, 62, 63, 64] rfl (fun x => [(3, .int .i64 x.2), (4, .int .i64 (x.1 : Int))]) (fun x => []) (fun x => x.1 ≤ n ∧ 0 ≤ x.2 ∧ x.2 ≤ 18000 ∧ (x.2 < 9000 → ∀ j q, j < x.1 → l[j]? = some q → q.e.sv.length < 9000)) (fun x => (n - x.1)) (0, 0) ⟨by simp, by simp, by simp, fun _ j q hj => by simp at hj⟩ (by (repeat refine ⟨rfl, ?_⟩); exact trivial) (K.Sub.refl _) (fun x hI => ?_)
  obtain ⟨x, s⟩ := x
  obtain ⟨hx1, hx2, hx3, hx4⟩ := hI
  simp only at hx1 hx2 hx3 hx4 ⊢
  refine K.GC.seq ?_
  refine K.GC.seq ?_
  refine K.GC.region ?_
  refine K.GL.det (K.e_move rfl) rfl ?_
  refine K.GL.det (K.e_move rfl) rfl ?_
  refine K.GL.det (K.e_len Try.underlying22 rfl) rfl ?_
  first | refine K.GL.det ((K.e_lt rfl rfl).yes (by first | omega | assumption | decide +kernel)) rfl ?_ | refine K.GL.det ((K.e_lt rfl rfl).no (by first | omega | assumption | decide +kernel)) rfl ?_ | refine K.GL.det (K.e_lt rfl rfl) rfl ?_
  refine K.GL.det (K.e_move rfl) rfl ?_
  first | refine K.GL.splitB 10 rfl (fun h1 => ?_) (fun h1 => ?_) | skip
  all_goals first | exact absurd h1 (by decide) | replace h1 := of_decide_eq_true h1 | replace h1 := of_decide_eq_false h1 | skip
  all_goals
    first | (refine K.GL.want 10 rfl rfl rfl ?_; first | refine K.GL.det (K.e_move rfl) rfl ?_) | refine K.GL.skip 10 rfl rfl rfl rfl ?_ | refine K.GL.skipU 10 rfl rfl rfl rfl ?_
    first | (refine K.GL.want 10 rfl rfl rfl ?_; first | refine K.GL.det ((K.e_lt rfl rfl).yes (by first | omega | assumption | decide +kernel)) rfl ?_ | refine K.GL.det ((K.e_lt rfl rfl).no (by first | omega | assumption | decide +kernel)) rfl ?_ | refine K.GL.det (K.e_lt rfl rfl) rfl ?_) | refine K.GL.skip 10 rfl rfl rfl rfl ?_ | refine K.GL.skipU 10 rfl rfl rfl rfl ?_
    first | refine K.GL.det (K.e_pick_t rfl rfl) rfl ?_ | refine K.GL.det (K.e_pick_f rfl rfl) rfl ?_
    refine K.GL.nil ?_
    refine K.GQ.go ?_
    refine K.GC.condB rfl (fun h2 => ?_) (fun h2 => ?_)
    · first
      | exact absurd h2 (by decide)
      | try replace h2 := of_decide_eq_true h2
        refine K.GC.skip ?_
        refine K.GQ.go ?_
        refine K.GC.seq ?_
        refine K.GC.block ?_
        refine K.GC.seq ?_
        obtain ⟨q, hq⟩ : ∃ q, l[x]? = some q := get_ex (by omega)
        have hqs := hG q (List.mem_of_getElem? hq)
        have hqm := hm q (List.mem_of_getElem? hq)
        refine K.GC.region ?_
        refine K.GL.det (K.e_move rfl) rfl ?_
        first | refine K.GL.det (K.e_add rfl rfl ⟨by omega, by omega⟩) rfl ?_ | refine K.GL.det (K.e_addw rfl rfl) rfl ?_
        refine K.GL.det (K.e_move rfl) rfl ?_
        refine K.GL.det (K.e_move rfl) rfl ?_
        refine K.GL.det (K.e_indexAddrS sl22 rfl rfl hL (by omega) (by omega)) rfl ?_
        refine K.GL.det (K.e_fieldAddr fo35_1 rfl) rfl ?_
        refine K.GL.det (K.e_fieldAddr fo33_1 rfl) rfl ?_
        refine K.GL.det (K.e_fieldAddr fo31_4 rfl) rfl ?_
        refine K.GL.det (K.e_load_old Try.isAgg29 rfl (by exact (hL.item encP_len hq 10 _ rfl))) rfl ?_
        refine K.GL.det (K.e_len Try.underlying29 rfl) rfl ?_
        refine K.GL.det (K.e_min rfl rfl) rfl ?_
        first | refine K.GL.det (K.e_add rfl rfl ⟨by omega, by omega⟩) rfl ?_ | refine K.GL.det (K.e_addw rfl rfl) rfl ?_
        refine K.GL.det (K.e_assign rfl) rfl ?_
        refine K.GL.nil ?_
        refine K.GQ.go ?_
        refine K.GC.seq ?_
        refine K.GC.region ?_
        refine K.GL.det (K.e_assign rfl) rfl ?_
        refine K.GL.nil ?_
        refine K.GQ.go ?_
        refine K.GC.block ?_
        refine K.GC.loopk (α := Nat × Int) [0, 2, 4, 6, 7, 8, 9, 10, 11, 12, 13, 14, 15, 16, 17, 18, 19, 20, 21, 22, 23, 24, 25, 26, 27, 58, 59, 60, 61, 62, 63, 64] rfl (fun y => [(3, .int .i64 y.2), (5, .int .i64 (y.1 : Int))]) (fun y => []) (fun y => y.1 ≤ q.e.sv.length ∧ s + 1 + min (q.e.sv.length : Int) 9000 ≤ y.2 ∧ y.2 ≤ 18000) (fun y => (q.e.sv.length - y.1)) (0, s + 1 + min (q.e.sv.length : Int) 9000) ⟨by simp, by simp only; omega, by simp only; omega⟩ (by (repeat refine ⟨rfl, ?_⟩); exact trivial) (K.Sub.refl _) (fun y hI => ?_)
        obtain ⟨hy1, hy2, hy3⟩ := hI
        refine K.GC.seq ?_
        refine K.GC.seq ?_
        refine K.GC.region ?_
        refine K.GL.det (K.e_move rfl) rfl ?_
        refine K.GL.det (K.e_move rfl) rfl ?_
        refine K.GL.det (K.e_move rfl) rfl ?_
        refine K.GL.det (K.e_indexAddrS sl22 rfl rfl hL (by omega) (by omega)) rfl ?_
        refine K.GL.det (K.e_fieldAddr fo35_1 rfl) rfl ?_
        refine K.GL.det (K.e_fieldAddr fo33_1 rfl) rfl ?_
        refine K.GL.det (K.e_fieldAddr fo31_4 rfl) rfl ?_
        refine K.GL.det (K.e_load_old Try.isAgg29 rfl (by exact (hL.item encP_len hq 10 _ rfl))) rfl ?_
        refine K.GL.det (K.e_len Try.underlying29 rfl) rfl ?_
        first | refine K.GL.det ((K.e_lt rfl rfl).yes (by first | omega | assumption | decide +kernel)) rfl ?_ | refine K.GL.det ((K.e_lt rfl rfl).no (by first | omega | assumption | decide +kernel)) rfl ?_ | refine K.GL.det (K.e_lt rfl rfl) rfl ?_
        refine K.GL.det (K.e_move rfl) rfl ?_
        first | refine K.GL.splitB 38 rfl (fun h3 => ?_) (fun h3 => ?_) | skip
        all_goals first | exact absurd h3 (by decide) | replace h3 := of_decide_eq_true h3 | replace h3 := of_decide_eq_false h3 | skip
        all_goals
          first | (refine K.GL.want 38 rfl rfl rfl ?_; first | refine K.GL.det (K.e_move rfl) rfl ?_) | refine K.GL.skip 38 rfl rfl rfl rfl ?_ | refine K.GL.skipU 38 rfl rfl rfl rfl ?_
          first | (refine K.GL.want 38 rfl rfl rfl ?_; first | refine K.GL.det ((K.e_lt rfl rfl).yes (by first | omega | assumption | decide +kernel)) rfl ?_ | refine K.GL.det ((K.e_lt rfl rfl).no (by first | omega | assumption | decide +kernel)) rfl ?_ | refine K.GL.det (K.e_lt rfl rfl) rfl ?_) | refine K.GL.skip 38 rfl rfl rfl rfl ?_ | refine K.GL.skipU 38 rfl rfl rfl rfl ?_
          first | refine K.GL.det (K.e_pick_t rfl rfl) rfl ?_ | refine K.GL.det (K.e_pick_f rfl rfl) rfl ?_
          refine K.GL.nil ?_
          refine K.GQ.go ?_
          refine K.GC.condB rfl (fun h4 => ?_) (fun h4 => ?_)
          · first
            | exact absurd h4 (by decide)
            | try replace h4 := of_decide_eq_true h4
              refine K.GC.skip ?_
              refine K.GQ.go ?_
              refine K.GC.seq ?_
              refine K.GC.block ?_
              obtain ⟨p, hp⟩ : ∃ p, q.e.sv[y.1]? = some p := get_ex (by omega)
              refine K.GC.region ?_
              refine K.GL.det (K.e_move rfl) rfl ?_
              refine K.GL.det (K.e_move rfl) rfl ?_
              refine K.GL.det (K.e_move rfl) rfl ?_
              refine K.GL.det (K.e_indexAddrS sl22 rfl rfl hL (by omega) (by omega)) rfl ?_
              refine K.GL.det (K.e_fieldAddr fo35_1 rfl) rfl ?_
              refine K.GL.det (K.e_fieldAddr fo33_1 rfl) rfl ?_
              refine K.GL.det (K.e_fieldAddr fo31_4 rfl) rfl ?_
              refine K.GL.det (K.e_load_old Try.isAgg29 rfl (by exact (hL.item encP_len hq 10 _ rfl))) rfl ?_
              refine K.GL.det (K.e_move rfl) rfl ?_
              refine K.GL.det (K.e_indexAddrS sl29 rfl rfl hqs (by omega) (by omega)) rfl ?_
              refine K.GL.det (K.e_load_old Try.isAgg9 rfl (hqs.cell _ _ (strs_get hp (by omega)))) rfl ?_
              refine K.GL.det (K.e_lens Try.underlying9 rfl) rfl ?_
              refine K.GL.det (K.e_min rfl rfl) rfl ?_
              first | refine K.GL.det (K.e_add rfl rfl ⟨by omega, by omega⟩) rfl ?_ | refine K.GL.det (K.e_addw rfl rfl) rfl ?_
              refine K.GL.det (K.e_assign rfl) rfl ?_
              refine K.GL.nil ?_
              refine K.GQ.block_normal ?_
              refine K.GQ.go ?_
              refine K.GC.region ?_
              refine K.GL.det (K.e_move rfl) rfl ?_
              first | refine K.GL.det (K.e_add rfl rfl ⟨by omega, by omega⟩) rfl ?_ | refine K.GL.det (K.e_addw rfl rfl) rfl ?_
              refine K.GL.det (K.e_assign rfl) rfl ?_
              refine K.GL.nil ?_
              exact K.GQ.round (y.1 + 1, y.2 + min ((ByteArray.mk p.toArray).size : Int) 9000) ⟨by simp only; omega, by simp only; omega, by simp only; omega⟩ (by simp only; omega) (by (repeat refine ⟨rfl, ?_⟩); exact trivial) K.sub
          · first
            | exact absurd h4 (by decide)
            | try replace h4 := of_decide_eq_false h4
              refine K.GC.exit ?_
              refine K.GQ.then_exit ?_
              refine K.GQ.then_exit ?_
              refine K.GQ.block_hit ?_
              refine K.GQ.block_normal ?_
              refine K.GQ.go ?_
              refine K.GC.region ?_
              refine K.GL.det (K.e_move rfl) rfl ?_
              first | refine K.GL.det (K.e_add rfl rfl ⟨by omega, by omega⟩) rfl ?_ | refine K.GL.det (K.e_addw rfl rfl) rfl ?_
              refine K.GL.det (K.e_assign rfl) rfl ?_
              refine K.GL.nil ?_
              exact K.GQ.round (x + 1, y.2) ⟨by simp only; omega, by simp only; omega, by simp only; omega, fun h => great_next (hx4 (by simp only at h; omega)) hq (by simp only at h; omega)⟩ (by simp only; omega) (by (repeat refine ⟨rfl, ?_⟩); exact trivial) K.sub
    · first
      | exact absurd h2 (by decide)
      | try replace h2 := of_decide_eq_false h2
        refine K.GC.exit ?_
        refine K.GQ.then_exit ?_
        refine K.GQ.then_exit ?_
        refine K.GQ.block_hit ?_
        refine K.GQ.go ?_
        refine K.GC.seq ?_
        refine K.GC.region ?_
        refine K.GL.det (K.e_move rfl) rfl ?_
        first | refine K.GL.det ((K.e_ge rfl rfl).yes (by first | omega | assumption | decide +kernel)) rfl ?_ | refine K.GL.det ((K.e_ge rfl rfl).no (by first | omega | assumption | decide +kernel)) rfl ?_ | refine K.GL.det (K.e_ge rfl rfl) rfl ?_
        refine K.GL.det (K.e_move rfl) rfl ?_
        first | refine K.GL.splitB 60 rfl (fun h5 => ?_) (fun h5 => ?_) | skip
        all_goals first | exact absurd h5 (by decide) | replace h5 := of_decide_eq_true h5 | replace h5 := of_decide_eq_false h5 | skip
        all_goals
          first | (refine K.GL.want 60 rfl rfl rfl ?_; first | refine K.GL.det (K.e_move rfl) rfl ?_) | refine K.GL.skip 60 rfl rfl rfl rfl ?_ | refine K.GL.skipU 60 rfl rfl rfl rfl ?_
          first | (refine K.GL.want 60 rfl rfl rfl ?_; first | refine K.GL.det (K.e_len Try.underlying22 rfl) rfl ?_) | refine K.GL.skip 60 rfl rfl rfl rfl ?_ | refine K.GL.skipU 60 rfl rfl rfl rfl ?_
          first | (refine K.GL.want 60 rfl rfl rfl ?_; first | refine K.GL.det ((K.e_gt rfl rfl).yes (by first | omega | assumption | decide +kernel)) rfl ?_ | refine K.GL.det ((K.e_gt rfl rfl).no (by first | omega | assumption | decide +kernel)) rfl ?_ | refine K.GL.det (K.e_gt rfl rfl) rfl ?_) | refine K.GL.skip 60 rfl rfl rfl rfl ?_ | refine K.GL.skipU 60 rfl rfl rfl rfl ?_
          first | refine K.GL.det (K.e_pick_t rfl rfl) rfl ?_ | refine K.GL.det (K.e_pick_f rfl rfl) rfl ?_
          refine K.GL.det (K.e_assign rfl) rfl ?_
          refine K.GL.nil ?_
          refine K.GQ.go ?_
          refine K.GC.ret ?_
          refine K.GQ.ret1 Try.results11 rfl (fun w hT => ?_)
          first
            | exact ⟨true, rfl, fun h => absurd h (by decide), hT⟩
            | exact ⟨_, rfl, great_end (fun h => ⟨by omega, great_all (hx4 (by omega)) (by omega)⟩), hT⟩

section
variable {ops : Array Oper} {Q : Exit → Act → World → Prop} {N : Nat} {U : Env} {w0 : World} {L0 L F : List Res} {ty : TypeId} {rest : List Oper} {pos : String} {after : Array Edge} {d : Nat} {g : IG} {xs : List Operand} {tys : Array TypeId} {t : Tmp}
theorem gl_great {a : Option Addr} {n c : Nat} {l : List OX} (hf : ∀ args w, (callFunc 11 args).run Try.prog w = .ok (.enter 11 args) w) (hx : opvs U xs = some [.slice a n c])
    (hS : ∀ w, Tr w0 L0 w L → Sl w 20 a n (l.flatMap encP) ∧ ∀ q ∈ l, Sl w 1 q.ea q.e.sv.length (strs q.e.sv)) (hn : n ≤ 9223372036854775807) (hm : ∀ q ∈ l, q.e.sv.length ≤ 9223372036854775807) (hd : Nat.ble (t + 1) N = true)
    (hr : ∀ gr : Bool, (gr = false → n ≤ 200 ∧ ∀ q ∈ l, q.e.sv.length ≤ 9000) → GL Try.prog ops Q rest N ((t, .bool gr) :: U) w0 L0 L) : GL Try.prog ops Q (⟨some t, .call ⟨.value (.func 11), xs.toArray, tys⟩, ty, pos, after, Option.none⟩ :: rest) N U w0 L0 L :=
  GL.callM (α := Bool) (l := []) (Pv := fun gr v => v = .bool gr ∧ (gr = false → n ≤ 200 ∧ ∀ q ∈ l, q.e.sv.length ≤ 9000)) (l' := fun _ => []) hf hx (Sub.refl _)
    (fun w hT => (great_con (hS w hT).1 (hS w hT).2 hn hm).mono fun e w' ⟨gr, h1, h2, h3⟩ => ⟨gr, _, h1, ⟨rfl, h2⟩, h3⟩) hd fun gr v hv => by obtain ⟨rfl, h⟩ := hv; exact hr gr h
end

end Go.Proofs.Ytcphpcjcbmennaa
