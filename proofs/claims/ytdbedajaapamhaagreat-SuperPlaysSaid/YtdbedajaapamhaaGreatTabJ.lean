/- Sectors and numbers read by the reference. -/
import Derived.Test.YtdbedajaapamhaaGreatTabI
import Derived.Test.YtdbedajaapamhaaGreatKo
namespace Go.Proofs.YtdbedajaapamhaaGreat
open Go Go.K
set_option linter.unusedVariables false
set_option linter.unusedSimpArgs false
attribute [local irreducible] Calls Ev GL GC GQ GR Code.wp

theorem leN_drop {l : Bytes} {x : Nat} {q : UInt8} (h : l[x]? = some q) : leN (l.drop x) = (q.toNat : Int) + 256 * leN (l.drop (x + 1)) := by
  obtain ⟨h1, h2⟩ := List.getElem?_eq_some_iff.1 h
  rw [List.drop_eq_getElem_cons h1, h2]
  rfl

theorem leN_dropb (l : Bytes) (h : l.length ≤ 6) (x : Nat) : leN (l.drop x) < 281474976710656 := by
  have h1 := (leN_bd (l.drop x)).2
  have h2 : (256 : Nat) ^ (l.drop x).length ≤ 256 ^ 6 := Nat.pow_le_pow_right (by omega) (by rw [List.length_drop]; omega)
  have h3 := Int.ofNat_le.2 h2
  rw [Int.natCast_pow, Int.natCast_pow] at h3
  exact Int.lt_of_lt_of_le h1 h3

theorem rpad_len (l : Bytes) : ([b8 (l.length : Int)] ++ l).length = l.length + 1 := by simp

theorem rpad_eq {l : Bytes} (h : l.length ≤ 59) : [b8 (l.length : Int)] ++ l ++ List.replicate (59 - l.length) 0 = cbody l := by simp [cbody]

theorem rsum_eq {s p : Int} {l : Bytes} (h : l.length ≤ 59) : crcM 0#32 (f4 (BitVec.ofInt 32 s) ++ [b8 p] ++ cbody l) = sumOf s p (cbody l) := by
  unfold sumOf
  rw [List.take_of_length_le (by rw [cbody_len h]; omega)]
  rfl

/- turntable/turntableref09.number -/
set_option maxHeartbeats 1000000 in
set_option maxRecDepth 100000 in
theorem rnum_con {l : Bytes} {a : Option Addr} {c : Nat} {w : World} (hl : l.length ≤ 6) [Old w [] a (encB) (l)] :
    Calls Tryz.prog 54 #[.slice a l.length c] w fun e w' => e = .returned (.int .i64 (leN l)) ∧ Tr w [] w' [] := by
  refine K.enter0 (args := [_]) Tryz.func54 rfl Tryz.ntmps54 rfl ?_
  refine K.GC.seq ?_
  refine K.GC.region ?_
  refine K.GL.det (K.e_assign rfl) rfl ?_
  refine K.GL.nil ?_
  refine K.GQ.go ?_
  refine K.GC.seq ?_
  refine K.GC.region ?_
  refine K.GL.det (K.e_assign rfl) rfl ?_
  refine K.GL.nil ?_
  refine K.GQ.go ?_
  refine K.GC.seq ?_
  refine K.GC.seq ?_
  refine K.GC.region ?_
  refine K.GL.det (K.e_move rfl) rfl ?_
  refine K.GL.det (K.e_len Tryz.underlying32 rfl) rfl ?_
  first | refine K.GL.det (K.e_sub rfl rfl ⟨by omega, by omega⟩) rfl ?_ | refine K.GL.det (K.e_subw rfl rfl) rfl ?_
  refine K.GL.det (K.e_assign rfl) rfl ?_
  refine K.GL.nil ?_
  refine K.GQ.go ?_
  refine K.GC.block ?_
  refine K.GC.loopk (α := Nat) [0, 2, 20] rfl (fun x => [(3, .int .i64 (leN (l.drop x))), (4, .int .i64 ((x : Int) - 1))]) (fun x => []) (fun x => x ≤ l.length) (fun x => x) l.length (Nat.le_refl _) (by rw [List.drop_length]; (repeat refine ⟨rfl, ?_⟩); exact trivial) (by first | exact K.sb | (dsimp only; exact K.sb) | (simp only [List.take_zero, List.map_nil, List.flatMap_nil, List.append_nil]; exact K.sb) | exact K.Sub.refl _) (fun x hI => ?_)
  refine K.GC.seq ?_
  refine K.GC.seq ?_
  refine K.GC.region ?_
  refine K.GL.det (K.e_move rfl) rfl ?_
  first | refine K.GL.det ((K.e_ge rfl rfl).yes (by first | omega | assumption | decide +kernel)) rfl ?_ | refine K.GL.det ((K.e_ge rfl rfl).no (by first | omega | assumption | decide +kernel)) rfl ?_ | refine K.GL.det (K.e_ge rfl rfl) rfl ?_
  refine K.GL.nil ?_
  refine K.GQ.go ?_
  refine K.GC.condB rfl (fun h1 => ?_) (fun h1 => ?_)
  · first
    | exact absurd h1 (by decide)
    | try replace h1 := of_decide_eq_true h1
      refine K.GC.skip ?_
      refine K.GQ.go ?_
      refine K.GC.seq ?_
      refine K.GC.block ?_
      obtain ⟨i, rfl⟩ : ∃ i, x = i + 1 := ⟨x - 1, by omega⟩
      obtain ⟨q, hq⟩ : ∃ q, l[i]? = some q := get_ex (by omega)
      have hbd := leN_dropb l hl (i + 1)
      have hbp := leN_pos (l.drop (i + 1))
      have hqb := q.toNat_lt
      refine K.GC.region ?_
      refine K.GL.det (K.e_move rfl) rfl ?_
      first | refine K.GL.det (K.e_mul rfl rfl ⟨by omega, by omega⟩) rfl ?_ | refine K.GL.det (K.e_mulw rfl rfl) rfl ?_
      refine K.GL.det (K.e_move rfl) rfl ?_
      refine K.GL.det ((K.e_move rfl).cast_int (b := (i : Int)) (by omega)) rfl ?_
      first | refine K.GL.ixK sl32 rfl rfl rfl rfl (by assumption) rfl ?_ | refine K.GL.ix sl32 rfl rfl rfl rfl (by omega) rfl (fun q16 hq16 => ?_) | refine K.GL.ixI sl32 rfl rfl rfl rfl (by omega) (by omega) rfl (fun q16 hq16 => ?_) | refine K.GL.det (K.e_indexAddrS sl32 rfl rfl (by assumption) (by omega) (by omega)) rfl ?_ | refine K.GL.det (K.e_indexAddr sl32 rfl rfl (by omega) (by omega)) rfl ?_
      first | refine K.GL.det (K.e_ldE Tryz.isAgg5 rfl rfl (by assumption) rfl) rfl ?_ | refine K.GL.det (K.e_ldF Tryz.isAgg5 rfl rfl (by assumption) rfl) rfl ?_ | refine K.GL.det (K.e_load Tryz.isAgg5 rfl rfl) rfl ?_ | refine K.GL.det (K.e_load0 Tryz.isAgg5 rfl (by assumption)) rfl ?_
      refine K.GL.det (K.e_c64_8 Tryz.underlying5 Tryz.underlying2 rfl) rfl ?_
      first | refine K.GL.det (K.e_add rfl rfl ⟨by omega, by omega⟩) rfl ?_ | refine K.GL.det (K.e_addw rfl rfl) rfl ?_
      refine K.GL.det (K.e_assign rfl) rfl ?_
      refine K.GL.nil ?_
      refine K.GQ.block_normal ?_
      refine K.GQ.go ?_
      refine K.GC.region ?_
      refine K.GL.det (K.e_move rfl) rfl ?_
      first | refine K.GL.det (K.e_sub rfl rfl ⟨by omega, by omega⟩) rfl ?_ | refine K.GL.det (K.e_subw rfl rfl) rfl ?_
      refine K.GL.det (K.e_assign rfl) rfl ?_
      refine K.GL.nil ?_
      exact K.GQ.round i (by omega) (by omega) (by rw [leN_drop hq, Int.add_comm, show (((i + 1 : Nat) : Int) - 1 - 1) = (i : Int) - 1 by omega]; (repeat refine ⟨rfl, ?_⟩); exact trivial) (by first | exact K.sb | (dsimp only; exact K.sb))
  · first
    | exact absurd h1 (by decide)
    | try replace h1 := of_decide_eq_false h1
      refine K.GC.exit ?_
      refine K.GQ.then_exit ?_
      refine K.GQ.then_exit ?_
      refine K.GQ.block_hit ?_
      refine K.GQ.go ?_
      refine K.GC.seq ?_
      obtain rfl : x = 0 := by omega
      refine K.GC.region ?_
      refine K.GL.det (K.e_move rfl) rfl ?_
      refine K.GL.det (K.e_assign rfl) rfl ?_
      refine K.GL.nil ?_
      refine K.GQ.go ?_
      refine K.GC.ret ?_
      refine K.GQ.ret1 Tryz.results54 rfl (fun w hT => ?_)
      exact ⟨rfl, hT.nil⟩
section
variable {ops : Array Oper} {Q : Exit → Act → World → Prop} {N : Nat} {U : Env} {w0 : World} {L0 L F : List Res} {ty : TypeId} {rest : List Oper} {pos : String} {after : Array Edge} {xs : List Operand} {tys : Array TypeId} {dT : Tmp}
theorem ev_rnum_con {l : Bytes} {a : Option Addr} {c : Nat} (hf : ∀ args w, (callFunc 54 args).run Tryz.prog w = .ok (.enter 54 args) w) (hx : opvs U xs = some [.slice a l.length c]) (hl : l.length ≤ 6) [o0 : RdC w0 L0 [] L a (encB) (l)] : Ev Tryz.prog U w0 L0 L (.call ⟨.value (.func 54), xs.toArray, tys⟩) ty (Is (.int .i64 (leN l))) No :=
  K.e_call1 hf hx (fun w hT => by have _o0 := o0.out w hT; exact rnum_con hl)
end
/- turntable/turntableref08.Put -/
set_option maxHeartbeats 1000000 in
set_option maxRecDepth 100000 in
theorem rcput_con {s p : Int} {l : Bytes} {a : Option Addr} {c : Nat} {w : World} (hl : l.length < 9223372036854775807) [Old w [] a (encB) (l)] :
    Calls Tryz.prog 51 #[.int .i64 s, .int .i64 p, .slice a l.length c] w fun e w' => ∃ a' : Option Addr, ∃ c' : Nat, e = .returned (.slice a' (cput s p l).length c') ∧ Tr w [] w' [trow a' c' 5 encB (cput s p l)] := by
  refine K.enter0 (args := [_, _, _]) Tryz.func51 rfl Tryz.ntmps51 rfl ?_
  refine K.GC.seq ?_
  refine K.GC.region ?_
  refine K.GL.det (K.e_assign rfl) rfl ?_
  refine K.GL.nil ?_
  refine K.GQ.go ?_
  refine K.GC.seq ?_
  refine K.GC.seq ?_
  refine K.GC.region ?_
  refine K.GL.det (K.e_move rfl) rfl ?_
  refine K.GL.det (K.e_move rfl) rfl ?_
  refine K.GL.det (ev_rcright_con Tryz.call67 rfl ) rfl ?_
  first | refine K.GL.det (K.e_notp rfl) rfl ?_ | refine K.GL.det (K.e_not rfl) rfl ?_
  refine K.GL.det (K.e_move rfl) rfl ?_
  first | refine K.GL.splitB 13 rfl (fun h1 => ?_) (fun h1 => ?_) | skip
  all_goals first | exact absurd h1 (by decide) | replace h1 := of_decide_eq_true h1 | replace h1 := of_decide_eq_false h1 | skip
  all_goals
    first | (refine K.GL.want 13 rfl rfl rfl ?_; first | refine K.GL.det (K.e_move rfl) rfl ?_) | refine K.GL.skip 13 rfl rfl rfl rfl ?_ | refine K.GL.skipU 13 rfl rfl rfl rfl ?_
    first | (refine K.GL.want 13 rfl rfl rfl ?_; first | refine K.GL.det (K.e_len Tryz.underlying32 rfl) rfl ?_) | refine K.GL.skip 13 rfl rfl rfl rfl ?_ | refine K.GL.skipU 13 rfl rfl rfl rfl ?_
    first | (refine K.GL.want 13 rfl rfl rfl ?_; first | refine K.GL.det ((K.e_gt rfl rfl).yes (by first | omega | assumption | decide +kernel)) rfl ?_ | refine K.GL.det ((K.e_gt rfl rfl).no (by first | omega | assumption | decide +kernel)) rfl ?_ | refine K.GL.det (K.e_gt rfl rfl) rfl ?_) | refine K.GL.skip 13 rfl rfl rfl rfl ?_ | refine K.GL.skipU 13 rfl rfl rfl rfl ?_
    first | refine K.GL.det (K.e_pick_t rfl rfl) rfl ?_ | refine K.GL.det (K.e_pick_f rfl rfl) rfl ?_
    refine K.GL.nil ?_
    refine K.GQ.go ?_
    refine K.GC.condB rfl (fun h2 => ?_) (fun h2 => ?_)
    · first
      | exact absurd h2 (by decide)
      | try replace h2 := of_decide_eq_true h2
        refine K.GC.seq ?_
        refine K.GC.region ?_
        refine K.GL.det (K.e_assign rfl) rfl ?_
        refine K.GL.nil ?_
        refine K.GQ.go ?_
        refine K.GC.ret ?_
        refine K.GQ.then_ret ?_
        refine K.GQ.ret1 Tryz.results51 rfl (fun w hT => ?_)
        first
          | (have hp : cput s p l = [] := by unfold cput rightC; rw [if_neg (by rintro ⟨h3, h4⟩; have h5 := of_decide_eq_true h3; omega)]
             rw [hp]
             exact ⟨none, 0, rfl, hT.nil.trow_nil 5 encB⟩)
          | (have hp : cput s p l = cbody l ++ f4 (sumOf s p (cbody l)) := by unfold cput; rw [if_pos ⟨hrc, hl59⟩]
             rw [hp]
             exact ⟨_, _, rfl, hT.sub K.sb⟩)
    · first
      | exact absurd h2 (by decide)
      | try replace h2 := of_decide_eq_false h2
        refine K.GC.skip ?_
        refine K.GQ.go ?_
        refine K.GC.seq ?_
        have hl59 : l.length ≤ 59 := by omega
        have hrc : rightC s p = true := by unfold rightC; exact decide_eq_true (by omega)
        refine K.GC.region ?_
        refine K.GL.det (K.e_move rfl) rfl ?_
        refine K.GL.det (K.e_len Tryz.underlying32 rfl) rfl ?_
        refine K.GL.det (K.e_c8 Tryz.underlying3 Tryz.underlying5 rfl) rfl ?_
        refine K.GL.buildT encB [_] mk32 rfl rfl rfl rfl rfl (fun b21 => ?_)
        refine K.GL.det (K.e_move rfl) rfl ?_
        first | refine K.GL.appendT mk32 rfl rfl rfl rfl rfl (by first | omega | (simp only [List.length_cons, List.length_nil, List.length_append]; omega)) (by first | omega | (simp only [List.length_cons, List.length_nil, List.length_append]; omega)) rfl (fun a23 c23 => ?_) | (refine K.GL.trow0 5 encB ?_; refine K.GL.appendT mk32 rfl rfl rfl rfl rfl (by first | omega | (simp only [List.length_cons, List.length_nil, List.length_append]; omega)) (by first | omega | (simp only [List.length_cons, List.length_nil, List.length_append]; omega)) rfl (fun a23 c23 => ?_))
        refine K.GL.det (K.e_assign rfl) rfl ?_
        refine K.GL.nil ?_
        refine K.GQ.go ?_
        refine K.GC.seq ?_
        have hrp := rpad_len l
        refine K.GC.region ?_
        refine K.GL.det (K.e_move rfl) rfl ?_
        refine K.GL.det (K.e_move rfl) rfl ?_
        refine K.GL.det (K.e_len Tryz.underlying32 rfl) rfl ?_
        refine K.GL.det ((K.e_sub rfl rfl ⟨by omega, by omega⟩).cast_int (b := ((59 - l.length : Nat) : Int)) (by omega)) rfl ?_
        refine K.GL.appendZT (l := [b8 (l.length : Int)] ++ l) (m := 59 - l.length) (0 : UInt8) mk32 Tryz.underlying3 rfl rfl rfl rfl rfl rfl (by omega) (by omega) rfl (fun a28 c28 => ?_)
        rw [rpad_eq hl59]
        refine K.GL.det (K.e_assign rfl) rfl ?_
        refine K.GL.nil ?_
        refine K.GQ.go ?_
        refine K.GC.seq ?_
        have hcb := cbody_len hl59
        have h4 := f4_len (BitVec.ofInt 32 s)
        refine K.GC.region ?_
        refine K.GL.det (K.e_move rfl) rfl ?_
        refine K.GL.det (K.e_c32 Tryz.underlying2 Tryz.underlying71 rfl) rfl ?_
        refine gl_rfour_con Tryz.call69 rfl  rfl (fun a31 c31 => ?_)
        refine K.GL.det (K.e_move rfl) rfl ?_
        refine K.GL.det (K.e_c8 Tryz.underlying3 Tryz.underlying5 rfl) rfl ?_
        refine K.GL.buildT encB [_] mk32 rfl rfl rfl rfl rfl (fun b34 => ?_)
        first | refine K.GL.appendT mk32 rfl rfl rfl rfl rfl (by first | omega | (simp only [List.length_cons, List.length_nil, List.length_append]; omega)) (by first | omega | (simp only [List.length_cons, List.length_nil, List.length_append]; omega)) rfl (fun a35 c35 => ?_) | (refine K.GL.trow0 5 encB ?_; refine K.GL.appendT mk32 rfl rfl rfl rfl rfl (by first | omega | (simp only [List.length_cons, List.length_nil, List.length_append]; omega)) (by first | omega | (simp only [List.length_cons, List.length_nil, List.length_append]; omega)) rfl (fun a35 c35 => ?_))
        refine K.GL.det (K.e_move rfl) rfl ?_
        first | refine K.GL.appendT mk32 rfl rfl rfl rfl rfl (by first | omega | (simp only [List.length_cons, List.length_nil, List.length_append]; omega)) (by first | omega | (simp only [List.length_cons, List.length_nil, List.length_append]; omega)) rfl (fun a37 c37 => ?_) | (refine K.GL.trow0 5 encB ?_; refine K.GL.appendT mk32 rfl rfl rfl rfl rfl (by first | omega | (simp only [List.length_cons, List.length_nil, List.length_append]; omega)) (by first | omega | (simp only [List.length_cons, List.length_nil, List.length_append]; omega)) rfl (fun a37 c37 => ?_))
        refine K.GL.det (ev_rof_con Tryz.call68 rfl (by simp only [List.length_append, List.length_cons, List.length_nil]; omega)) rfl ?_
        refine K.GL.det (K.e_assign rfl) rfl ?_
        refine K.GL.nil ?_
        refine K.GQ.go ?_
        refine K.GC.seq ?_
        rw [rsum_eq hl59]
        have h6 := f4_len (sumOf s p (cbody l))
        refine K.GC.region ?_
        refine K.GL.det (K.e_move rfl) rfl ?_
        refine K.GL.det (K.e_move rfl) rfl ?_
        refine gl_rfour_con Tryz.call69 rfl  rfl (fun a41 c41 => ?_)
        first | refine K.GL.appendT mk32 rfl rfl rfl rfl rfl (by first | omega | (simp only [List.length_cons, List.length_nil, List.length_append]; omega)) (by first | omega | (simp only [List.length_cons, List.length_nil, List.length_append]; omega)) rfl (fun a42 c42 => ?_) | (refine K.GL.trow0 5 encB ?_; refine K.GL.appendT mk32 rfl rfl rfl rfl rfl (by first | omega | (simp only [List.length_cons, List.length_nil, List.length_append]; omega)) (by first | omega | (simp only [List.length_cons, List.length_nil, List.length_append]; omega)) rfl (fun a42 c42 => ?_))
        refine K.GL.det (K.e_assign rfl) rfl ?_
        refine K.GL.nil ?_
        refine K.GQ.go ?_
        refine K.GC.ret ?_
        refine K.GQ.ret1 Tryz.results51 rfl (fun w hT => ?_)
        first
          | (have hp : cput s p l = [] := by unfold cput rightC; rw [if_neg (by rintro ⟨h3, h4⟩; have h5 := of_decide_eq_true h3; omega)]
             rw [hp]
             exact ⟨none, 0, rfl, hT.nil.trow_nil 5 encB⟩)
          | (have hp : cput s p l = cbody l ++ f4 (sumOf s p (cbody l)) := by unfold cput; rw [if_pos ⟨hrc, hl59⟩]
             rw [hp]
             exact ⟨_, _, rfl, hT.sub K.sb⟩)
section
variable {ops : Array Oper} {Q : Exit → Act → World → Prop} {N : Nat} {U : Env} {w0 : World} {L0 L F : List Res} {ty : TypeId} {rest : List Oper} {pos : String} {after : Array Edge} {xs : List Operand} {tys : Array TypeId} {dT : Tmp}
theorem gl_rcput_con {s p : Int} {l : Bytes} {a : Option Addr} {c : Nat} (hf : ∀ args w, (callFunc 51 args).run Tryz.prog w = .ok (.enter 51 args) w) (hx : opvs U xs = some [.int .i64 s, .int .i64 p, .slice a l.length c]) (hl : l.length < 9223372036854775807) [o0 : RdC w0 L0 [] L a (encB) (l)] (hd : Nat.ble (dT + 1) N = true)
    (hr : ∀ (a' : Option Addr) (c' : Nat), GL Tryz.prog ops Q rest N ((dT, .slice a' (cput s p l).length c') :: U) w0 L0 (trow a' c' 5 encB (cput s p l) :: L)) : GL Tryz.prog ops Q (⟨some dT, .call ⟨.value (.func 51), xs.toArray, tys⟩, ty, pos, after, Option.none⟩ :: rest) N U w0 L0 L :=
  GL.callM (α := (Option Addr) × (Nat)) (l := []) (Pv := fun y v => v = .slice y.1 (cput s p l).length y.2) (l' := fun y => [trow y.1 y.2 5 encB (cput s p l)]) hf hx (Sub.refl _)
    (fun w hT => by
      have _o0 := o0.out w hT; exact (rcput_con hl).mono fun e w' ⟨a', c', h1, h2⟩ => ⟨(a', c'), _, h1, rfl, h2⟩) hd fun y v hv => by subst hv; exact hr y.1 y.2 
end
section
variable {ops : Array Oper} {Q : Exit → Act → World → Prop} {N : Nat} {U : Env} {w0 : World} {L0 L F : List Res} {ty : TypeId} {rest : List Oper} {pos : String} {after : Array Edge} {xs : List Operand} {tys : Array TypeId} {dT : Tmp}
end
end Go.Proofs.YtdbedajaapamhaaGreat
