/- The bytes of a sector. -/
import Derived.Test.YtdbedajaapamhaaGreatTabB
namespace Go.Proofs.YtdbedajaapamhaaGreat
open Go Go.K
set_option linter.unusedVariables false
set_option linter.unusedSimpArgs false
attribute [local irreducible] Calls Ev GL GC GQ GR Code.wp

/-- Slices of bytes that may be read, each of them. -/

class RdL (w0 : World) (L0 L : List Res) (l : List BR) : Prop where
  out : ∀ w, Tr w0 L0 w L → ∀ r ∈ l, Old w [] r.a encB r.l

instance RdL.nil {w0 : World} {L0 L : List Res} : RdL w0 L0 L [] := ⟨fun w hT r hr => by cases hr⟩

instance RdL.cons {w0 : World} {L0 L : List Res} {a : Option Addr} {c : Nat} {m : Bytes} {l : List BR} [h : RdC w0 L0 [] L a encB m] [h2 : RdL w0 L0 L l] : RdL w0 L0 L (⟨a, c, m⟩ :: l) := ⟨fun w hT r hr => by
  rcases List.mem_cons.1 hr with rfl | hr
  · exact h.out w hT
  · exact h2.out w hT r hr⟩

def catR (l : List BR) : Bytes := l.flatMap BR.l

theorem catR_next {l : List BR} {x : Nat} {q : BR} (h : l[x]? = some q) : catR (l.take (x + 1)) = catR (l.take x) ++ q.l := by
  unfold catR; rw [take_one h, List.flatMap_append]; simp

theorem catR_le (l : List BR) (x : Nat) : (catR (l.take x)).length ≤ (catR l).length := by
  have h : catR l = catR (l.take x) ++ catR (l.drop x) := by unfold catR; rw [← List.flatMap_append, List.take_append_drop]
  rw [h, List.length_append]; omega

/-! ### A sector's bytes -/

def seq32 (s : Int) : BitVec 32 := BitVec.ofInt 32 s

/-- What the sum of a sector is taken of. -/

def sumOf (s p : Int) (l : Bytes) : BitVec 32 := crcM 0#32 (f4 (seq32 s) ++ [b8 p] ++ l.take 60)

def rightC (s p : Int) : Bool := decide (1 ≤ s ∧ s ≤ 2147483648 ∧ 0 ≤ p ∧ p ≤ 255)

/-- A sector's bytes but its sum. -/

def cbody (l : Bytes) : Bytes := b8 l.length :: (l ++ List.replicate (59 - l.length) 0)

def cput (s p : Int) (l : Bytes) : Bytes := if rightC s p = true ∧ l.length ≤ 59 then cbody l ++ f4 (sumOf s p (cbody l)) else []

theorem cbody_len {l : Bytes} (h : l.length ≤ 59) : (cbody l).length = 60 := by simp [cbody]; omega

theorem cput_len {s p : Int} {l : Bytes} (h : rightC s p = true ∧ l.length ≤ 59) : (cput s p l).length = 64 := by
  unfold cput; rw [if_pos h, List.length_append, cbody_len h.2, f4_len]

def z1 (l : Bytes) : Bytes := (List.replicate 64 (0 : UInt8)).set 0 (b8 l.length)

def z2 (l : Bytes) : Bytes := (z1 l).take 1 ++ l ++ (z1 l).drop (1 + l.length)

def z3 (l : Bytes) (s p : Int) : Bytes := (z2 l).take 60 ++ f4 (sumOf s p (z2 l)) ++ (z2 l).drop 64

theorem z1_eq (l : Bytes) : z1 l = b8 l.length :: List.replicate 63 0 := rfl

theorem z2_eq {l : Bytes} (h : l.length ≤ 59) : z2 l = cbody l ++ List.replicate 4 0 := by
  unfold z2 cbody
  rw [z1_eq]
  have h1 : (1 + l.length) = l.length + 1 := by omega
  rw [List.take_succ_cons, List.take_zero, h1, List.drop_succ_cons, List.drop_replicate]
  have h2 : 63 - l.length = (59 - l.length) + 4 := by omega
  rw [h2, ← List.replicate_append_replicate]
  simp

theorem z2_len {l : Bytes} (h : l.length ≤ 59) : (z2 l).length = 64 := by rw [z2_eq h, List.length_append, cbody_len h]; rfl

theorem z2_take {l : Bytes} (h : l.length ≤ 59) : (z2 l).take 60 = cbody l := by
  rw [z2_eq h, List.take_append_of_le_length (by rw [cbody_len h]; omega), List.take_of_length_le (by rw [cbody_len h]; omega)]

theorem z3_eq {l : Bytes} {s p : Int} (h : rightC s p = true ∧ l.length ≤ 59) : z3 l s p = cput s p l := by
  unfold z3 cput
  rw [if_pos h, List.drop_of_length_le (by rw [z2_len h.2]; omega), List.append_nil, z2_take h.2]
  congr 2
  unfold sumOf
  rw [z2_take h.2, List.take_of_length_le (by rw [cbody_len h.2]; omega)]

theorem copy_fl {l m : Bytes} {o : Nat} : (encB.fl l).take o ++ encB.fl m ++ (encB.fl l).drop (o + m.length) = encB.fl (l.take o ++ m ++ l.drop (o + m.length)) := by
  have h1 := encB.fl_take l o
  have h2 := encB.fl_drop l (o + m.length)
  have hk : encB.k = 1 := rfl
  rw [hk, Nat.mul_one] at h1 h2
  rw [h1, h2, encB.fl_append, encB.fl_append]

theorem sum_cat (s p : Int) (l : Bytes) : crcM 0#32 (f4 (seq32 s) ++ ([b8 p] ++ (l.take 60 ++ []))) = sumOf s p l := by
  unfold sumOf; rw [List.append_nil, List.append_assoc]

/- slices.Grow[[]byte,byte] -/
set_option maxHeartbeats 1000000 in
set_option maxRecDepth 100000 in
theorem grow_con {n : Nat} {w : World} (hn : n < 1099511627776) :
    Calls Tryz.prog 94 #[.slice none 0 0, .int .i64 (n : Int)] w fun e w' => ∃ a' : Option Addr, ∃ c' : Nat, e = .returned (.slice a' ([] : Bytes).length c') ∧ Tr w [] w' [trow a' c' 5 encB []] := by
  refine K.enter0 (args := [_, _]) Tryz.func94 rfl Tryz.ntmps94 rfl ?_
  refine K.GC.seq ?_
  refine K.GC.region ?_
  refine K.GL.det (K.e_assign rfl) rfl ?_
  refine K.GL.nil ?_
  refine K.GQ.go ?_
  refine K.GC.seq ?_
  refine K.GC.seq ?_
  refine K.GC.region ?_
  refine K.GL.det (K.e_move rfl) rfl ?_
  first | refine K.GL.det ((K.e_lt rfl rfl).yes (by first | omega | assumption | decide +kernel)) rfl ?_ | refine K.GL.det ((K.e_lt rfl rfl).no (by first | omega | assumption | decide +kernel)) rfl ?_ | refine K.GL.det (K.e_lt rfl rfl) rfl ?_
  refine K.GL.nil ?_
  refine K.GQ.go ?_
  refine K.GC.condB rfl (fun h1 => ?_) (fun h1 => ?_)
  · first
    | exact absurd h1 (by decide)
    | try replace h1 := of_decide_eq_true h1
      exfalso; first | contradiction | omega | simp_all
  · first
    | exact absurd h1 (by decide)
    | try replace h1 := of_decide_eq_false h1
      refine K.GC.skip ?_
      refine K.GQ.go ?_
      refine K.GC.seq ?_
      refine K.GC.seq ?_
      refine K.GC.region ?_
      refine K.GL.det (K.e_move rfl) rfl ?_
      refine K.GL.det (K.e_move rfl) rfl ?_
      refine K.GL.det (K.e_cap Tryz.underlying32 rfl) rfl ?_
      refine K.GL.det (K.e_move rfl) rfl ?_
      refine K.GL.det (K.e_len Tryz.underlying32 rfl) rfl ?_
      first | refine K.GL.det (K.e_sub rfl rfl ⟨by omega, by omega⟩) rfl ?_ | refine K.GL.det (K.e_subw rfl rfl) rfl ?_
      refine K.GL.det ((K.e_sub rfl rfl ⟨by omega, by omega⟩).cast_int (b := (n : Int)) (by omega)) rfl ?_
      refine K.GL.det (K.e_assign rfl) rfl ?_
      refine K.GL.nil ?_
      refine K.GQ.go ?_
      refine K.GC.seq ?_
      refine K.GC.region ?_
      refine K.GL.det (K.e_move rfl) rfl ?_
      first | refine K.GL.det ((K.e_gt rfl rfl).yes (by first | omega | assumption | decide +kernel)) rfl ?_ | refine K.GL.det ((K.e_gt rfl rfl).no (by first | omega | assumption | decide +kernel)) rfl ?_ | refine K.GL.det (K.e_gt rfl rfl) rfl ?_
      refine K.GL.nil ?_
      refine K.GQ.go ?_
      refine K.GC.condB rfl (fun h2 => ?_) (fun h2 => ?_)
      · first
        | exact absurd h2 (by decide)
        | try replace h2 := of_decide_eq_true h2
          refine K.GC.region ?_
          refine K.GL.det (K.e_move rfl) rfl ?_
          refine K.GL.det (K.e_move rfl) rfl ?_
          refine K.GL.det (K.e_cap Tryz.underlying32 rfl) rfl ?_
          refine K.GL.det (K.e_sliceH sl32 rfl rfl (by omega) (by omega) (fun p hp => by cases hp)) rfl ?_
          refine K.GL.det (K.e_move rfl) rfl ?_
          refine K.GL.appendZ mk32 Tryz.underlying3 rfl rfl (by omega) (by omega) (by omega) rfl (fun b22 c22 hc22 => ?_)
          refine K.GL.det (K.e_move rfl) rfl ?_
          refine K.GL.det (K.e_len Tryz.underlying32 rfl) rfl ?_
          refine K.GL.det (K.e_sliceH sl32 rfl rfl (by omega) (by omega) (fun p hp => by cases hp; rfl)) rfl ?_
          refine K.GL.det (K.e_assign rfl) rfl ?_
          refine K.GL.nil ?_
          refine K.GQ.go ?_
          refine K.GC.seq ?_
          refine K.GC.region ?_
          refine K.GL.det (K.e_move rfl) rfl ?_
          refine K.GL.det (K.e_assign rfl) rfl ?_
          refine K.GL.nil ?_
          refine K.GQ.go ?_
          refine K.GC.ret ?_
          refine K.GQ.ret1 Tryz.results94 rfl (fun w hT => ?_)
          first
            | exact ⟨_, _, rfl, hT⟩
            | exact ⟨none, 0, rfl, hT.trow_nil 5 encB⟩
      · first
        | exact absurd h2 (by decide)
        | try replace h2 := of_decide_eq_false h2
          refine K.GC.skip ?_
          refine K.GQ.go ?_
          refine K.GC.seq ?_
          refine K.GC.region ?_
          refine K.GL.det (K.e_move rfl) rfl ?_
          refine K.GL.det (K.e_assign rfl) rfl ?_
          refine K.GL.nil ?_
          refine K.GQ.go ?_
          refine K.GC.ret ?_
          refine K.GQ.ret1 Tryz.results94 rfl (fun w hT => ?_)
          first
            | exact ⟨_, _, rfl, hT⟩
            | exact ⟨none, 0, rfl, hT.trow_nil 5 encB⟩
section
variable {ops : Array Oper} {Q : Exit → Act → World → Prop} {N : Nat} {U : Env} {w0 : World} {L0 L F : List Res} {ty : TypeId} {rest : List Oper} {pos : String} {after : Array Edge} {xs : List Operand} {tys : Array TypeId} {dT : Tmp}
theorem gl_grow_con {n : Nat} (hf : ∀ args w, (callFunc 94 args).run Tryz.prog w = .ok (.enter 94 args) w) (hx : opvs U xs = some [.slice none 0 0, .int .i64 (n : Int)]) (hn : n < 1099511627776) (hd : Nat.ble (dT + 1) N = true)
    (hr : ∀ (a' : Option Addr) (c' : Nat), GL Tryz.prog ops Q rest N ((dT, .slice a' ([] : Bytes).length c') :: U) w0 L0 (trow a' c' 5 encB [] :: L)) : GL Tryz.prog ops Q (⟨some dT, .call ⟨.value (.func 94), xs.toArray, tys⟩, ty, pos, after, Option.none⟩ :: rest) N U w0 L0 L :=
  GL.callM (α := (Option Addr) × (Nat)) (l := []) (Pv := fun y v => v = .slice y.1 ([] : Bytes).length y.2) (l' := fun y => [trow y.1 y.2 5 encB []]) hf hx (Sub.refl _)
    (fun w hT => by
      exact (grow_con hn).mono fun e w' ⟨a', c', h1, h2⟩ => ⟨(a', c'), _, h1, rfl, h2⟩) hd fun y v hv => by subst hv; exact hr y.1 y.2 
end
section
variable {ops : Array Oper} {Q : Exit → Act → World → Prop} {N : Nat} {U : Env} {w0 : World} {L0 L F : List Res} {ty : TypeId} {rest : List Oper} {pos : String} {after : Array Edge} {xs : List Operand} {tys : Array TypeId} {dT : Tmp}
end
theorem sl133 : K.slOf Tryz.prog 133 = some (32, 1) := by kernel_rfl
/- slices.Concat[[]byte,byte] -/
set_option maxHeartbeats 1000000 in
set_option maxRecDepth 100000 in
theorem conc_con {l : List BR} {a : Option Addr} {c : Nat} {w : World} (hl : l.length < 1000000) (hb : (catR l).length < 1000000) (hr : ∀ r ∈ l, Old w [] r.a encB r.l) [Old w [] a (encR) (l)] :
    Calls Tryz.prog 79 #[.slice a l.length c] w fun e w' => ∃ a' : Option Addr, ∃ c' : Nat, e = .returned (.slice a' (catR l).length c') ∧ Tr w [] w' [trow a' c' 5 encB (catR l)] := by
  refine K.enter0 (args := [_]) Tryz.func79 rfl Tryz.ntmps79 rfl ?_
  refine K.GC.seq ?_
  refine K.GC.region ?_
  refine K.GL.det (K.e_assign rfl) rfl ?_
  refine K.GL.nil ?_
  refine K.GQ.go ?_
  refine K.GC.seq ?_
  refine K.GC.region ?_
  refine K.GL.det (K.e_assign rfl) rfl ?_
  refine K.GL.nil ?_
  refine K.GQ.go ?_
  refine K.GC.seq ?_
  refine K.GC.seq ?_
  refine K.GC.region ?_
  refine K.GL.det (K.e_move rfl) rfl ?_
  refine K.GL.det (K.e_len Tryz.underlying133 rfl) rfl ?_
  refine K.GL.det (K.e_move rfl) rfl ?_
  refine K.GL.nil ?_
  refine K.GQ.go ?_
  refine K.GC.block ?_
  refine K.GC.loopk (α := Nat) [0, 2, 6, 8, 9, 10, 23, 24, 25, 26, 27, 28, 29, 30, 31, 32, 33, 34, 35] rfl (fun x => [(3, .int .i64 ((catR (l.take x)).length : Int)), (11, .int .i64 (x : Int))]) (fun x => []) (fun x => x ≤ l.length) (fun x => (l.length - x)) 0 (Nat.zero_le _) (by first | ((repeat refine ⟨rfl, ?_⟩); exact trivial) | (simp only [List.take_zero, List.map_nil, List.flatMap_nil, List.append_nil]; (repeat refine ⟨rfl, ?_⟩); exact trivial)) (by first | exact K.sb | (dsimp only; exact K.sb) | (simp only [List.take_zero, List.map_nil, List.flatMap_nil, List.append_nil]; exact K.sb) | exact K.Sub.refl _) (fun x hI => ?_)
  have hcl := catR_le l x
  refine K.GC.seq ?_
  refine K.GC.region ?_
  first | refine K.GL.det ((K.e_lt rfl rfl).yes (by first | omega | assumption | decide +kernel)) rfl ?_ | refine K.GL.det ((K.e_lt rfl rfl).no (by first | omega | assumption | decide +kernel)) rfl ?_ | refine K.GL.det (K.e_lt rfl rfl) rfl ?_
  refine K.GL.nil ?_
  refine K.GQ.go ?_
  refine K.GC.seq ?_
  refine K.GC.condB rfl (fun h1 => ?_) (fun h1 => ?_)
  · first
    | exact absurd h1 (by decide)
    | try replace h1 := of_decide_eq_true h1
      refine K.GC.skip ?_
      refine K.GQ.go ?_
      refine K.GC.seq ?_
      refine K.GC.block ?_
      refine K.GC.seq ?_
      refine K.GC.region ?_
      first | refine K.GL.ixK sl133 rfl rfl rfl rfl (by assumption) rfl ?_ | refine K.GL.ix sl133 rfl rfl rfl rfl (by omega) rfl (fun q13 hq13 => ?_) | refine K.GL.ixI sl133 rfl rfl rfl rfl (by omega) (by omega) rfl (fun q13 hq13 => ?_) | refine K.GL.det (K.e_indexAddrS sl133 rfl rfl (by assumption) (by omega) (by omega)) rfl ?_ | refine K.GL.det (K.e_indexAddr sl133 rfl rfl (by omega) (by omega)) rfl ?_
      first | refine K.GL.det (K.e_ldE Tryz.isAgg32 rfl rfl (by assumption) rfl) rfl ?_ | refine K.GL.det (K.e_ldF Tryz.isAgg32 rfl rfl (by assumption) rfl) rfl ?_ | refine K.GL.det (K.e_load Tryz.isAgg32 rfl rfl) rfl ?_ | refine K.GL.det (K.e_load0 Tryz.isAgg32 rfl (by assumption)) rfl ?_
      refine K.GL.det (K.e_assign rfl) rfl ?_
      refine K.GL.nil ?_
      refine K.GQ.go ?_
      refine K.GC.seq ?_
      have hcn := catR_le l (x + 1)
      rw [catR_next hq13, List.length_append] at hcn
      refine K.GC.region ?_
      refine K.GL.det (K.e_move rfl) rfl ?_
      refine K.GL.det (K.e_move rfl) rfl ?_
      refine K.GL.det (K.e_len Tryz.underlying32 rfl) rfl ?_
      first | refine K.GL.det (K.e_add rfl rfl ⟨by omega, by omega⟩) rfl ?_ | refine K.GL.det (K.e_addw rfl rfl) rfl ?_
      refine K.GL.det (K.e_assign rfl) rfl ?_
      refine K.GL.nil ?_
      refine K.GQ.go ?_
      refine K.GC.seq ?_
      refine K.GC.region ?_
      refine K.GL.det (K.e_move rfl) rfl ?_
      first | refine K.GL.det ((K.e_lt rfl rfl).yes (by first | omega | assumption | decide +kernel)) rfl ?_ | refine K.GL.det ((K.e_lt rfl rfl).no (by first | omega | assumption | decide +kernel)) rfl ?_ | refine K.GL.det (K.e_lt rfl rfl) rfl ?_
      refine K.GL.nil ?_
      refine K.GQ.go ?_
      refine K.GC.condB rfl (fun h2 => ?_) (fun h2 => ?_)
      · first
        | exact absurd h2 (by decide)
        | try replace h2 := of_decide_eq_true h2
          exfalso; first | contradiction | omega | simp_all
      · first
        | exact absurd h2 (by decide)
        | try replace h2 := of_decide_eq_false h2
          refine K.GC.skip ?_
          refine K.GQ.block_normal ?_
          refine K.GQ.go ?_
          refine K.GC.region ?_
          first | refine K.GL.det (K.e_add rfl rfl ⟨by omega, by omega⟩) rfl ?_ | refine K.GL.det (K.e_addw rfl rfl) rfl ?_
          refine K.GL.det (K.e_move rfl) rfl ?_
          refine K.GL.nil ?_
          exact K.GQ.round (x + 1) (by have := len_of hq13; omega) (by have := len_of hq13; omega) (by simp only [catR_next hq13, List.length_append, Int.natCast_add]; (repeat refine ⟨rfl, ?_⟩); exact trivial) (by first | exact K.sb | (dsimp only; exact K.sb))
  · first
    | exact absurd h1 (by decide)
    | try replace h1 := of_decide_eq_false h1
      refine K.GC.exit ?_
      refine K.GQ.then_exit ?_
      refine K.GQ.then_exit ?_
      refine K.GQ.block_hit ?_
      refine K.GQ.go ?_
      refine K.GC.seq ?_
      obtain rfl : x = l.length := by omega
      rw [List.take_length]
      refine K.GC.region ?_
      refine K.GL.det (K.e_move rfl) rfl ?_
      refine gl_grow_con Tryz.call94 rfl (by first | assumption | omega | rfl | decide) rfl (fun a24 c24 => ?_)
      refine K.GL.det (K.e_assign rfl) rfl ?_
      refine K.GL.nil ?_
      refine K.GQ.go ?_
      refine K.GC.seq ?_
      refine K.GC.seq ?_
      refine K.GC.region ?_
      refine K.GL.det (K.e_move rfl) rfl ?_
      refine K.GL.det (K.e_len Tryz.underlying133 rfl) rfl ?_
      refine K.GL.det (K.e_move rfl) rfl ?_
      refine K.GL.nil ?_
      refine K.GQ.go ?_
      refine K.GC.block ?_
      refine K.GC.loopk (α := Nat × Option Addr × Nat) [2, 25, 26, 35] rfl (fun x => [(6, .slice x.2.1 (catR (l.take x.1)).length x.2.2), (27, .int .i64 (x.1 : Int))]) (fun x => [trow x.2.1 x.2.2 5 encB (catR (l.take x.1))]) (fun x => x.1 ≤ l.length) (fun x => (l.length - x.1)) (0, a24, c24) (Nat.zero_le _) (by first | ((repeat refine ⟨rfl, ?_⟩); exact trivial) | (simp only [List.take_zero, List.map_nil, List.flatMap_nil, List.append_nil]; (repeat refine ⟨rfl, ?_⟩); exact trivial)) (K.Sub.refl _) (fun x hI => ?_)
      obtain ⟨x, a1, c1⟩ := x
      simp only at hI ⊢
      have hcl := catR_le l x
      refine K.GC.seq ?_
      refine K.GC.region ?_
      first | refine K.GL.det ((K.e_lt rfl rfl).yes (by first | omega | assumption | decide +kernel)) rfl ?_ | refine K.GL.det ((K.e_lt rfl rfl).no (by first | omega | assumption | decide +kernel)) rfl ?_ | refine K.GL.det (K.e_lt rfl rfl) rfl ?_
      refine K.GL.nil ?_
      refine K.GQ.go ?_
      refine K.GC.seq ?_
      refine K.GC.condB rfl (fun h3 => ?_) (fun h3 => ?_)
      · first
        | exact absurd h3 (by decide)
        | try replace h3 := of_decide_eq_true h3
          refine K.GC.skip ?_
          refine K.GQ.go ?_
          refine K.GC.seq ?_
          refine K.GC.block ?_
          refine K.GC.seq ?_
          refine K.GC.region ?_
          first | refine K.GL.ixK sl133 rfl rfl rfl rfl (by assumption) rfl ?_ | refine K.GL.ix sl133 rfl rfl rfl rfl (by omega) rfl (fun q29 hq29 => ?_) | refine K.GL.ixI sl133 rfl rfl rfl rfl (by omega) (by omega) rfl (fun q29 hq29 => ?_) | refine K.GL.det (K.e_indexAddrS sl133 rfl rfl (by assumption) (by omega) (by omega)) rfl ?_ | refine K.GL.det (K.e_indexAddr sl133 rfl rfl (by omega) (by omega)) rfl ?_
          first | refine K.GL.det (K.e_ldE Tryz.isAgg32 rfl rfl (by assumption) rfl) rfl ?_ | refine K.GL.det (K.e_ldF Tryz.isAgg32 rfl rfl (by assumption) rfl) rfl ?_ | refine K.GL.det (K.e_load Tryz.isAgg32 rfl rfl) rfl ?_ | refine K.GL.det (K.e_load0 Tryz.isAgg32 rfl (by assumption)) rfl ?_
          refine K.GL.det (K.e_assign rfl) rfl ?_
          refine K.GL.nil ?_
          refine K.GQ.go ?_
          have hcn := catR_le l (x + 1)
          rw [catR_next hq29, List.length_append] at hcn
          have ho29 := hr q29 (List.mem_of_getElem? hq29)
          refine K.GC.region ?_
          refine K.GL.det (K.e_move rfl) rfl ?_
          refine K.GL.det (K.e_move rfl) rfl ?_
          first | refine K.GL.appendT mk32 rfl rfl rfl rfl rfl (by first | omega | (simp only [List.length_cons, List.length_nil, List.length_append]; omega)) (by first | omega | (simp only [List.length_cons, List.length_nil, List.length_append]; omega)) rfl (fun a33 c33 => ?_) | (refine K.GL.trow0 5 encB ?_; refine K.GL.appendT mk32 rfl rfl rfl rfl rfl (by first | omega | (simp only [List.length_cons, List.length_nil, List.length_append]; omega)) (by first | omega | (simp only [List.length_cons, List.length_nil, List.length_append]; omega)) rfl (fun a33 c33 => ?_))
          refine K.GL.det (K.e_assign rfl) rfl ?_
          refine K.GL.nil ?_
          refine K.GQ.block_normal ?_
          refine K.GQ.go ?_
          refine K.GC.region ?_
          first | refine K.GL.det (K.e_add rfl rfl ⟨by omega, by omega⟩) rfl ?_ | refine K.GL.det (K.e_addw rfl rfl) rfl ?_
          refine K.GL.det (K.e_move rfl) rfl ?_
          refine K.GL.nil ?_
          exact K.GQ.round (x + 1, a33, c33) (by have := len_of hq29; simp only; omega) (by have := len_of hq29; simp only; omega) (by simp only [catR_next hq29]; (repeat refine ⟨rfl, ?_⟩); exact trivial) (by simp only [catR_next hq29]; exact K.sb)
      · first
        | exact absurd h3 (by decide)
        | try replace h3 := of_decide_eq_false h3
          refine K.GC.exit ?_
          refine K.GQ.then_exit ?_
          refine K.GQ.then_exit ?_
          refine K.GQ.block_hit ?_
          refine K.GQ.go ?_
          refine K.GC.seq ?_
          refine K.GC.region ?_
          refine K.GL.det (K.e_move rfl) rfl ?_
          refine K.GL.det (K.e_assign rfl) rfl ?_
          refine K.GL.nil ?_
          refine K.GQ.go ?_
          refine K.GC.ret ?_
          refine K.GQ.ret1 Tryz.results79 rfl (fun w hT => ?_)
          obtain rfl : x = l.length := by omega
          rw [List.take_length] at hT
          exact ⟨a1, c1, by rw [List.take_length], hT.sub K.sb⟩
section
variable {ops : Array Oper} {Q : Exit → Act → World → Prop} {N : Nat} {U : Env} {w0 : World} {L0 L F : List Res} {ty : TypeId} {rest : List Oper} {pos : String} {after : Array Edge} {xs : List Operand} {tys : Array TypeId} {dT : Tmp}
end
section
variable {ops : Array Oper} {Q : Exit → Act → World → Prop} {N : Nat} {U : Env} {w0 : World} {L0 L F : List Res} {ty : TypeId} {rest : List Oper} {pos : String} {after : Array Edge} {xs : List Operand} {tys : Array TypeId} {dT : Tmp}
theorem em_conc_con {l : List BR} {a : Option Addr} {c : Nat} (hf : ∀ args w, (callFunc 79 args).run Tryz.prog w = .ok (.enter 79 args) w) (hx : opvs U xs = some [.slice a l.length c]) (hl : l.length < 1000000) (hb : (catR l).length < 1000000) [o0 : RdC w0 L0 [] L a (encR) (l)] [i0 : RdL w0 L0 L l] : K.D.EvM Tryz.prog U w0 L0 L [] (.call ⟨.value (.func 79), xs.toArray, tys⟩) ty (fun g => .slice (g 0).1 (catR l).length (g 0).2) (fun g => True) (fun g => trow (g 0).1 (g 0).2 5 encB (catR l)) :=
  K.D.em_call hf hx fun w hT => by
    have hT1 := hT; have _o0 := o0.out w hT1; exact (conc_con hl hb (i0.out w hT)).mono fun e w' ⟨a', c', h1, h2⟩ => ⟨fun i => (a', c'), h1, trivial, h2⟩
end
theorem arr68 : K.arrOf Tryz.prog 68 = some (64, 5, 1) := by kernel_rfl
theorem mk133 : K.mkOf Tryz.prog 133 = some (32, [.slice none 0 0], 24) := by kernel_rfl
/- (*turntable/cell.sector).sum -/
set_option maxHeartbeats 2000000 in
set_option maxRecDepth 100000 in
theorem sum_con {b : Nat} {sl : Bytes} {s p : Int} {w : World} (hs : sl.length = 64) [Old w [] (some ⟨b, 0, none⟩) (encB) (sl)] :
    Calls Tryz.prog 66 #[.pointer (some ⟨b, 0, none⟩), .int .i64 s, .int .i64 p] w fun e w' => e = .returned (.agg (encB.fl (f4 (sumOf s p sl))).toArray) ∧ Tr w [] w' [] := by
  refine K.enter0 (args := [_, _, _]) Tryz.func66 rfl Tryz.ntmps66 rfl ?_
  refine K.GC.seq ?_
  refine K.GC.region ?_
  refine K.GL.alloc Tryz.zeroValue105 rfl rfl (fun b6 => ?_)
  refine K.GL.nil ?_
  refine K.GQ.go ?_
  refine K.GC.seq ?_
  refine K.GC.region ?_
  refine K.GL.det (K.e_move rfl) rfl ?_
  refine K.GL.det (K.e_c32 Tryz.underlying2 Tryz.underlying71 rfl) rfl ?_
  refine K.GL.det (ev_four_con Tryz.call77 rfl ) rfl ?_
  refine K.GL.alloc Tryz.zeroValue105 rfl rfl (fun b7 => ?_)
  refine K.GL.storeP (vs := encB.fl (f4 (seq32 s))) (cs' := encB.fl (f4 (seq32 s))) rfl rfl rfl Tryz.sizeOf105 rfl (encB.fl_one _) (by exact spliceO_all rfl) ?_
  refine K.GL.nil ?_
  refine K.GQ.go ?_
  refine K.GC.seq ?_
  refine K.D.GC.drawn0 11 [[], [], [1], [1, 2], [], [4], [4, 5], [0, 1, 2, 3, 4, 5, 6], [0, 1, 2, 3, 4, 5, 6, 7], [0, 1, 2, 3, 4, 5, 6, 7, 8], [0, 1, 2, 3, 4, 5, 6, 7, 8, 9], [0, 1, 2, 3, 4, 5, 6, 7, 8, 9, 10]] [[], [], [1], [2], [], [4], [5], [0, 3, 6], [3, 6, 7], [8], [9]] [[], [], [], [], [], [], [], [3], [3, 7], [8], []] [[], [], [], [], [], [], [], [], [], [], []] [] [0, 2, 6, 7] (by kernel_rfl) (by kernel_rfl) (by kernel_rfl) rfl ?_
  refine K.D.DW.det (b := []) (u := []) rfl rfl rfl (fun vs hf => K.e_sliceArr arr105 rfl) ?_
  refine K.D.DW.det (b := []) (u := []) rfl rfl rfl (fun vs hf => K.e_move rfl) ?_
  refine K.D.DW.det (b := [1]) (u := []) rfl rfl rfl (fun vs hf => K.e_c8 Tryz.underlying3 Tryz.underlying5 rfl) ?_
  refine K.D.DW.ev0 (b := [2]) (u := []) (a := []) rfl rfl rfl (fun vs hf => show K.D.EvM _ _ _ _ (_) [] _ _ _ _ _ from K.D.em_build encB [_] mk32 rfl rfl rfl rfl) ?_
  refine K.D.DW.det (b := []) (u := []) rfl rfl rfl (fun vs hf => K.e_move rfl) ?_
  refine K.D.DW.det (b := [4]) (u := []) rfl rfl rfl (fun vs hf => K.e_nilCheck rfl) ?_
  refine K.D.DW.ev0 (b := [5]) (u := []) (a := []) rfl rfl rfl (fun vs hf => show K.D.EvM _ _ _ _ (_) [] _ _ _ _ _ from K.D.em_arrH (j := 60) arr68 rfl rfl (by omega) (by omega)) ?_
  refine K.D.DW.ev (b := [0, 3, 6]) (u := [3]) (a := []) rfl rfl rfl (fun vs g => .slice (g 0).1 ([⟨some ⟨b7, 0, none⟩, 4, f4 (seq32 s)⟩, ⟨(vs 3 0).1, (vs 3 0).2, [b8 p]⟩, ⟨(vs 6 0).1, 64, sl.take 60⟩] : List BR).length (g 0).2) (fun _ _ => True) (fun vs g => trow (g 0).1 (g 0).2 32 encR [⟨some ⟨b7, 0, none⟩, 4, f4 (seq32 s)⟩, ⟨(vs 3 0).1, (vs 3 0).2, [b8 p]⟩, ⟨(vs 6 0).1, 64, sl.take 60⟩]) (fun vs ⟨hf14, hf17, _⟩ => show K.D.EvM _ _ _ _ (_ :: _) [] _ _ _ _ _ from K.D.em_build encR [⟨some ⟨b7, 0, none⟩, 4, f4 (seq32 s)⟩, ⟨(vs 3 0).1, (vs 3 0).2, [b8 p]⟩, ⟨(vs 6 0).1, 64, sl.take 60⟩] mk133 rfl rfl rfl rfl) ?_
  refine K.D.DW.ev (b := [3, 6, 7]) (u := [3, 7]) (a := []) rfl rfl rfl (fun _ g => .slice (g 0).1 (f4 (seq32 s) ++ ([b8 p] ++ (sl.take 60 ++ []))).length (g 0).2) (fun _ _ => True) (fun _ g => trow (g 0).1 (g 0).2 5 encB (f4 (seq32 s) ++ ([b8 p] ++ (sl.take 60 ++ [])))) (fun vs ⟨hf14, hf17, hf18, _⟩ => show K.D.EvM _ _ _ _ (_ :: _ :: _) [] _ _ _ _ _ from em_conc_con (l := [⟨some ⟨b7, 0, none⟩, 4, f4 (seq32 s)⟩, ⟨(vs 3 0).1, (vs 3 0).2, [b8 p]⟩, ⟨(vs 6 0).1, 64, sl.take 60⟩]) Tryz.call79 rfl (by simp only [List.length_cons, List.length_nil]; omega) (by simp only [catR, List.flatMap_cons, List.flatMap_nil, List.length_append, List.length_take, f4_len, List.length_cons, List.length_nil]; omega)) ?_
  refine K.D.DW.det (b := [8]) (u := [8]) rfl rfl rfl (fun vs ⟨hf19, _⟩ => show K.Ev _ _ _ _ (_ :: _) _ _ _ _ from (ev_of_con (l := f4 (seq32 s) ++ ([b8 p] ++ (sl.take 60 ++ []))) Tryz.call78 rfl (by simp only [List.length_append, List.length_take, f4_len, List.length_cons, List.length_nil]; omega)).cast (y := .int .u32 ((sumOf s p sl).toNat : Int)) (by rw [sum_cat])) ?_
  refine K.D.DW.det (b := [9]) (u := []) rfl rfl rfl (fun vs hf => ev_four_con Tryz.call77 rfl ) ?_
  refine K.D.DW.fin (fun vs hf => ?_)
  refine K.GL.keep [6, 21] rfl ?_
  refine K.D.GL.resE (L' := _) rfl ?_
  clear hf
  try clear vs
  refine K.GL.storeP (vs := encB.fl (f4 (sumOf s p sl))) (cs' := encB.fl (f4 (sumOf s p sl))) rfl rfl rfl Tryz.sizeOf105 rfl (encB.fl_one _) (by exact spliceO_all rfl) ?_
  refine K.GL.nil ?_
  refine K.GQ.go ?_
  refine K.GC.ret ?_
  refine K.GQ.retc Tryz.results66 Tryz.isAgg105 Tryz.sizeOf105 rfl rfl (fun w hT => ?_)
  exact ⟨rfl, hT.nil⟩
section
variable {ops : Array Oper} {Q : Exit → Act → World → Prop} {N : Nat} {U : Env} {w0 : World} {L0 L F : List Res} {ty : TypeId} {rest : List Oper} {pos : String} {after : Array Edge} {xs : List Operand} {tys : Array TypeId} {dT : Tmp}
theorem ev_sum_con {b : Nat} {sl : Bytes} {s p : Int} (hf : ∀ args w, (callFunc 66 args).run Tryz.prog w = .ok (.enter 66 args) w) (hx : opvs U xs = some [.pointer (some ⟨b, 0, none⟩), .int .i64 s, .int .i64 p]) (hs : sl.length = 64) [o0 : RdC w0 L0 [] L (some ⟨b, 0, none⟩) (encB) (sl)] : Ev Tryz.prog U w0 L0 L (.call ⟨.value (.func 66), xs.toArray, tys⟩) ty (Is (.agg (encB.fl (f4 (sumOf s p sl))).toArray)) No :=
  K.e_call1 hf hx (fun w hT => by have _o0 := o0.out w hT; exact sum_con hs)
end
theorem arr104 : K.arrOf Tryz.prog 104 = some (64, 5, 1) := by kernel_rfl
/- turntable/cell.Put -/
set_option maxHeartbeats 2000000 in
set_option maxRecDepth 100000 in
theorem cput_con {s p : Int} {l : Bytes} {a : Option Addr} {c : Nat} {w : World} (hl : l.length < 9223372036854775807) [Old w [] a (encB) (l)] :
    Calls Tryz.prog 49 #[.int .i64 s, .int .i64 p, .slice a l.length c] w fun e w' => ∃ a' : Option Addr, ∃ c' : Nat, e = .returned (.slice a' (cput s p l).length c') ∧ (cput s p l).length ≤ c' ∧ Tr w [] w' [trow a' c' 104 encB (cput s p l)] := by
  refine K.enter0 (args := [_, _, _]) Tryz.func49 rfl Tryz.ntmps49 rfl ?_
  refine K.GC.seq ?_
  refine K.GC.region ?_
  refine K.GL.det (K.e_assign rfl) rfl ?_
  refine K.GL.nil ?_
  refine K.GQ.go ?_
  refine K.GC.seq ?_
  refine K.GC.seq ?_
  refine K.GC.region ?_
  refine K.GL.det (K.e_move rfl) rfl ?_
  refine K.GL.det (K.e_move rfl) rfl ?_
  refine K.GL.det (ev_cright_con Tryz.call65 rfl ) rfl ?_
  first | refine K.GL.det (K.e_notp rfl) rfl ?_ | refine K.GL.det (K.e_not rfl) rfl ?_
  refine K.GL.det (K.e_move rfl) rfl ?_
  first | refine K.GL.splitB 13 rfl (fun h1 => ?_) (fun h1 => ?_) | skip
  all_goals first | exact absurd h1 (by decide) | replace h1 := of_decide_eq_true h1 | replace h1 := of_decide_eq_false h1 | skip
  all_goals
    first | (refine K.GL.want 13 rfl rfl rfl ?_; first | refine K.GL.det (K.e_move rfl) rfl ?_) | refine K.GL.skip 13 rfl rfl rfl rfl ?_ | refine K.GL.skipU 13 rfl rfl rfl rfl ?_
    first | (refine K.GL.want 13 rfl rfl rfl ?_; first | refine K.GL.det (K.e_len Tryz.underlying32 rfl) rfl ?_) | refine K.GL.skip 13 rfl rfl rfl rfl ?_ | refine K.GL.skipU 13 rfl rfl rfl rfl ?_
    first | (refine K.GL.want 13 rfl rfl rfl ?_; first | refine K.GL.det ((K.e_gt rfl rfl).yes (by first | omega | assumption | decide +kernel)) rfl ?_ | refine K.GL.det ((K.e_gt rfl rfl).no (by first | omega | assumption | decide +kernel)) rfl ?_ | refine K.GL.det (K.e_gt rfl rfl) rfl ?_) | refine K.GL.skip 13 rfl rfl rfl rfl ?_ | refine K.GL.skipU 13 rfl rfl rfl rfl ?_
    first | refine K.GL.det (K.e_pick_t rfl rfl) rfl ?_ | refine K.GL.det (K.e_pick_f rfl rfl) rfl ?_
    refine K.GL.nil ?_
    refine K.GQ.go ?_
    refine K.GC.condB rfl (fun h2 => ?_) (fun h2 => ?_)
    · first
      | exact absurd h2 (by decide)
      | try replace h2 := of_decide_eq_true h2
        refine K.GC.seq ?_
        refine K.GC.region ?_
        refine K.GL.det (K.e_assign rfl) rfl ?_
        refine K.GL.nil ?_
        refine K.GQ.go ?_
        refine K.GC.ret ?_
        refine K.GQ.then_ret ?_
        refine K.GQ.ret1 Tryz.results49 rfl (fun w hT => ?_)
        first
          | (have hc : cput s p l = [] := by unfold cput rightC; rw [if_neg (by rintro ⟨h3, h4⟩; have h5 := of_decide_eq_true h3; omega)]
             rw [hc]
             exact ⟨none, 0, rfl, by simp, hT.nil.trow_nil 104 encB⟩)
          | (have hr : rightC s p = true ∧ l.length ≤ 59 := ⟨by unfold rightC; exact decide_eq_true (by omega), by omega⟩
             rw [z3_eq hr] at hT
             have h64 := cput_len hr
             exact ⟨some ⟨b7, 0, none⟩, 64, by rw [h64], by omega, (hT.sub (L' := [cl b7 104 (encB.fl (cput s p l))]) K.sb).cl_row (by rw [encB.fl_length, h64])⟩)
    · first
      | exact absurd h2 (by decide)
      | try replace h2 := of_decide_eq_false h2
        refine K.GC.skip ?_
        refine K.GQ.go ?_
        refine K.GC.seq ?_
        refine K.GC.region ?_
        refine K.GL.alloc Tryz.zeroValue104 rfl rfl (fun b7 => ?_)
        refine K.GL.nil ?_
        refine K.GQ.go ?_
        refine K.GC.seq ?_
        refine K.GC.res (L' := [cl b7 104 (encB.fl (List.replicate 64 0))]) ?_ (K.Sub.refl _)
        refine K.GC.region ?_
        refine K.GL.det (K.e_move rfl) rfl ?_
        refine K.GL.det (K.e_len Tryz.underlying32 rfl) rfl ?_
        refine K.GL.det (K.e_c8 Tryz.underlying3 Tryz.underlying5 rfl) rfl ?_
        refine K.GL.det (K.e_indexAddrA arr104 rfl rfl (by omega) (by omega)) rfl ?_
        refine K.GL.storeP (vs := encB.f (b8 l.length)) (cs' := encB.fl (z1 l)) rfl rfl rfl Tryz.sizeOf5 rfl rfl (by exact encB.fl_set (l := List.replicate 64 0) (i := 0) (b8 l.length) (by decide)) ?_
        refine K.GL.nil ?_
        refine K.GQ.go ?_
        refine K.GC.seq ?_
        refine K.GC.region ?_
        refine K.GL.det (K.e_arrL arr68 rfl rfl (by omega) (by omega)) rfl ?_
        refine K.GL.det (K.e_move rfl) rfl ?_
        refine K.GL.copyB (o := 1) (cs' := encB.fl (z2 l)) Tryz.underlying32 (by kernel_rfl) rfl rfl rfl rfl (by omega) (by rw [encB.fl_length]; show 1 + l.length ≤ 64 * 1; omega) (by exact copy_fl.symm) rfl ?_
        refine K.GL.nil ?_
        refine K.GQ.go ?_
        refine K.GC.seq ?_
        refine K.GC.region ?_
        refine K.GL.det (K.e_move rfl) rfl ?_
        refine K.GL.det (K.e_move rfl) rfl ?_
        refine K.GL.det (ev_sum_con (sl := z2 l) Tryz.call66 rfl (z2_len (by omega))) rfl ?_
        refine K.GL.alloc Tryz.zeroValue105 rfl rfl (fun b8 => ?_)
        refine K.GL.storeP (vs := encB.fl (f4 (sumOf s p (z2 l)))) (cs' := encB.fl (f4 (sumOf s p (z2 l)))) rfl rfl rfl Tryz.sizeOf105 rfl (encB.fl_one _) (by exact spliceO_all rfl) ?_
        refine K.GL.nil ?_
        refine K.GQ.go ?_
        refine K.GC.seq ?_
        refine K.D.GC.drawn0 2 [[], [], [0, 1]] [[], []] [[], []] [[], []] [] [6, 7, 8, 31] (by kernel_rfl) (by kernel_rfl) (by kernel_rfl) rfl ?_
        refine K.D.DW.det (b := []) (u := []) rfl rfl rfl (fun vs hf => K.e_arrL arr68 rfl rfl (by omega) (by omega)) ?_
        refine K.D.DW.det (b := []) (u := []) rfl rfl rfl (fun vs hf => K.e_sliceArr arr105 rfl) ?_
        refine K.D.DW.fin (fun vs hf => ?_)
        refine K.GL.keep [6, 7, 28, 29, 31] rfl ?_
        refine K.D.GL.resE (L' := _) rfl ?_
        clear hf
        try clear vs
        refine K.GL.copyB (m := f4 (sumOf s p (z2 l))) (o := 60) (cs' := encB.fl (z3 l s p)) Tryz.underlying32 (by kernel_rfl) rfl rfl rfl rfl (by rw [f4_len]; decide) (by rw [encB.fl_length, z2_len (by omega), f4_len]; decide) (by exact copy_fl.symm) rfl ?_
        refine K.GL.nil ?_
        refine K.GQ.go ?_
        refine K.GC.seq ?_
        refine K.GC.region ?_
        refine K.GL.det (K.e_sliceArr arr104 rfl) rfl ?_
        refine K.GL.det (K.e_assign rfl) rfl ?_
        refine K.GL.nil ?_
        refine K.GQ.go ?_
        refine K.GC.ret ?_
        refine K.GQ.ret1 Tryz.results49 rfl (fun w hT => ?_)
        first
          | (have hc : cput s p l = [] := by unfold cput rightC; rw [if_neg (by rintro ⟨h3, h4⟩; have h5 := of_decide_eq_true h3; omega)]
             rw [hc]
             exact ⟨none, 0, rfl, by simp, hT.nil.trow_nil 104 encB⟩)
          | (have hr : rightC s p = true ∧ l.length ≤ 59 := ⟨by unfold rightC; exact decide_eq_true (by omega), by omega⟩
             rw [z3_eq hr] at hT
             have h64 := cput_len hr
             exact ⟨some ⟨b7, 0, none⟩, 64, by rw [h64], by omega, (hT.sub (L' := [cl b7 104 (encB.fl (cput s p l))]) K.sb).cl_row (by rw [encB.fl_length, h64])⟩)
section
variable {ops : Array Oper} {Q : Exit → Act → World → Prop} {N : Nat} {U : Env} {w0 : World} {L0 L F : List Res} {ty : TypeId} {rest : List Oper} {pos : String} {after : Array Edge} {xs : List Operand} {tys : Array TypeId} {dT : Tmp}
theorem gl_cput_con {s p : Int} {l : Bytes} {a : Option Addr} {c : Nat} (hf : ∀ args w, (callFunc 49 args).run Tryz.prog w = .ok (.enter 49 args) w) (hx : opvs U xs = some [.int .i64 s, .int .i64 p, .slice a l.length c]) (hl : l.length < 9223372036854775807) [o0 : RdC w0 L0 [] L a (encB) (l)] (hd : Nat.ble (dT + 1) N = true)
    (hr : ∀ (a' : Option Addr) (c' : Nat), (cput s p l).length ≤ c' → GL Tryz.prog ops Q rest N ((dT, .slice a' (cput s p l).length c') :: U) w0 L0 (trow a' c' 104 encB (cput s p l) :: L)) : GL Tryz.prog ops Q (⟨some dT, .call ⟨.value (.func 49), xs.toArray, tys⟩, ty, pos, after, Option.none⟩ :: rest) N U w0 L0 L :=
  GL.callM (α := (Option Addr) × (Nat)) (l := []) (Pv := fun y v => v = .slice y.1 (cput s p l).length y.2 ∧ (cput s p l).length ≤ y.2) (l' := fun y => [trow y.1 y.2 104 encB (cput s p l)]) hf hx (Sub.refl _)
    (fun w hT => by
      have _o0 := o0.out w hT; exact (cput_con hl).mono fun e w' ⟨a', c', h1, g0, h2⟩ => ⟨(a', c'), _, h1, ⟨rfl, g0⟩, h2⟩) hd fun y v hv => by obtain ⟨rfl, g0⟩ := hv; exact hr y.1 y.2 g0
end
section
variable {ops : Array Oper} {Q : Exit → Act → World → Prop} {N : Nat} {U : Env} {w0 : World} {L0 L F : List Res} {ty : TypeId} {rest : List Oper} {pos : String} {after : Array Edge} {xs : List Operand} {tys : Array TypeId} {dT : Tmp}
end
end Go.Proofs.YtdbedajaapamhaaGreat
