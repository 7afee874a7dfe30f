/- Tables and what lies in a sector: simple questions. -/
import Derived.Test.YtdbedajaapamhaaGreatRows
import Derived.Test.YtdbedajaapamhaaGreatKm
namespace Go.Proofs.YtdbedajaapamhaaGreat
open Go Go.K
set_option linter.unusedVariables false
set_option linter.unusedSimpArgs false
attribute [local irreducible] Calls Ev GL GC GQ GR Code.wp

structure Ext where
  seq : Int
  len : Int
deriving instance DecidableEq for Ext

instance : Inhabited Ext := ⟨⟨0, 0⟩⟩

structure Tab where
  gen : Int
  opn : Int
  exts : List Ext
deriving instance DecidableEq for Tab

def encX : Enc Ext := ⟨fun x => [.int .i64 x.seq, .int .i64 x.len], 2, by decide, fun _ => rfl, fun _ => rfl⟩

def tabC (t : Tab) (a : Option Addr) (c : Nat) : List Value := [.int .i64 t.gen, .int .i64 t.opn, .slice a t.exts.length c]

def Ext.ok (x : Ext) : Bool := decide (0 ≤ x.seq ∧ x.seq ≤ 2147483648) && decide (0 ≤ x.len ∧ x.len ≤ 3776) && (decide (x.seq ≠ 0) || decide (x.len = 0))

def Ext.used (x : Ext) : Bool := decide (x.seq ≠ 0)

/-- A number's bytes, the least first. -/

def leB : Nat → Int → Bytes
  | 0, _ => []
  | k + 1, n => b8 n :: leB k (n / 256)

theorem leB_len : ∀ (k : Nat) (n : Int), (leB k n).length = k
  | 0, _ => rfl
  | k + 1, n => by simp [leB, leB_len k]

theorem leB_snoc : ∀ (k : Nat) (n : Int), leB (k + 1) n = leB k n ++ [b8 (n / 256 ^ k)]
  | 0, n => by simp [leB]
  | k + 1, n => by
    have h1 : leB (k + 2) n = b8 n :: leB (k + 1) (n / 256) := rfl
    rw [h1, leB_snoc k (n / 256), Int.ediv_ediv, if_neg (fun h => absurd h.1 (by decide)), Int.sub_zero]
    have : (256 : Int) * 256 ^ k = 256 ^ (k + 1) := by rw [Int.pow_succ, Int.mul_comm]
    rw [this]
    rfl

theorem shr_8 (n : Int) (k : Nat) (hk : k < 8) : n.fdiv (2 ^ (min (8 * (k : Int)).toNat IntKind.i64.bits)) = n / 256 ^ k := by
  have h1 : (8 * (k : Int)).toNat = 8 * k := by omega
  have h2 : min (8 * k) IntKind.i64.bits = 8 * k := by simp only [IntKind.bits]; omega
  rw [h1, h2, Int.pow_mul, Int.fdiv_eq_ediv_of_nonneg _ (Int.pow_nonneg (by omega))]
  rfl

/-- The number of bytes, the least first. -/

def leN : Bytes → Int
  | [] => 0
  | b :: l => (b.toNat : Int) + 256 * leN l

theorem leN_bd : ∀ l : Bytes, 0 ≤ leN l ∧ leN l < 256 ^ l.length
  | [] => by simp [leN]
  | b :: l => by
    have h := leN_bd l
    have hb := b.toNat_lt
    simp only [leN, List.length_cons, Int.pow_succ]
    omega

theorem leN_snoc : ∀ (l : Bytes) (b : UInt8), leN (l ++ [b]) = leN l + 256 ^ l.length * (b.toNat : Int)
  | [], b => by simp [leN]
  | c :: l, b => by
    simp only [List.cons_append, leN, leN_snoc l b, List.length_cons, Int.pow_succ]
    rw [Int.mul_add, ← Int.mul_assoc, Int.mul_comm 256 (256 ^ l.length)]
    omega

/-! ### A slice of slices of bytes -/

structure BR where
  a : Option Addr
  c : Nat
  l : Bytes

instance : Inhabited BR := ⟨⟨none, 0, []⟩⟩

def encR : Enc BR := ⟨fun x => [.slice x.a x.l.length x.c], 1, by decide, fun _ => rfl, fun _ => rfl⟩

def encW : Enc (BitVec 32) := ⟨fun r => [.int .u32 (r.toNat : Int)], 1, by decide, fun _ => rfl, fun _ => rfl⟩

/- turntable/table.within[int] -/
set_option maxHeartbeats 1000000 in
set_option maxRecDepth 100000 in
theorem wi_con {n lo hi : Int} {w : World} :
    Calls Tryz.prog 61 #[.int .i64 n, .int .i64 lo, .int .i64 hi] w fun e w' => e = .returned (.bool (decide (lo ≤ n ∧ n ≤ hi))) ∧ Tr w [] w' [] := by
  refine K.enter0 (args := [_, _, _]) Tryz.func61 rfl Tryz.ntmps61 rfl ?_
  refine K.GC.seq ?_
  refine K.GC.region ?_
  refine K.GL.det (K.e_assign rfl) rfl ?_
  refine K.GL.nil ?_
  refine K.GQ.go ?_
  refine K.GC.seq ?_
  refine K.GC.region ?_
  refine K.GL.det (K.e_move rfl) rfl ?_
  refine K.GL.det (K.e_move rfl) rfl ?_
  first | refine K.GL.det ((K.e_ge rfl rfl).yes (by first | omega | assumption | decide +kernel)) rfl ?_ | refine K.GL.det ((K.e_ge rfl rfl).no (by first | omega | assumption | decide +kernel)) rfl ?_ | refine K.GL.det (K.e_ge rfl rfl) rfl ?_
  refine K.GL.det (K.e_move rfl) rfl ?_
  first | refine K.GL.splitB 10 rfl (fun h1 => ?_) (fun h1 => ?_) | skip
  all_goals first | exact absurd h1 (by decide) | replace h1 := of_decide_eq_true h1 | replace h1 := of_decide_eq_false h1 | skip
  all_goals
    first | (refine K.GL.want 10 rfl rfl rfl ?_; first | refine K.GL.det (K.e_move rfl) rfl ?_) | refine K.GL.skip 10 rfl rfl rfl rfl ?_ | refine K.GL.skipU 10 rfl rfl rfl rfl ?_
    first | (refine K.GL.want 10 rfl rfl rfl ?_; first | refine K.GL.det (K.e_move rfl) rfl ?_) | refine K.GL.skip 10 rfl rfl rfl rfl ?_ | refine K.GL.skipU 10 rfl rfl rfl rfl ?_
    first | (refine K.GL.want 10 rfl rfl rfl ?_; first | refine K.GL.det ((K.e_le rfl rfl).yes (by first | omega | assumption | decide +kernel)) rfl ?_ | refine K.GL.det ((K.e_le rfl rfl).no (by first | omega | assumption | decide +kernel)) rfl ?_ | refine K.GL.det (K.e_le rfl rfl) rfl ?_) | refine K.GL.skip 10 rfl rfl rfl rfl ?_ | refine K.GL.skipU 10 rfl rfl rfl rfl ?_
    first | refine K.GL.det (K.e_pick_t rfl rfl) rfl ?_ | refine K.GL.det (K.e_pick_f rfl rfl) rfl ?_
    refine K.GL.det (K.e_assign rfl) rfl ?_
    refine K.GL.nil ?_
    refine K.GQ.go ?_
    refine K.GC.ret ?_
    refine K.GQ.ret1 Tryz.results61 rfl (fun w hT => ?_)
    exact ⟨by first | rfl | (simp only [Ending.returned.injEq, Value.bool.injEq]; symm; rw [decide_eq_decide]; omega) | (simp only [Ending.returned.injEq, Value.bool.injEq]; symm; first | exact decide_eq_true (by omega) | exact decide_eq_false (by omega)), hT.nil⟩
section
variable {ops : Array Oper} {Q : Exit → Act → World → Prop} {N : Nat} {U : Env} {w0 : World} {L0 L F : List Res} {ty : TypeId} {rest : List Oper} {pos : String} {after : Array Edge} {xs : List Operand} {tys : Array TypeId} {dT : Tmp}
theorem ev_wi_con {n lo hi : Int} (hf : ∀ args w, (callFunc 61 args).run Tryz.prog w = .ok (.enter 61 args) w) (hx : opvs U xs = some [.int .i64 n, .int .i64 lo, .int .i64 hi]) : Ev Tryz.prog U w0 L0 L (.call ⟨.value (.func 61), xs.toArray, tys⟩) ty (Is (.bool (decide (lo ≤ n ∧ n ≤ hi)))) No :=
  K.e_call1 hf hx (fun w hT => by exact wi_con )
end
/- turntable/table.within[int64] -/
set_option maxHeartbeats 1000000 in
set_option maxRecDepth 100000 in
theorem wl_con {n lo hi : Int} {w : World} :
    Calls Tryz.prog 60 #[.int .i64 n, .int .i64 lo, .int .i64 hi] w fun e w' => e = .returned (.bool (decide (lo ≤ n ∧ n ≤ hi))) ∧ Tr w [] w' [] := by
  refine K.enter0 (args := [_, _, _]) Tryz.func60 rfl Tryz.ntmps60 rfl ?_
  refine K.GC.seq ?_
  refine K.GC.region ?_
  refine K.GL.det (K.e_assign rfl) rfl ?_
  refine K.GL.nil ?_
  refine K.GQ.go ?_
  refine K.GC.seq ?_
  refine K.GC.region ?_
  refine K.GL.det (K.e_move rfl) rfl ?_
  refine K.GL.det (K.e_move rfl) rfl ?_
  first | refine K.GL.det ((K.e_ge rfl rfl).yes (by first | omega | assumption | decide +kernel)) rfl ?_ | refine K.GL.det ((K.e_ge rfl rfl).no (by first | omega | assumption | decide +kernel)) rfl ?_ | refine K.GL.det (K.e_ge rfl rfl) rfl ?_
  refine K.GL.det (K.e_move rfl) rfl ?_
  first | refine K.GL.splitB 10 rfl (fun h1 => ?_) (fun h1 => ?_) | skip
  all_goals first | exact absurd h1 (by decide) | replace h1 := of_decide_eq_true h1 | replace h1 := of_decide_eq_false h1 | skip
  all_goals
    first | (refine K.GL.want 10 rfl rfl rfl ?_; first | refine K.GL.det (K.e_move rfl) rfl ?_) | refine K.GL.skip 10 rfl rfl rfl rfl ?_ | refine K.GL.skipU 10 rfl rfl rfl rfl ?_
    first | (refine K.GL.want 10 rfl rfl rfl ?_; first | refine K.GL.det (K.e_move rfl) rfl ?_) | refine K.GL.skip 10 rfl rfl rfl rfl ?_ | refine K.GL.skipU 10 rfl rfl rfl rfl ?_
    first | (refine K.GL.want 10 rfl rfl rfl ?_; first | refine K.GL.det ((K.e_le rfl rfl).yes (by first | omega | assumption | decide +kernel)) rfl ?_ | refine K.GL.det ((K.e_le rfl rfl).no (by first | omega | assumption | decide +kernel)) rfl ?_ | refine K.GL.det (K.e_le rfl rfl) rfl ?_) | refine K.GL.skip 10 rfl rfl rfl rfl ?_ | refine K.GL.skipU 10 rfl rfl rfl rfl ?_
    first | refine K.GL.det (K.e_pick_t rfl rfl) rfl ?_ | refine K.GL.det (K.e_pick_f rfl rfl) rfl ?_
    refine K.GL.det (K.e_assign rfl) rfl ?_
    refine K.GL.nil ?_
    refine K.GQ.go ?_
    refine K.GC.ret ?_
    refine K.GQ.ret1 Tryz.results60 rfl (fun w hT => ?_)
    exact ⟨by first | rfl | (simp only [Ending.returned.injEq, Value.bool.injEq]; symm; rw [decide_eq_decide]; omega) | (simp only [Ending.returned.injEq, Value.bool.injEq]; symm; first | exact decide_eq_true (by omega) | exact decide_eq_false (by omega)), hT.nil⟩
section
variable {ops : Array Oper} {Q : Exit → Act → World → Prop} {N : Nat} {U : Env} {w0 : World} {L0 L F : List Res} {ty : TypeId} {rest : List Oper} {pos : String} {after : Array Edge} {xs : List Operand} {tys : Array TypeId} {dT : Tmp}
theorem ev_wl_con {n lo hi : Int} (hf : ∀ args w, (callFunc 60 args).run Tryz.prog w = .ok (.enter 60 args) w) (hx : opvs U xs = some [.int .i64 n, .int .i64 lo, .int .i64 hi]) : Ev Tryz.prog U w0 L0 L (.call ⟨.value (.func 60), xs.toArray, tys⟩) ty (Is (.bool (decide (lo ≤ n ∧ n ≤ hi)))) No :=
  K.e_call1 hf hx (fun w hT => by exact wl_con )
end
theorem fo82_0 : K.fieldOff Tryz.prog 82 0 = some (2, 0, 1) := by kernel_rfl
theorem fo82_1 : K.fieldOff Tryz.prog 82 1 = some (3, 1, 1) := by kernel_rfl
/- turntable/table.ext -/
set_option maxHeartbeats 1000000 in
set_option maxRecDepth 100000 in
theorem ext_con {x : Ext} {w : World} :
    Calls Tryz.prog 59 #[.agg (encX.f x).toArray] w fun e w' => e = .returned (.bool x.ok) ∧ Tr w [] w' [] := by
  refine K.enter0 (args := [_]) Tryz.func59 rfl Tryz.ntmps59 rfl ?_
  refine K.GC.seq ?_
  refine K.GC.region ?_
  refine K.GL.box rfl rfl rfl (fun b1 => ?_)
  refine K.GL.det (K.e_assign rfl) rfl ?_
  refine K.GL.nil ?_
  refine K.GQ.go ?_
  refine K.GC.seq ?_
  refine K.GC.region ?_
  first | refine K.GL.det (K.e_fa fo82_0 rfl) rfl ?_ | refine K.GL.det (K.e_fieldAddr fo82_0 rfl) rfl ?_
  first | refine K.GL.det (K.e_ldE Tryz.isAgg2 rfl rfl (by assumption) rfl) rfl ?_ | refine K.GL.det (K.e_ldF Tryz.isAgg2 rfl rfl (by assumption) rfl) rfl ?_ | refine K.GL.det (K.e_load Tryz.isAgg2 rfl rfl) rfl ?_ | refine K.GL.det (K.e_load0 Tryz.isAgg2 rfl (by assumption)) rfl ?_
  refine K.GL.det (ev_wl_con Tryz.call60 rfl ) rfl ?_
  refine K.GL.det (K.e_move rfl) rfl ?_
  first | refine K.GL.splitB 6 rfl (fun h1 => ?_) (fun h1 => ?_) | skip
  all_goals first | exact absurd h1 (by decide) | replace h1 := of_decide_eq_true h1 | replace h1 := of_decide_eq_false h1 | skip
  all_goals
    first | (refine K.GL.want 6 rfl rfl rfl ?_; first | refine K.GL.det (K.e_fa fo82_1 rfl) rfl ?_ | refine K.GL.det (K.e_fieldAddr fo82_1 rfl) rfl ?_) | refine K.GL.skip 6 rfl rfl rfl rfl ?_ | refine K.GL.skipU 6 rfl rfl rfl rfl ?_
    first | (refine K.GL.want 6 rfl rfl rfl ?_; first | refine K.GL.det (K.e_ldE Tryz.isAgg3 rfl rfl (by assumption) rfl) rfl ?_ | refine K.GL.det (K.e_ldF Tryz.isAgg3 rfl rfl (by assumption) rfl) rfl ?_ | refine K.GL.det (K.e_load Tryz.isAgg3 rfl rfl) rfl ?_ | refine K.GL.det (K.e_load0 Tryz.isAgg3 rfl (by assumption)) rfl ?_) | refine K.GL.skip 6 rfl rfl rfl rfl ?_ | refine K.GL.skipU 6 rfl rfl rfl rfl ?_
    first | (refine K.GL.want 6 rfl rfl rfl ?_; first | refine K.GL.det (ev_wi_con Tryz.call61 rfl ) rfl ?_) | refine K.GL.skip 6 rfl rfl rfl rfl ?_ | refine K.GL.skipU 6 rfl rfl rfl rfl ?_
    first | refine K.GL.det (K.e_pick_t rfl rfl) rfl ?_ | refine K.GL.det (K.e_pick_f rfl rfl) rfl ?_
    refine K.GL.det (K.e_move rfl) rfl ?_
    first | refine K.GL.splitB 11 rfl (fun h2 => ?_) (fun h2 => ?_) | skip
    all_goals first | exact absurd h2 (by decide) | replace h2 := of_decide_eq_true h2 | replace h2 := of_decide_eq_false h2 | skip
    all_goals
      first | (refine K.GL.want 11 rfl rfl rfl ?_; first | refine K.GL.det (K.e_fa fo82_0 rfl) rfl ?_ | refine K.GL.det (K.e_fieldAddr fo82_0 rfl) rfl ?_) | refine K.GL.skip 11 rfl rfl rfl rfl ?_ | refine K.GL.skipU 11 rfl rfl rfl rfl ?_
      first | (refine K.GL.want 11 rfl rfl rfl ?_; first | refine K.GL.det (K.e_ldE Tryz.isAgg2 rfl rfl (by assumption) rfl) rfl ?_ | refine K.GL.det (K.e_ldF Tryz.isAgg2 rfl rfl (by assumption) rfl) rfl ?_ | refine K.GL.det (K.e_load Tryz.isAgg2 rfl rfl) rfl ?_ | refine K.GL.det (K.e_load0 Tryz.isAgg2 rfl (by assumption)) rfl ?_) | refine K.GL.skip 11 rfl rfl rfl rfl ?_ | refine K.GL.skipU 11 rfl rfl rfl rfl ?_
      first | (refine K.GL.want 11 rfl rfl rfl ?_; first | refine K.GL.det ((K.e_ne rfl rfl).yes (by first | omega | assumption | decide +kernel)) rfl ?_ | refine K.GL.det ((K.e_ne rfl rfl).no (by first | omega | assumption | decide +kernel)) rfl ?_ | refine K.GL.det (K.e_ne rfl rfl) rfl ?_) | refine K.GL.skip 11 rfl rfl rfl rfl ?_ | refine K.GL.skipU 11 rfl rfl rfl rfl ?_
      first | (refine K.GL.want 11 rfl rfl rfl ?_; first | refine K.GL.det (K.e_move rfl) rfl ?_) | refine K.GL.skip 11 rfl rfl rfl rfl ?_ | refine K.GL.skipU 11 rfl rfl rfl rfl ?_
      first | refine K.GL.splitB 15 rfl (fun h3 => ?_) (fun h3 => ?_) | skip
      all_goals first | exact absurd h3 (by decide) | replace h3 := of_decide_eq_true h3 | replace h3 := of_decide_eq_false h3 | skip
      all_goals
        first | (refine K.GL.want 15 rfl rfl rfl ?_; first | refine K.GL.det (K.e_fa fo82_1 rfl) rfl ?_ | refine K.GL.det (K.e_fieldAddr fo82_1 rfl) rfl ?_) | refine K.GL.skip 15 rfl rfl rfl rfl ?_ | refine K.GL.skipU 15 rfl rfl rfl rfl ?_
        first | (refine K.GL.want 15 rfl rfl rfl ?_; first | refine K.GL.det (K.e_ldE Tryz.isAgg3 rfl rfl (by assumption) rfl) rfl ?_ | refine K.GL.det (K.e_ldF Tryz.isAgg3 rfl rfl (by assumption) rfl) rfl ?_ | refine K.GL.det (K.e_load Tryz.isAgg3 rfl rfl) rfl ?_ | refine K.GL.det (K.e_load0 Tryz.isAgg3 rfl (by assumption)) rfl ?_) | refine K.GL.skip 15 rfl rfl rfl rfl ?_ | refine K.GL.skipU 15 rfl rfl rfl rfl ?_
        first | (refine K.GL.want 15 rfl rfl rfl ?_; first | refine K.GL.det ((K.e_eq rfl rfl).yes (by first | omega | assumption | decide +kernel)) rfl ?_ | refine K.GL.det ((K.e_eq rfl rfl).no (by first | omega | assumption | decide +kernel)) rfl ?_ | refine K.GL.det (K.e_eq rfl rfl) rfl ?_) | refine K.GL.skip 15 rfl rfl rfl rfl ?_ | refine K.GL.skipU 15 rfl rfl rfl rfl ?_
        first | (refine K.GL.want 11 rfl rfl rfl ?_; first | refine K.GL.det (K.e_pick_t rfl rfl) rfl ?_ | refine K.GL.det (K.e_pick_f rfl rfl) rfl ?_) | refine K.GL.skip 11 rfl rfl rfl rfl ?_ | refine K.GL.skipU 11 rfl rfl rfl rfl ?_
        first | refine K.GL.det (K.e_pick_t rfl rfl) rfl ?_ | refine K.GL.det (K.e_pick_f rfl rfl) rfl ?_
        refine K.GL.det (K.e_assign rfl) rfl ?_
        refine K.GL.nil ?_
        refine K.GQ.go ?_
        refine K.GC.ret ?_
        refine K.GQ.ret1 Tryz.results59 rfl (fun w hT => ?_)
        exact ⟨by first | rfl | (simp only [Ending.returned.injEq, Value.bool.injEq]; simp_all [Ext.ok]; done) | (simp only [Ending.returned.injEq, Value.bool.injEq]; grind [Ext.ok]), hT.nil⟩
section
variable {ops : Array Oper} {Q : Exit → Act → World → Prop} {N : Nat} {U : Env} {w0 : World} {L0 L F : List Res} {ty : TypeId} {rest : List Oper} {pos : String} {after : Array Edge} {xs : List Operand} {tys : Array TypeId} {dT : Tmp}
theorem ev_ext_con {x : Ext} (hf : ∀ args w, (callFunc 59 args).run Tryz.prog w = .ok (.enter 59 args) w) (hx : opvs U xs = some [.agg (encX.f x).toArray]) : Ev Tryz.prog U w0 L0 L (.call ⟨.value (.func 59), xs.toArray, tys⟩) ty (Is (.bool x.ok)) No :=
  K.e_call1 hf hx (fun w hT => by exact ext_con )
end
/- turntable/table.used -/
set_option maxHeartbeats 1000000 in
set_option maxRecDepth 100000 in
theorem used_con {x : Ext} {w : World} :
    Calls Tryz.prog 64 #[.agg (encX.f x).toArray] w fun e w' => e = .returned (.bool x.used) ∧ Tr w [] w' [] := by
  refine K.enter0 (args := [_]) Tryz.func64 rfl Tryz.ntmps64 rfl ?_
  refine K.GC.seq ?_
  refine K.GC.region ?_
  refine K.GL.box rfl rfl rfl (fun b1 => ?_)
  refine K.GL.det (K.e_assign rfl) rfl ?_
  refine K.GL.nil ?_
  refine K.GQ.go ?_
  refine K.GC.seq ?_
  refine K.GC.region ?_
  first | refine K.GL.det (K.e_fa fo82_0 rfl) rfl ?_ | refine K.GL.det (K.e_fieldAddr fo82_0 rfl) rfl ?_
  first | refine K.GL.det (K.e_ldE Tryz.isAgg2 rfl rfl (by assumption) rfl) rfl ?_ | refine K.GL.det (K.e_ldF Tryz.isAgg2 rfl rfl (by assumption) rfl) rfl ?_ | refine K.GL.det (K.e_load Tryz.isAgg2 rfl rfl) rfl ?_ | refine K.GL.det (K.e_load0 Tryz.isAgg2 rfl (by assumption)) rfl ?_
  first | refine K.GL.det ((K.e_ne rfl rfl).yes (by first | omega | assumption | decide +kernel)) rfl ?_ | refine K.GL.det ((K.e_ne rfl rfl).no (by first | omega | assumption | decide +kernel)) rfl ?_ | refine K.GL.det (K.e_ne rfl rfl) rfl ?_
  refine K.GL.det (K.e_assign rfl) rfl ?_
  refine K.GL.nil ?_
  refine K.GQ.go ?_
  refine K.GC.ret ?_
  refine K.GQ.ret1 Tryz.results64 rfl (fun w hT => ?_)
  exact ⟨by first | rfl | (simp only [Ending.returned.injEq, Value.bool.injEq]; simp_all [Ext.used]; done) | (simp only [Ending.returned.injEq, Value.bool.injEq]; grind [Ext.used]), hT.nil⟩
section
variable {ops : Array Oper} {Q : Exit → Act → World → Prop} {N : Nat} {U : Env} {w0 : World} {L0 L F : List Res} {ty : TypeId} {rest : List Oper} {pos : String} {after : Array Edge} {xs : List Operand} {tys : Array TypeId} {dT : Tmp}
theorem ev_used_con {x : Ext} (hf : ∀ args w, (callFunc 64 args).run Tryz.prog w = .ok (.enter 64 args) w) (hx : opvs U xs = some [.agg (encX.f x).toArray]) : Ev Tryz.prog U w0 L0 L (.call ⟨.value (.func 64), xs.toArray, tys⟩) ty (Is (.bool x.used)) No :=
  K.e_call1 hf hx (fun w hT => by exact used_con )
end
/- turntable/table.Right$1 -/
set_option maxHeartbeats 1000000 in
set_option maxRecDepth 100000 in
theorem wrong_con {x : Ext} {w : World} :
    Calls Tryz.prog 58 #[.agg (encX.f x).toArray] w fun e w' => e = .returned (.bool (!x.ok)) ∧ Tr w [] w' [] := by
  refine K.enter0 (args := [_]) Tryz.func58 rfl Tryz.ntmps58 rfl ?_
  refine K.GC.seq ?_
  refine K.GC.region ?_
  refine K.GL.box rfl rfl rfl (fun b1 => ?_)
  refine K.GL.det (K.e_assign rfl) rfl ?_
  refine K.GL.nil ?_
  refine K.GQ.go ?_
  refine K.GC.seq ?_
  refine K.GC.region ?_
  first | refine K.GL.det (K.e_ldA Tryz.isAgg82 Tryz.sizeOf82 rfl rfl (by assumption)) rfl ?_ | refine K.GL.det (K.e_ldAF Tryz.isAgg82 Tryz.sizeOf82 rfl rfl (by assumption) rfl) rfl ?_ | refine K.GL.det (K.e_loads Tryz.isAgg82 Tryz.sizeOf82 rfl rfl) rfl ?_
  refine K.GL.det (ev_ext_con Tryz.call59 rfl ) rfl ?_
  first | refine K.GL.det (K.e_notp rfl) rfl ?_ | refine K.GL.det (K.e_not rfl) rfl ?_
  refine K.GL.det (K.e_assign rfl) rfl ?_
  refine K.GL.nil ?_
  refine K.GQ.go ?_
  refine K.GC.ret ?_
  refine K.GQ.ret1 Tryz.results58 rfl (fun w hT => ?_)
  exact ⟨by first | rfl | (simp only [Ending.returned.injEq, Value.bool.injEq]; simp_all; done) | (simp only [Ending.returned.injEq, Value.bool.injEq]; grind), hT.nil⟩
section
variable {ops : Array Oper} {Q : Exit → Act → World → Prop} {N : Nat} {U : Env} {w0 : World} {L0 L F : List Res} {ty : TypeId} {rest : List Oper} {pos : String} {after : Array Edge} {xs : List Operand} {tys : Array TypeId} {dT : Tmp}
end
theorem sl29 : K.slOf Tryz.prog 29 = some (82, 2) := by kernel_rfl
/- slices.IndexFunc[[]turntable/api.Ext,turntable/api.Ext] -/
set_option maxHeartbeats 1000000 in
set_option maxRecDepth 100000 in
theorem idxx_con {a : Option Addr} {c : Nat} {l : List Ext} {p : Ext → Bool} {g : FuncId} {cap : List Value} {w : World} (hg : FnB Tryz.prog g cap (fun x : Ext => .agg (encX.f x).toArray) p) (hl : l.length < 9223372036854775807) [Old w [] a (encX) (l)] :
    Calls Tryz.prog 73 #[.slice a l.length c, .func (.func g) #[] cap.toArray] w fun e w' => e = .returned (.int .i64 (idxf p l)) ∧ Tr w [] w' [] := by
  refine K.enter0 (args := [_, _]) Tryz.func73 rfl Tryz.ntmps73 rfl ?_
  refine K.GC.seq ?_
  refine K.GC.region ?_
  refine K.GL.det (K.e_assign rfl) rfl ?_
  refine K.GL.nil ?_
  refine K.GQ.go ?_
  refine K.GC.seq ?_
  refine K.GC.seq ?_
  refine K.GC.region ?_
  refine K.GL.det (K.e_move rfl) rfl ?_
  refine K.GL.det (K.e_len Tryz.underlying29 rfl) rfl ?_
  refine K.GL.det (K.e_move rfl) rfl ?_
  refine K.GL.nil ?_
  refine K.GQ.go ?_
  refine K.GC.block ?_
  refine K.GC.loopk (α := Nat) [0, 1, 7] rfl (fun x => [(8, .int .i64 (x : Int))]) (fun x => []) (fun x => x ≤ l.length ∧ (l.take x).any p = false) (fun x => (l.length - x)) 0 ⟨by omega, rfl⟩ (by first | ((repeat refine ⟨rfl, ?_⟩); exact trivial) | (simp only [List.take_zero, List.map_nil, List.flatMap_nil, List.append_nil]; (repeat refine ⟨rfl, ?_⟩); exact trivial)) (by first | exact K.sb | (dsimp only; exact K.sb) | (simp only [List.take_zero, List.map_nil, List.flatMap_nil, List.append_nil]; exact K.sb) | exact K.Sub.refl _) (fun x hI => ?_)
  refine K.GC.seq ?_
  refine K.GC.region ?_
  first | refine K.GL.det ((K.e_lt rfl rfl).yes (by first | omega | assumption | decide +kernel)) rfl ?_ | refine K.GL.det ((K.e_lt rfl rfl).no (by first | omega | assumption | decide +kernel)) rfl ?_ | refine K.GL.det (K.e_lt rfl rfl) rfl ?_
  refine K.GL.nil ?_
  refine K.GQ.go ?_
  refine K.GC.seq ?_
  refine K.GC.condB rfl (fun h1 => ?_) (fun h1 => ?_)
  · first
    | exact absurd h1 (by decide)
    | try replace h1 := of_decide_eq_true h1
      refine K.GC.skip ?_
      refine K.GQ.go ?_
      refine K.GC.seq ?_
      refine K.GC.block ?_
      refine K.GC.seq ?_
      refine K.GC.region ?_
      refine K.GL.det (K.e_move rfl) rfl ?_
      refine K.GL.det (K.e_assign rfl) rfl ?_
      refine K.GL.nil ?_
      refine K.GQ.go ?_
      refine K.GC.seq ?_
      refine K.GC.region ?_
      refine K.GL.det (K.e_move rfl) rfl ?_
      refine K.GL.det (K.e_move rfl) rfl ?_
      refine K.GL.det (K.e_move rfl) rfl ?_
      first | refine K.GL.ixK sl29 rfl rfl rfl rfl (by assumption) rfl ?_ | refine K.GL.ix sl29 rfl rfl rfl rfl (by omega) rfl (fun q14 hq14 => ?_) | refine K.GL.ixI sl29 rfl rfl rfl rfl (by omega) (by omega) rfl (fun q14 hq14 => ?_) | refine K.GL.det (K.e_indexAddrS sl29 rfl rfl (by assumption) (by omega) (by omega)) rfl ?_ | refine K.GL.det (K.e_indexAddr sl29 rfl rfl (by omega) (by omega)) rfl ?_
      first | refine K.GL.det (K.e_ldA Tryz.isAgg82 Tryz.sizeOf82 rfl rfl (by assumption)) rfl ?_ | refine K.GL.det (K.e_ldAF Tryz.isAgg82 Tryz.sizeOf82 rfl rfl (by assumption) rfl) rfl ?_ | refine K.GL.det (K.e_loads Tryz.isAgg82 Tryz.sizeOf82 rfl rfl) rfl ?_
      refine K.GL.det (K.e_callB (q := q14) hg rfl rfl) rfl ?_
      refine K.GL.nil ?_
      refine K.GQ.go ?_
      refine K.GC.condB rfl (fun h2 => ?_) (fun h2 => ?_)
      · first
        | exact absurd h2 (by decide)
        | try replace h2 := of_decide_eq_true h2
          refine K.GC.seq ?_
          refine K.GC.region ?_
          refine K.GL.det (K.e_move rfl) rfl ?_
          refine K.GL.det (K.e_assign rfl) rfl ?_
          refine K.GL.nil ?_
          refine K.GQ.go ?_
          refine K.GC.ret ?_
          refine K.GQ.block_ret ?_
          refine K.GQ.then_ret ?_
          refine K.GQ.then_ret ?_
          refine K.GQ.block_ret ?_
          refine K.GQ.then_ret ?_
          refine K.GQ.ret1 Tryz.results73 rfl (fun w hT => ?_)
          first | exact ⟨by rw [idxf_hit hI.2 (by assumption) (by assumption)], hT.nil⟩ | exact ⟨by rw [idxf_none (any_take hI.2 (by omega))], hT.nil⟩
      · first
        | exact absurd h2 (by decide)
        | try replace h2 := of_decide_eq_false h2
          refine K.GC.skip ?_
          refine K.GQ.block_normal ?_
          refine K.GQ.go ?_
          refine K.GC.region ?_
          first | refine K.GL.det (K.e_add rfl rfl ⟨by omega, by omega⟩) rfl ?_ | refine K.GL.det (K.e_addw rfl rfl) rfl ?_
          refine K.GL.det (K.e_move rfl) rfl ?_
          refine K.GL.nil ?_
          exact K.GQ.round (x + 1) ⟨by omega, any_next hI.2 (by assumption) (by assumption)⟩ (by omega) (by (repeat refine ⟨rfl, ?_⟩); exact trivial) (by first | exact K.sb | (dsimp only; exact K.sb))
  · first
    | exact absurd h1 (by decide)
    | try replace h1 := of_decide_eq_false h1
      refine K.GC.exit ?_
      refine K.GQ.then_exit ?_
      refine K.GQ.then_exit ?_
      refine K.GQ.block_hit ?_
      refine K.GQ.go ?_
      refine K.GC.seq ?_
      refine K.GC.region ?_
      refine K.GL.det (K.e_assign rfl) rfl ?_
      refine K.GL.nil ?_
      refine K.GQ.go ?_
      refine K.GC.ret ?_
      refine K.GQ.ret1 Tryz.results73 rfl (fun w hT => ?_)
      first | exact ⟨by rw [idxf_hit hI.2 (by assumption) (by assumption)], hT.nil⟩ | exact ⟨by rw [idxf_none (any_take hI.2 (by omega))], hT.nil⟩
section
variable {ops : Array Oper} {Q : Exit → Act → World → Prop} {N : Nat} {U : Env} {w0 : World} {L0 L F : List Res} {ty : TypeId} {rest : List Oper} {pos : String} {after : Array Edge} {xs : List Operand} {tys : Array TypeId} {dT : Tmp}
theorem ev_idxx_con {a : Option Addr} {c : Nat} {l : List Ext} {p : Ext → Bool} {g : FuncId} {cap : List Value} (hf : ∀ args w, (callFunc 73 args).run Tryz.prog w = .ok (.enter 73 args) w) (hx : opvs U xs = some [.slice a l.length c, .func (.func g) #[] cap.toArray]) (hg : FnB Tryz.prog g cap (fun x : Ext => .agg (encX.f x).toArray) p) (hl : l.length < 9223372036854775807) [o0 : RdC w0 L0 [] L a (encX) (l)] : Ev Tryz.prog U w0 L0 L (.call ⟨.value (.func 73), xs.toArray, tys⟩) ty (Is (.int .i64 (idxf p l))) No :=
  K.e_call1 hf hx (fun w hT => by have _o0 := o0.out w hT; exact idxx_con hg hl)
end
/- slices.ContainsFunc[[]turntable/api.Ext,turntable/api.Ext] -/
set_option maxHeartbeats 1000000 in
set_option maxRecDepth 100000 in
theorem cont_con {a : Option Addr} {c : Nat} {l : List Ext} {p : Ext → Bool} {g : FuncId} {cap : List Value} {w : World} (hg : FnB Tryz.prog g cap (fun x : Ext => .agg (encX.f x).toArray) p) (hl : l.length < 9223372036854775807) [Old w [] a (encX) (l)] :
    Calls Tryz.prog 62 #[.slice a l.length c, .func (.func g) #[] cap.toArray] w fun e w' => e = .returned (.bool (l.any p)) ∧ Tr w [] w' [] := by
  refine K.enter0 (args := [_, _]) Tryz.func62 rfl Tryz.ntmps62 rfl ?_
  refine K.GC.seq ?_
  refine K.GC.region ?_
  refine K.GL.det (K.e_assign rfl) rfl ?_
  refine K.GL.nil ?_
  refine K.GQ.go ?_
  refine K.GC.seq ?_
  refine K.GC.region ?_
  refine K.GL.det (K.e_move rfl) rfl ?_
  refine K.GL.det (K.e_move rfl) rfl ?_
  refine K.GL.det (ev_idxx_con Tryz.call73 rfl (by first | assumption | omega | rfl | decide) (by first | assumption | omega | rfl | decide)) rfl ?_
  first | refine K.GL.det ((K.e_ge rfl rfl).yes (by fail)) rfl ?_ | refine K.GL.det ((K.e_ge rfl rfl).no (by fail)) rfl ?_ | refine K.GL.det (K.e_ge rfl rfl) rfl ?_
  refine K.GL.det (K.e_assign rfl) rfl ?_
  refine K.GL.nil ?_
  refine K.GQ.go ?_
  refine K.GC.ret ?_
  refine K.GQ.ret1 Tryz.results62 rfl (fun w hT => ?_)
  exact ⟨by rw [idxf_nonneg], hT.nil⟩
section
variable {ops : Array Oper} {Q : Exit → Act → World → Prop} {N : Nat} {U : Env} {w0 : World} {L0 L F : List Res} {ty : TypeId} {rest : List Oper} {pos : String} {after : Array Edge} {xs : List Operand} {tys : Array TypeId} {dT : Tmp}
theorem ev_cont_con {a : Option Addr} {c : Nat} {l : List Ext} {p : Ext → Bool} {g : FuncId} {cap : List Value} (hf : ∀ args w, (callFunc 62 args).run Tryz.prog w = .ok (.enter 62 args) w) (hx : opvs U xs = some [.slice a l.length c, .func (.func g) #[] cap.toArray]) (hg : FnB Tryz.prog g cap (fun x : Ext => .agg (encX.f x).toArray) p) (hl : l.length < 9223372036854775807) [o0 : RdC w0 L0 [] L a (encX) (l)] : Ev Tryz.prog U w0 L0 L (.call ⟨.value (.func 62), xs.toArray, tys⟩) ty (Is (.bool (l.any p))) No :=
  K.e_call1 hf hx (fun w hT => by have _o0 := o0.out w hT; exact cont_con hg hl)
end
theorem fo31_2 : K.fieldOff Tryz.prog 31 2 = some (29, 2, 1) := by kernel_rfl
theorem mk51 : K.mkOf Tryz.prog 51 = some (3, [.int .i64 0], 8) := by kernel_rfl
/- turntable/table.places -/
set_option maxHeartbeats 1000000 in
set_option maxRecDepth 100000 in
theorem places_con {t : Tab} {a : Option Addr} {c : Nat} {p : Ext → Bool} {g : FuncId} {cap : List Value} {w : World} (hg : FnB Tryz.prog g cap (fun x : Ext => .agg (encX.f x).toArray) p) (hl : t.exts.length < 1099511627776) [Old w [] a (encX) (t.exts)] :
    Calls Tryz.prog 74 #[.agg (tabC t a c).toArray, .func (.func g) #[] cap.toArray] w fun e w' => ∃ a' : Option Addr, ∃ c' : Nat, e = .returned (.slice a' (plc p t.exts).length c') ∧ Tr w [] w' [trow a' c' 3 (K.encI .i64) (plc p t.exts)] := by
  refine K.enter0 (args := [_, _]) Tryz.func74 rfl Tryz.ntmps74 rfl ?_
  refine K.GC.seq ?_
  refine K.GC.region ?_
  refine K.GL.box rfl rfl rfl (fun b2 => ?_)
  refine K.GL.det (K.e_assign rfl) rfl ?_
  refine K.GL.nil ?_
  refine K.GQ.go ?_
  refine K.GC.seq ?_
  refine K.GC.region ?_
  refine K.GL.det (K.e_assign rfl) rfl ?_
  refine K.GL.nil ?_
  refine K.GQ.go ?_
  refine K.GC.seq ?_
  refine K.GC.seq ?_
  refine K.GC.region ?_
  first | refine K.GL.det (K.e_fa fo31_2 rfl) rfl ?_ | refine K.GL.det (K.e_fieldAddr fo31_2 rfl) rfl ?_
  first | refine K.GL.det (K.e_ldE Tryz.isAgg29 rfl rfl (by assumption) rfl) rfl ?_ | refine K.GL.det (K.e_ldF Tryz.isAgg29 rfl rfl (by assumption) rfl) rfl ?_ | refine K.GL.det (K.e_load Tryz.isAgg29 rfl rfl) rfl ?_ | refine K.GL.det (K.e_load0 Tryz.isAgg29 rfl (by assumption)) rfl ?_
  refine K.GL.det (K.e_len Tryz.underlying29 rfl) rfl ?_
  refine K.GL.det (K.e_move rfl) rfl ?_
  refine K.GL.nil ?_
  refine K.GQ.go ?_
  refine K.GC.block ?_
  refine K.GC.trow0 3 (K.encI .i64) ?_
  refine K.GC.loopk (α := Nat × Option Addr × Nat) [1, 4, 9, 10, 24] rfl (fun x => [(5, .slice x.2.1 (plc p (t.exts.take x.1)).length x.2.2), (11, .int .i64 (x.1 : Int))]) (fun x => [trow x.2.1 x.2.2 3 (K.encI .i64) (plc p (t.exts.take x.1))]) (fun x => x.1 ≤ t.exts.length) (fun x => (t.exts.length - x.1)) (0, none, 0) (Nat.zero_le _) (by simp only [List.take_zero, plc_nil]; (repeat refine ⟨rfl, ?_⟩); exact trivial) (by simp only [List.take_zero, plc_nil]; exact K.sb) (fun x hI => ?_)
  obtain ⟨x, a1, c1⟩ := x
  simp only at hI ⊢
  have hpl := plc_len p (t.exts.take x)
  rw [List.length_take] at hpl
  refine K.GC.seq ?_
  refine K.GC.region ?_
  first | refine K.GL.det ((K.e_lt rfl rfl).yes (by first | omega | assumption | decide +kernel)) rfl ?_ | refine K.GL.det ((K.e_lt rfl rfl).no (by first | omega | assumption | decide +kernel)) rfl ?_ | refine K.GL.det (K.e_lt rfl rfl) rfl ?_
  refine K.GL.nil ?_
  refine K.GQ.go ?_
  refine K.GC.seq ?_
  refine K.GC.condB rfl (fun h1 => ?_) (fun h1 => ?_)
  · first
    | exact absurd h1 (by decide)
    | try replace h1 := of_decide_eq_true h1
      refine K.GC.skip ?_
      refine K.GQ.go ?_
      refine K.GC.seq ?_
      refine K.GC.block ?_
      refine K.GC.seq ?_
      refine K.GC.region ?_
      refine K.GL.det (K.e_move rfl) rfl ?_
      first | refine K.GL.ixK sl29 rfl rfl rfl rfl (by assumption) rfl ?_ | refine K.GL.ix sl29 rfl rfl rfl rfl (by omega) rfl (fun q14 hq14 => ?_) | refine K.GL.ixI sl29 rfl rfl rfl rfl (by omega) (by omega) rfl (fun q14 hq14 => ?_) | refine K.GL.det (K.e_indexAddrS sl29 rfl rfl (by assumption) (by omega) (by omega)) rfl ?_ | refine K.GL.det (K.e_indexAddr sl29 rfl rfl (by omega) (by omega)) rfl ?_
      first | refine K.GL.det (K.e_ldA Tryz.isAgg82 Tryz.sizeOf82 rfl rfl (by assumption)) rfl ?_ | refine K.GL.det (K.e_ldAF Tryz.isAgg82 Tryz.sizeOf82 rfl rfl (by assumption) rfl) rfl ?_ | refine K.GL.det (K.e_loads Tryz.isAgg82 Tryz.sizeOf82 rfl rfl) rfl ?_
      refine K.GL.alloc Tryz.zeroValue82 rfl rfl (fun b7 => ?_)
      refine K.GL.det (K.e_assign rfl) rfl ?_
      refine K.GL.store rfl rfl rfl Tryz.sizeOf82 rfl rfl ?_
      refine K.GL.nil ?_
      refine K.GQ.go ?_
      refine K.GC.seq ?_
      refine K.GC.region ?_
      refine K.GL.det (K.e_move rfl) rfl ?_
      first | refine K.GL.det (K.e_ldA Tryz.isAgg82 Tryz.sizeOf82 rfl rfl (by assumption)) rfl ?_ | refine K.GL.det (K.e_ldAF Tryz.isAgg82 Tryz.sizeOf82 rfl rfl (by assumption) rfl) rfl ?_ | refine K.GL.det (K.e_loads Tryz.isAgg82 Tryz.sizeOf82 rfl rfl) rfl ?_
      refine K.GL.det (K.e_callB (q := q14) hg rfl rfl) rfl ?_
      refine K.GL.nil ?_
      refine K.GQ.go ?_
      refine K.GC.condB rfl (fun h2 => ?_) (fun h2 => ?_)
      · first
        | exact absurd h2 (by decide)
        | try replace h2 := of_decide_eq_true h2
          refine K.GC.region ?_
          refine K.GL.det (K.e_move rfl) rfl ?_
          refine K.GL.det (K.e_move rfl) rfl ?_
          refine K.GL.buildT (K.encI .i64) [_] mk51 rfl rfl rfl rfl rfl (fun b21 => ?_)
          first | refine K.GL.appendT mk51 rfl rfl rfl rfl rfl (by first | omega | (simp only [List.length_cons, List.length_nil, List.length_append]; omega)) (by first | omega | (simp only [List.length_cons, List.length_nil, List.length_append]; omega)) rfl (fun a22 c22 => ?_) | (refine K.GL.trow0 3 (K.encI .i64) ?_; refine K.GL.appendT mk51 rfl rfl rfl rfl rfl (by first | omega | (simp only [List.length_cons, List.length_nil, List.length_append]; omega)) (by first | omega | (simp only [List.length_cons, List.length_nil, List.length_append]; omega)) rfl (fun a22 c22 => ?_))
          refine K.GL.det (K.e_assign rfl) rfl ?_
          refine K.GL.nil ?_
          refine K.GQ.block_normal ?_
          refine K.GQ.go ?_
          refine K.GC.region ?_
          first | refine K.GL.det (K.e_add rfl rfl ⟨by omega, by omega⟩) rfl ?_ | refine K.GL.det (K.e_addw rfl rfl) rfl ?_
          refine K.GL.det (K.e_move rfl) rfl ?_
          refine K.GL.nil ?_
          have hx := len_of hq14
          have htk := take_one hq14
          have hln : (t.exts.take x).length = x := by rw [List.length_take]; omega
          first
            | exact K.GQ.round (x + 1, a22, c22) hx (by simp only; omega) (by simp only [htk, plc_snoc, hln, if_pos (by assumption : p q14 = true)]; (repeat refine ⟨rfl, ?_⟩); exact trivial) (by simp only [htk, plc_snoc, hln, if_pos (by assumption : p q14 = true)]; exact K.sb)
            | exact K.GQ.round (x + 1, a1, c1) hx (by simp only; omega) (by simp only [htk, plc_snoc, hln, if_neg (by simp_all : ¬ p q14 = true), List.append_nil]; (repeat refine ⟨rfl, ?_⟩); exact trivial) (by simp only [htk, plc_snoc, hln, if_neg (by simp_all : ¬ p q14 = true), List.append_nil]; exact K.sb)
      · first
        | exact absurd h2 (by decide)
        | try replace h2 := of_decide_eq_false h2
          refine K.GC.skip ?_
          refine K.GQ.block_normal ?_
          refine K.GQ.go ?_
          refine K.GC.region ?_
          first | refine K.GL.det (K.e_add rfl rfl ⟨by omega, by omega⟩) rfl ?_ | refine K.GL.det (K.e_addw rfl rfl) rfl ?_
          refine K.GL.det (K.e_move rfl) rfl ?_
          refine K.GL.nil ?_
          have hx := len_of hq14
          have htk := take_one hq14
          have hln : (t.exts.take x).length = x := by rw [List.length_take]; omega
          first
            | exact K.GQ.round (x + 1, a22, c22) hx (by simp only; omega) (by simp only [htk, plc_snoc, hln, if_pos (by assumption : p q14 = true)]; (repeat refine ⟨rfl, ?_⟩); exact trivial) (by simp only [htk, plc_snoc, hln, if_pos (by assumption : p q14 = true)]; exact K.sb)
            | exact K.GQ.round (x + 1, a1, c1) hx (by simp only; omega) (by simp only [htk, plc_snoc, hln, if_neg (by simp_all : ¬ p q14 = true), List.append_nil]; (repeat refine ⟨rfl, ?_⟩); exact trivial) (by simp only [htk, plc_snoc, hln, if_neg (by simp_all : ¬ p q14 = true), List.append_nil]; exact K.sb)
  · first
    | exact absurd h1 (by decide)
    | try replace h1 := of_decide_eq_false h1
      refine K.GC.exit ?_
      refine K.GQ.then_exit ?_
      refine K.GQ.then_exit ?_
      refine K.GQ.block_hit ?_
      refine K.GQ.go ?_
      refine K.GC.seq ?_
      refine K.GC.region ?_
      refine K.GL.det (K.e_move rfl) rfl ?_
      refine K.GL.det (K.e_assign rfl) rfl ?_
      refine K.GL.nil ?_
      refine K.GQ.go ?_
      refine K.GC.ret ?_
      refine K.GQ.ret1 Tryz.results74 rfl (fun w hT => ?_)
      rw [List.take_of_length_le (by omega)] at hT
      exact ⟨a1, c1, by rw [List.take_of_length_le (by omega)], hT.sub K.sb⟩
section
variable {ops : Array Oper} {Q : Exit → Act → World → Prop} {N : Nat} {U : Env} {w0 : World} {L0 L F : List Res} {ty : TypeId} {rest : List Oper} {pos : String} {after : Array Edge} {xs : List Operand} {tys : Array TypeId} {dT : Tmp}
theorem gl_places_con {t : Tab} {a : Option Addr} {c : Nat} {p : Ext → Bool} {g : FuncId} {cap : List Value} (hf : ∀ args w, (callFunc 74 args).run Tryz.prog w = .ok (.enter 74 args) w) (hx : opvs U xs = some [.agg (tabC t a c).toArray, .func (.func g) #[] cap.toArray]) (hg : FnB Tryz.prog g cap (fun x : Ext => .agg (encX.f x).toArray) p) (hl : t.exts.length < 1099511627776) [o0 : RdC w0 L0 [] L a (encX) (t.exts)] (hd : Nat.ble (dT + 1) N = true)
    (hr : ∀ (a' : Option Addr) (c' : Nat), GL Tryz.prog ops Q rest N ((dT, .slice a' (plc p t.exts).length c') :: U) w0 L0 (trow a' c' 3 (K.encI .i64) (plc p t.exts) :: L)) : GL Tryz.prog ops Q (⟨some dT, .call ⟨.value (.func 74), xs.toArray, tys⟩, ty, pos, after, Option.none⟩ :: rest) N U w0 L0 L :=
  GL.callM (α := (Option Addr) × (Nat)) (l := []) (Pv := fun y v => v = .slice y.1 (plc p t.exts).length y.2) (l' := fun y => [trow y.1 y.2 3 (K.encI .i64) (plc p t.exts)]) hf hx (Sub.refl _)
    (fun w hT => by
      have _o0 := o0.out w hT; exact (places_con hg hl).mono fun e w' ⟨a', c', h1, h2⟩ => ⟨(a', c'), _, h1, rfl, h2⟩) hd fun y v hv => by subst hv; exact hr y.1 y.2 
end
section
variable {ops : Array Oper} {Q : Exit → Act → World → Prop} {N : Nat} {U : Env} {w0 : World} {L0 L F : List Res} {ty : TypeId} {rest : List Oper} {pos : String} {after : Array Edge} {xs : List Operand} {tys : Array TypeId} {dT : Tmp}
end


theorem nums_next {wd : Nat} {nl : List Int} {x : Nat} {q : Int} (h : nl[x]? = some q) : (nl.take (x + 1)).flatMap (leB wd) = (nl.take x).flatMap (leB wd) ++ leB wd q := by
  rw [take_one h, List.flatMap_append]; simp

theorem nums_len (wd : Nat) : ∀ nl : List Int, (nl.flatMap (leB wd)).length = nl.length * wd
  | [] => by simp
  | x :: nl => by rw [List.flatMap_cons, List.length_append, leB_len, nums_len wd nl, List.length_cons, Nat.succ_mul, Nat.add_comm]

theorem mk32 : K.mkOf Tryz.prog 32 = some (5, [.int .u8 0], 1) := by kernel_rfl
theorem sl102 : K.slOf Tryz.prog 102 = some (2, 1) := by kernel_rfl
/- turntable/table.numbers -/
set_option maxHeartbeats 1000000 in
set_option maxRecDepth 100000 in
theorem nums_con {bl : Bytes} {nl : List Int} {wd : Nat} {a a2 : Option Addr} {c c2 : Nat} {w : World} (hw : wd < 8) (hb : bl.length < 1000000) (hn : nl.length < 1000000) [Old w [trow a c 5 encB bl] a2 (K.encI .i64) (nl)] (hd : Disj [trow a c 5 encB bl]) (ho : ∀ r ∈ ([trow a c 5 encB bl] : List Res), r.ok w.heap) :
    Calls Tryz.prog 48 #[.slice a bl.length c, .int .i64 (wd : Int), .slice a2 nl.length c2] w fun e w' => ∃ a' : Option Addr, ∃ c' : Nat, e = .returned (.slice a' (bl ++ nl.flatMap (leB wd)).length c') ∧ Tr w [trow a c 5 encB bl] w' [trow a' c' 5 encB (bl ++ nl.flatMap (leB wd))] := by
  refine K.enter (args := [_, _, _]) Tryz.func48 rfl Tryz.ntmps48 rfl hd ho ?_
  refine K.GC.seq ?_
  refine K.GC.region ?_
  refine K.GL.det (K.e_assign rfl) rfl ?_
  refine K.GL.nil ?_
  refine K.GQ.go ?_
  refine K.GC.seq ?_
  refine K.GC.seq ?_
  refine K.GC.region ?_
  refine K.GL.det (K.e_move rfl) rfl ?_
  refine K.GL.det (K.e_len Tryz.underlying102 rfl) rfl ?_
  refine K.GL.det (K.e_move rfl) rfl ?_
  refine K.GL.nil ?_
  refine K.GQ.go ?_
  refine K.GC.block ?_
  refine K.GC.loopk (α := Nat × Option Addr × Nat) [1, 6, 10, 11, 30] rfl (fun x => [(0, .slice x.2.1 (bl ++ (nl.take x.1).flatMap (leB wd)).length x.2.2), (12, .int .i64 (x.1 : Int))]) (fun x => [trow x.2.1 x.2.2 5 encB (bl ++ (nl.take x.1).flatMap (leB wd))]) (fun x => x.1 ≤ nl.length) (fun x => (nl.length - x.1)) (0, a, c) (Nat.zero_le _) (by simp only [List.take_zero, List.flatMap_nil, List.append_nil]; (repeat refine ⟨rfl, ?_⟩); exact trivial) (by simp only [List.take_zero, List.flatMap_nil, List.append_nil]; exact K.sb) (fun x hI => ?_)
  obtain ⟨x, a1, c1⟩ := x
  simp only at hI ⊢
  refine K.GC.seq ?_
  refine K.GC.region ?_
  first | refine K.GL.det ((K.e_lt rfl rfl).yes (by first | omega | assumption | decide +kernel)) rfl ?_ | refine K.GL.det ((K.e_lt rfl rfl).no (by first | omega | assumption | decide +kernel)) rfl ?_ | refine K.GL.det (K.e_lt rfl rfl) rfl ?_
  refine K.GL.nil ?_
  refine K.GQ.go ?_
  refine K.GC.seq ?_
  refine K.GC.condB rfl (fun h1 => ?_) (fun h1 => ?_)
  · first
    | exact absurd h1 (by decide)
    | try replace h1 := of_decide_eq_true h1
      refine K.GC.skip ?_
      refine K.GQ.go ?_
      refine K.GC.seq ?_
      refine K.GC.block ?_
      refine K.GC.seq ?_
      refine K.GC.region ?_
      first | refine K.GL.ixK sl102 rfl rfl rfl rfl (by assumption) rfl ?_ | refine K.GL.ix sl102 rfl rfl rfl rfl (by omega) rfl (fun q14 hq14 => ?_) | refine K.GL.ixI sl102 rfl rfl rfl rfl (by omega) (by omega) rfl (fun q14 hq14 => ?_) | refine K.GL.det (K.e_indexAddrS sl102 rfl rfl (by assumption) (by omega) (by omega)) rfl ?_ | refine K.GL.det (K.e_indexAddr sl102 rfl rfl (by omega) (by omega)) rfl ?_
      first | refine K.GL.det (K.e_ldE Tryz.isAgg2 rfl rfl (by assumption) rfl) rfl ?_ | refine K.GL.det (K.e_ldF Tryz.isAgg2 rfl rfl (by assumption) rfl) rfl ?_ | refine K.GL.det (K.e_load Tryz.isAgg2 rfl rfl) rfl ?_ | refine K.GL.det (K.e_load0 Tryz.isAgg2 rfl (by assumption)) rfl ?_
      refine K.GL.det (K.e_assign rfl) rfl ?_
      refine K.GL.nil ?_
      refine K.GQ.go ?_
      refine K.GC.seq ?_
      refine K.GC.region ?_
      refine K.GL.det (K.e_move rfl) rfl ?_
      refine K.GL.det (K.e_move rfl) rfl ?_
      refine K.GL.nil ?_
      refine K.GQ.go ?_
      refine K.GC.block ?_
      refine K.GC.loopk (α := Nat × Option Addr × Nat) [1, 6, 8, 10, 11, 12, 13, 14, 15, 16, 29, 30] rfl (fun y => [(0, .slice y.2.1 (bl ++ (nl.take x).flatMap (leB wd) ++ leB y.1 q14).length y.2.2), (17, .int .i64 (y.1 : Int))]) (fun y => [trow y.2.1 y.2.2 5 encB (bl ++ (nl.take x).flatMap (leB wd) ++ leB y.1 q14)]) (fun y => y.1 ≤ wd) (fun y => (wd - y.1)) (0, a1, c1) (Nat.zero_le _) (by simp only [leB, List.append_nil]; (repeat refine ⟨rfl, ?_⟩); exact trivial) (by simp only [leB, List.append_nil]; exact K.sb) (fun y hI => ?_)
      obtain ⟨y, a3, c3⟩ := y
      simp only at hI ⊢
      have hn2 := nums_len wd (nl.take x)
      have hx2 := len_of hq14
      rw [List.length_take, Nat.min_eq_left (by omega)] at hn2
      have hxw : x * wd ≤ x * 8 := Nat.mul_le_mul_left x (by omega)
      have hl2 := leB_len y q14
      refine K.GC.seq ?_
      refine K.GC.region ?_
      first | refine K.GL.det ((K.e_lt rfl rfl).yes (by first | omega | assumption | decide +kernel)) rfl ?_ | refine K.GL.det ((K.e_lt rfl rfl).no (by first | omega | assumption | decide +kernel)) rfl ?_ | refine K.GL.det (K.e_lt rfl rfl) rfl ?_
      refine K.GL.nil ?_
      refine K.GQ.go ?_
      refine K.GC.seq ?_
      refine K.GC.condB rfl (fun h2 => ?_) (fun h2 => ?_)
      · first
        | exact absurd h2 (by decide)
        | try replace h2 := of_decide_eq_true h2
          refine K.GC.skip ?_
          refine K.GQ.go ?_
          refine K.GC.seq ?_
          refine K.GC.block ?_
          refine K.GC.seq ?_
          refine K.GC.region ?_
          refine K.GL.det (K.e_move rfl) rfl ?_
          refine K.GL.det (K.e_assign rfl) rfl ?_
          refine K.GL.nil ?_
          refine K.GQ.go ?_
          refine K.GC.region ?_
          refine K.GL.det (K.e_move rfl) rfl ?_
          refine K.GL.det (K.e_move rfl) rfl ?_
          refine K.GL.det (K.e_move rfl) rfl ?_
          first | refine K.GL.det (K.e_mul rfl rfl ⟨by omega, by omega⟩) rfl ?_ | refine K.GL.det (K.e_mulw rfl rfl) rfl ?_
          refine K.GL.det ((K.e_shr rfl rfl (by omega)).cast_int (b := q14 / 256 ^ y) (shr_8 _ _ (by omega))) rfl ?_
          refine K.GL.det (K.e_c8 Tryz.underlying2 Tryz.underlying5 rfl) rfl ?_
          refine K.GL.buildT encB [_] mk32 rfl rfl rfl rfl rfl (fun b26 => ?_)
          first | refine K.GL.appendT mk32 rfl rfl rfl rfl rfl (by first | omega | (simp only [List.length_cons, List.length_nil, List.length_append]; omega)) (by first | omega | (simp only [List.length_cons, List.length_nil, List.length_append]; omega)) rfl (fun a27 c27 => ?_) | (refine K.GL.trow0 5 encB ?_; refine K.GL.appendT mk32 rfl rfl rfl rfl rfl (by first | omega | (simp only [List.length_cons, List.length_nil, List.length_append]; omega)) (by first | omega | (simp only [List.length_cons, List.length_nil, List.length_append]; omega)) rfl (fun a27 c27 => ?_))
          refine K.GL.det (K.e_assign rfl) rfl ?_
          refine K.GL.nil ?_
          refine K.GQ.block_normal ?_
          refine K.GQ.go ?_
          refine K.GC.region ?_
          first | refine K.GL.det (K.e_add rfl rfl ⟨by omega, by omega⟩) rfl ?_ | refine K.GL.det (K.e_addw rfl rfl) rfl ?_
          refine K.GL.det (K.e_move rfl) rfl ?_
          refine K.GL.nil ?_
          exact K.GQ.round (y + 1, a27, c27) (by simp only; omega) (by simp only; omega) (by simp only [leB_snoc]; rw [← List.append_assoc]; (repeat refine ⟨rfl, ?_⟩); exact trivial) (by simp only [leB_snoc]; rw [← List.append_assoc]; exact K.sb)
      · first
        | exact absurd h2 (by decide)
        | try replace h2 := of_decide_eq_false h2
          refine K.GC.exit ?_
          refine K.GQ.then_exit ?_
          refine K.GQ.then_exit ?_
          refine K.GQ.block_hit ?_
          refine K.GQ.block_normal ?_
          refine K.GQ.go ?_
          obtain rfl : y = wd := by omega
          refine K.GC.region ?_
          first | refine K.GL.det (K.e_add rfl rfl ⟨by omega, by omega⟩) rfl ?_ | refine K.GL.det (K.e_addw rfl rfl) rfl ?_
          refine K.GL.det (K.e_move rfl) rfl ?_
          refine K.GL.nil ?_
          exact K.GQ.round (x + 1, a3, c3) (by have := len_of hq14; simp only; omega) (by have := len_of hq14; simp only; omega) (by simp only [nums_next hq14]; rw [← List.append_assoc]; (repeat refine ⟨rfl, ?_⟩); exact trivial) (by simp only [nums_next hq14]; rw [← List.append_assoc]; exact K.sb)
  · first
    | exact absurd h1 (by decide)
    | try replace h1 := of_decide_eq_false h1
      refine K.GC.exit ?_
      refine K.GQ.then_exit ?_
      refine K.GQ.then_exit ?_
      refine K.GQ.block_hit ?_
      refine K.GQ.go ?_
      refine K.GC.seq ?_
      refine K.GC.region ?_
      refine K.GL.det (K.e_move rfl) rfl ?_
      refine K.GL.det (K.e_assign rfl) rfl ?_
      refine K.GL.nil ?_
      refine K.GQ.go ?_
      refine K.GC.ret ?_
      refine K.GQ.ret1 Tryz.results48 rfl (fun w hT => ?_)
      rw [List.take_of_length_le (by omega)] at hT
      exact ⟨a1, c1, by rw [List.take_of_length_le (by omega)], hT.sub K.sb⟩
section
variable {ops : Array Oper} {Q : Exit → Act → World → Prop} {N : Nat} {U : Env} {w0 : World} {L0 L F : List Res} {ty : TypeId} {rest : List Oper} {pos : String} {after : Array Edge} {xs : List Operand} {tys : Array TypeId} {dT : Tmp}
end
section
variable {ops : Array Oper} {Q : Exit → Act → World → Prop} {N : Nat} {U : Env} {w0 : World} {L0 L F : List Res} {ty : TypeId} {rest : List Oper} {pos : String} {after : Array Edge} {xs : List Operand} {tys : Array TypeId} {dT : Tmp}
theorem em_nums_con {bl : Bytes} {nl : List Int} {wd : Nat} {a a2 : Option Addr} {c c2 : Nat}  {F1 : List Res}(hf : ∀ args w, (callFunc 48 args).run Tryz.prog w = .ok (.enter 48 args) w) (hx : opvs U xs = some [.slice a bl.length c, .int .i64 (wd : Int), .slice a2 nl.length c2]) [p1 : PkT L a c 5 encB bl F1] (hw : wd < 8) (hb : bl.length < 1000000) (hn : nl.length < 1000000) [o0 : RdC w0 L0 [trow a c 5 encB bl] F1 a2 (K.encI .i64) (nl)] : K.D.EvM Tryz.prog U w0 L0 L [trow a c 5 encB bl] (.call ⟨.value (.func 48), xs.toArray, tys⟩) ty (fun g => .slice (g 0).1 (bl ++ nl.flatMap (leB wd)).length (g 0).2) (fun g => True) (fun g => trow (g 0).1 (g 0).2 5 encB (bl ++ nl.flatMap (leB wd))) :=
  K.D.em_call hf hx fun w hT => by
    have hT1 : Tr w0 L0 w ([trow a c 5 encB bl] ++ F1) := hT.sub (p1.out); have _o0 := o0.out w hT1; have hd0 := Disj.left hT1.disj; have ho0 := fun r hr => hT1.ok r (List.mem_append_left _ hr); exact (nums_con hw hb hn hd0 ho0).mono fun e w' ⟨a', c', h1, h2⟩ => ⟨fun i => (a', c'), h1, trivial, h2⟩
end
end Go.Proofs.YtdbedajaapamhaaGreat
