/- What the functions of a device give, whatever it holds: their contracts. -/
import Derived.Test.YtdbedajaapamhaaGreatTabN
import Derived.Test.YtdbedajaapamhaaGreatKp
namespace Go.Proofs.YtdbedajaapamhaaGreat
open Go Go.K
set_option linter.unusedVariables false
set_option linter.unusedSimpArgs false
attribute [local irreducible] Calls Ev GL GC GQ GR Code.wp
/-! ### A device, and where it lies -/
structure SE where
  k : Nat
  b : Nat
  y : Sec
  n : Nat
def SE.me (e : SE) : ME := ⟨e.k, .pointer (some ⟨e.b, 0, none⟩), e.n⟩
structure DG where
  kept : List Sec
  es : List SE
  c : Nat
  kb : Nat
  mb : Nat
  down : Bool
  done : Int
  cut : Int
def I64 (a : Int) : Prop := -9223372036854775808 ≤ a ∧ a ≤ 9223372036854775807
def secR (e : SE) : Res := cl e.b 69 (sv e.y)
abbrev DG.str (g : DG) : List Value := [.slice (some ⟨g.kb, 0, none⟩) g.kept.length g.kept.length, .map (some g.mb), .bool g.down, .int .i64 g.done, .int .i64 g.cut]
abbrev DG.L (g : DG) (d : Nat) : List Res := [cl d 60 g.str, cl g.kb 69 (g.kept.flatMap sv), mp g.mb (g.es.map SE.me) g.c, all (g.es.map secR)]
def DevR (d : Nat) (g : DG) : Res := all (g.L d)
structure DG.Ok (g : DG) : Prop where
  mok : MOk (g.es.map SE.me) g.c
  keys : ∀ e ∈ g.es, e.k < g.kept.length
  n1 : 1 ≤ g.kept.length
  n2 : g.kept.length ≤ 4096
  cut : I64 g.cut
theorem DevR.precise (d : Nat) (g : DG) : Precise (DevR d g) := Precise.all fun r hr => by
  simp only [List.mem_cons, List.not_mem_nil, or_false] at hr
  rcases hr with rfl | rfl | rfl | rfl
  · exact Precise.pt _ _
  · exact Precise.pt _ _
  · exact Precise.pt _ _
  · exact Precise.all (Precise.map _ _ fun e => Precise.pt _ _)
theorem DevR.wild (d : Nat) (g : DG) : (DevR d g).wild = false := by
  show (g.L d).any (·.wild) = false
  simp only [DG.L, List.any_cons, List.any_nil, Bool.or_false]
  show (false || (false || (false || (g.es.map secR).any (·.wild)))) = false
  rw [Bool.false_or, Bool.false_or, Bool.false_or, List.any_eq_false]
  intro r hr
  obtain ⟨e, _, rfl⟩ := List.mem_map.1 hr
  exact Bool.false_ne_true
theorem ret_no {p : Prop} [Decidable p] (h : p → False) : Ending.returned (.bool false) = .returned (.bool (decide p)) := by rw [decide_eq_false h]
theorem ret_yes {p : Prop} [Decidable p] (h : p) : Ending.returned (.bool true) = .returned (.bool (decide p)) := by rw [decide_eq_true h]
theorem ret_iff {p q : Prop} [Decidable p] [Decidable q] (h : p ↔ q) : Ending.returned (.bool (decide p)) = .returned (.bool (decide q)) := by
  have : decide p = decide q := by rw [Bool.eq_iff_iff]; simpa using h
  rw [this]
structure DS where
  kept : List Sec
  loose : Nat → Option Sec
  down : Bool
  done : Int
  cut : Int
def sfind (i : Nat) (es : List SE) : Option Sec := (es.find? fun e => e.k == i).map (·.y)
def DG.v (g : DG) : DS := ⟨g.kept, fun i => sfind i g.es, g.down, g.done, g.cut⟩
def DG.thing (g : DG) : DG := if g.down then g else if g.cut = 0 then { g with down := true } else { g with cut := if 0 < g.cut then g.cut - 1 else g.cut, done := IntKind.i64.wrap (g.done + 1) }
def DG.able (g : DG) : Bool := !g.down && decide (g.cut ≠ 0)
def errE (b : Bool) : Int := if b then 0 else 71
theorem errE_no {b : Bool} (h : errE b ≠ 0) : b = false := by cases b <;> simp_all [errE]
theorem errE_yes {b : Bool} (h : ¬ errE b ≠ 0) : b = true := by cases b <;> simp_all [errE]
theorem DG.t_down {g : DG} (h : g.down = true) : g.thing = g ∧ g.able = false := by unfold DG.thing DG.able; simp [h]
theorem DG.t_cut {g : DG} (h : g.down = false) (h2 : g.cut = 0) : g.thing = { g with down := true } ∧ g.able = false := by unfold DG.thing DG.able; simp [h, h2]
theorem DG.t_dec {g : DG} (h : g.down = false) (h2 : 0 < g.cut) : g.thing = { g with cut := g.cut - 1, done := IntKind.i64.wrap (g.done + 1) } ∧ g.able = true := by
  unfold DG.thing DG.able
  rw [h, if_neg (by simp), if_neg (by omega), if_pos h2]
  simp; omega
theorem DG.t_go {g : DG} (h : g.down = false) (h2 : g.cut < 0) : g.thing = { g with done := IntKind.i64.wrap (g.done + 1) } ∧ g.able = true := by
  unfold DG.thing DG.able
  rw [h, if_neg (by simp), if_neg (by omega), if_neg (by omega)]
  simp; omega
theorem DG.thing_ok {g : DG} (h : g.Ok) : g.thing.Ok := by
  have hc := h.cut
  unfold I64 at hc
  unfold DG.thing
  repeat' split
  · exact h
  · exact ⟨h.mok, h.keys, h.n1, h.n2, h.cut⟩
  · exact ⟨h.mok, h.keys, h.n1, h.n2, by simp only [I64]; omega⟩
  · exact ⟨h.mok, h.keys, h.n1, h.n2, h.cut⟩
def ptr (d : Nat) : Value := .pointer (some ⟨d, 0, none⟩)
theorem fo60_0 : K.fieldOff Tryz.prog 60 0 = some (57, 0, 1) := by kernel_rfl
/- (*turntable/dev.Dev).is -/
set_option maxHeartbeats 1000000 in
set_option maxRecDepth 100000 in
theorem is_con {d : Nat} {g : DG} (i : Int) {w : World} (ho : (DevR d g).ok w.heap) :
    Calls Tryz.prog 37 #[.pointer (some ⟨d, 0, none⟩), .int .i64 i] w fun e w' => e = .returned (.bool (decide (0 ≤ i ∧ i < g.kept.length))) ∧ Tr w [] w' [] := by
  refine K.enter (args := [_, _]) Tryz.func37 rfl Tryz.ntmps37 rfl (Disj.one _) (by intro r hr; simp only [List.mem_singleton] at hr; subst hr; exact ho) ?_
  refine K.GC.opened1 ?_
  refine K.GC.seq ?_
  refine K.GC.region ?_
  refine K.GL.det (K.e_assign rfl) rfl ?_
  refine K.GL.nil ?_
  refine K.GQ.go ?_
  refine K.GC.seq ?_
  refine K.GC.region ?_
  refine K.GL.det (K.e_move rfl) rfl ?_
  first | refine K.GL.det ((K.e_ge rfl rfl).yes (by first | omega | assumption | decide +kernel)) rfl ?_ | refine K.GL.det ((K.e_ge rfl rfl).no (by first | omega | assumption | decide +kernel)) rfl ?_ | refine K.GL.det (K.e_ge rfl rfl) rfl ?_
  refine K.GL.det (K.e_move rfl) rfl ?_
  first | refine K.GL.splitB 7 rfl (fun h1 => ?_) (fun h1 => ?_) | skip
  all_goals first | exact absurd h1 (by decide) | replace h1 := of_decide_eq_true h1 | replace h1 := of_decide_eq_false h1 | skip
  all_goals
    first | (refine K.GL.want 7 rfl rfl rfl ?_; first | refine K.GL.det (K.e_move rfl) rfl ?_) | refine K.GL.skip 7 rfl rfl rfl rfl ?_ | refine K.GL.skipU 7 rfl rfl rfl rfl ?_
    first | (refine K.GL.want 7 rfl rfl rfl ?_; first | refine K.GL.det (K.e_move rfl) rfl ?_) | refine K.GL.skip 7 rfl rfl rfl rfl ?_ | refine K.GL.skipU 7 rfl rfl rfl rfl ?_
    first | (refine K.GL.want 7 rfl rfl rfl ?_; first | refine K.GL.det (K.e_nilCheck rfl) rfl ?_) | refine K.GL.skip 7 rfl rfl rfl rfl ?_ | refine K.GL.skipU 7 rfl rfl rfl rfl ?_
    first | (refine K.GL.want 7 rfl rfl rfl ?_; first | refine K.GL.det (K.e_fieldAddr fo60_0 rfl) rfl ?_) | refine K.GL.skip 7 rfl rfl rfl rfl ?_ | refine K.GL.skipU 7 rfl rfl rfl rfl ?_
    first | (refine K.GL.want 7 rfl rfl rfl ?_; first | refine K.GL.det (K.e_load Tryz.isAgg57 rfl rfl) rfl ?_ | refine K.GL.det (K.e_load0 Tryz.isAgg57 rfl (by assumption)) rfl ?_) | refine K.GL.skip 7 rfl rfl rfl rfl ?_ | refine K.GL.skipU 7 rfl rfl rfl rfl ?_
    first | (refine K.GL.want 7 rfl rfl rfl ?_; first | refine K.GL.det (K.e_len Tryz.underlying57 rfl) rfl ?_) | refine K.GL.skip 7 rfl rfl rfl rfl ?_ | refine K.GL.skipU 7 rfl rfl rfl rfl ?_
    first | (refine K.GL.want 7 rfl rfl rfl ?_; first | refine K.GL.det ((K.e_lt rfl rfl).yes (by first | omega | assumption | decide +kernel)) rfl ?_ | refine K.GL.det ((K.e_lt rfl rfl).no (by first | omega | assumption | decide +kernel)) rfl ?_ | refine K.GL.det (K.e_lt rfl rfl) rfl ?_) | refine K.GL.skip 7 rfl rfl rfl rfl ?_ | refine K.GL.skipU 7 rfl rfl rfl rfl ?_
    first | refine K.GL.det (K.e_pick_t rfl rfl) rfl ?_ | refine K.GL.det (K.e_pick_f rfl rfl) rfl ?_
    refine K.GL.det (K.e_assign rfl) rfl ?_
    refine K.GL.nil ?_
    refine K.GQ.go ?_
    refine K.GC.ret ?_
    refine K.GQ.ret1 Tryz.results37 rfl (fun w hT => ?_)
    first | exact ⟨ret_yes (by omega), hT.one.calmed ho (DevR.precise d g) (DevR.wild d g)⟩ | exact ⟨ret_no (by omega), hT.one.calmed ho (DevR.precise d g) (DevR.wild d g)⟩ | exact ⟨ret_iff (by omega), hT.one.calmed ho (DevR.precise d g) (DevR.wild d g)⟩
theorem fo60_2 : K.fieldOff Tryz.prog 60 2 = some (4, 2, 1) := by kernel_rfl
theorem fo60_3 : K.fieldOff Tryz.prog 60 3 = some (3, 3, 1) := by kernel_rfl
theorem fo60_4 : K.fieldOff Tryz.prog 60 4 = some (3, 4, 1) := by kernel_rfl
/- (*turntable/dev.Dev).thing -/
set_option maxHeartbeats 1000000 in
set_option maxRecDepth 100000 in
theorem thing_con {d : Nat} {g : DG} (hk : g.Ok) {w : World} (ho : (DevR d g).ok w.heap) :
    Calls Tryz.prog 38 #[.pointer (some ⟨d, 0, none⟩)] w fun e w' => e = .returned (.int .i64 (errE g.able)) ∧ Tr w [DevR d g] w' [DevR d g.thing] := by
  have hcut := hk.cut
  unfold I64 at hcut
  refine K.enter (args := [_]) Tryz.func38 rfl Tryz.ntmps38 rfl (Disj.one _) (by intro r hr; simp only [List.mem_singleton] at hr; subst hr; exact ho) ?_
  refine K.GC.opened1 ?_
  refine K.GC.seq ?_
  refine K.GC.region ?_
  refine K.GL.det (K.e_assign rfl) rfl ?_
  refine K.GL.nil ?_
  refine K.GQ.go ?_
  refine K.GC.seq ?_
  refine K.GC.block ?_
  refine K.GC.seq ?_
  refine K.GC.block ?_
  refine K.GC.seq ?_
  refine K.GC.block ?_
  refine K.GC.seq ?_
  refine K.GC.block ?_
  refine K.GC.seq ?_
  refine K.GC.block ?_
  refine K.GC.seq ?_
  refine K.GC.seq ?_
  refine K.GC.seq ?_
  refine K.GC.region ?_
  refine K.GL.det (K.e_move rfl) rfl ?_
  refine K.GL.det (K.e_nilCheck rfl) rfl ?_
  refine K.GL.det (K.e_fieldAddr fo60_2 rfl) rfl ?_
  first | refine K.GL.det (K.e_load Tryz.isAgg4 rfl rfl) rfl ?_ | refine K.GL.det (K.e_load0 Tryz.isAgg4 rfl (by assumption)) rfl ?_
  refine K.GL.det (K.e_assign rfl) rfl ?_
  refine K.GL.nil ?_
  refine K.GQ.go ?_
  refine K.GC.condB rfl (fun h1 => ?_) (fun h1 => ?_)
  · first
    | exact absurd h1 (by decide)
    | try replace h1 := of_decide_eq_true h1
      refine K.GC.exit ?_
      refine K.GQ.then_exit ?_
      refine K.GQ.then_exit ?_
      refine K.GQ.block_hit ?_
      refine K.GQ.go ?_
      refine K.GC.seq ?_
      refine K.GC.seq ?_
      refine K.GC.region ?_
      refine K.GL.det (K.e_assign rfl) rfl ?_
      refine K.GL.nil ?_
      refine K.GQ.go ?_
      refine K.GC.ret ?_
      refine K.GQ.then_ret ?_
      refine K.GQ.block_ret ?_
      refine K.GQ.then_ret ?_
      refine K.GQ.block_ret ?_
      refine K.GQ.then_ret ?_
      refine K.GQ.block_ret ?_
      refine K.GQ.then_ret ?_
      refine K.GQ.block_ret ?_
      refine K.GQ.then_ret ?_
      refine K.GQ.ret1 Tryz.results38 rfl (fun w hT => ?_)
      first
        | (have et := DG.t_down (g := g) (by assumption); rw [et.1, et.2]; exact ⟨rfl, hT.one⟩)
        | (have et := DG.t_cut (g := g) (by assumption) (by assumption); rw [et.1, et.2]; exact ⟨rfl, hT.one⟩)
        | (have et := DG.t_dec (g := g) (by assumption) (by omega); rw [et.1, et.2]; exact ⟨rfl, hT.one⟩)
        | (have et := DG.t_go (g := g) (by assumption) (by omega); rw [et.1, et.2]; exact ⟨rfl, hT.one⟩)
  · first
    | exact absurd h1 (by decide)
    | try replace h1 := of_decide_eq_false h1
      refine K.GC.skip ?_
      refine K.GQ.go ?_
      refine K.GC.seq ?_
      refine K.GC.seq ?_
      refine K.GC.region ?_
      refine K.GL.det (K.e_move rfl) rfl ?_
      refine K.GL.det (K.e_nilCheck rfl) rfl ?_
      refine K.GL.det (K.e_fieldAddr fo60_4 rfl) rfl ?_
      first | refine K.GL.det (K.e_load Tryz.isAgg3 rfl rfl) rfl ?_ | refine K.GL.det (K.e_load0 Tryz.isAgg3 rfl (by assumption)) rfl ?_
      first | refine K.GL.det ((K.e_eq rfl rfl).yes (by first | omega | assumption | decide +kernel)) rfl ?_ | refine K.GL.det ((K.e_eq rfl rfl).no (by first | omega | assumption | decide +kernel)) rfl ?_ | refine K.GL.det (K.e_eq rfl rfl) rfl ?_
      refine K.GL.det (K.e_assign rfl) rfl ?_
      refine K.GL.nil ?_
      refine K.GQ.go ?_
      refine K.GC.condB rfl (fun h2 => ?_) (fun h2 => ?_)
      · first
        | exact absurd h2 (by decide)
        | try replace h2 := of_decide_eq_true h2
          refine K.GC.exit ?_
          refine K.GQ.then_exit ?_
          refine K.GQ.then_exit ?_
          refine K.GQ.block_miss rfl ?_
          refine K.GQ.then_exit ?_
          refine K.GQ.block_hit ?_
          refine K.GQ.go ?_
          refine K.GC.seq ?_
          refine K.GC.seq ?_
          refine K.GC.region ?_
          refine K.GL.det (K.e_move rfl) rfl ?_
          refine K.GL.det (K.e_nilCheck rfl) rfl ?_
          refine K.GL.det (K.e_fieldAddr fo60_2 rfl) rfl ?_
          refine K.GL.store rfl rfl rfl Tryz.sizeOf4 rfl rfl ?_
          refine K.GL.nil ?_
          refine K.GQ.go ?_
          refine K.GC.seq ?_
          refine K.GC.region ?_
          refine K.GL.det (K.e_assign rfl) rfl ?_
          refine K.GL.nil ?_
          refine K.GQ.go ?_
          refine K.GC.ret ?_
          refine K.GQ.then_ret ?_
          refine K.GQ.block_ret ?_
          refine K.GQ.then_ret ?_
          refine K.GQ.block_ret ?_
          refine K.GQ.then_ret ?_
          refine K.GQ.block_ret ?_
          refine K.GQ.then_ret ?_
          refine K.GQ.ret1 Tryz.results38 rfl (fun w hT => ?_)
          first
            | (have et := DG.t_down (g := g) (by assumption); rw [et.1, et.2]; exact ⟨rfl, hT.one⟩)
            | (have et := DG.t_cut (g := g) (by assumption) (by assumption); rw [et.1, et.2]; exact ⟨rfl, hT.one⟩)
            | (have et := DG.t_dec (g := g) (by assumption) (by omega); rw [et.1, et.2]; exact ⟨rfl, hT.one⟩)
            | (have et := DG.t_go (g := g) (by assumption) (by omega); rw [et.1, et.2]; exact ⟨rfl, hT.one⟩)
      · first
        | exact absurd h2 (by decide)
        | try replace h2 := of_decide_eq_false h2
          refine K.GC.skip ?_
          refine K.GQ.go ?_
          refine K.GC.seq ?_
          refine K.GC.region ?_
          refine K.GL.det (K.e_move rfl) rfl ?_
          refine K.GL.det (K.e_nilCheck rfl) rfl ?_
          refine K.GL.det (K.e_fieldAddr fo60_4 rfl) rfl ?_
          first | refine K.GL.det (K.e_load Tryz.isAgg3 rfl rfl) rfl ?_ | refine K.GL.det (K.e_load0 Tryz.isAgg3 rfl (by assumption)) rfl ?_
          first | refine K.GL.det ((K.e_gt rfl rfl).yes (by first | omega | assumption | decide +kernel)) rfl ?_ | refine K.GL.det ((K.e_gt rfl rfl).no (by first | omega | assumption | decide +kernel)) rfl ?_ | refine K.GL.det (K.e_gt rfl rfl) rfl ?_
          refine K.GL.det (K.e_assign rfl) rfl ?_
          refine K.GL.nil ?_
          refine K.GQ.go ?_
          refine K.GC.condB rfl (fun h3 => ?_) (fun h3 => ?_)
          · first
            | exact absurd h3 (by decide)
            | try replace h3 := of_decide_eq_true h3
              refine K.GC.exit ?_
              refine K.GQ.then_exit ?_
              refine K.GQ.block_miss rfl ?_
              refine K.GQ.then_exit ?_
              refine K.GQ.block_miss rfl ?_
              refine K.GQ.then_exit ?_
              refine K.GQ.block_hit ?_
              refine K.GQ.go ?_
              refine K.GC.region ?_
              refine K.GL.det (K.e_move rfl) rfl ?_
              refine K.GL.det (K.e_nilCheck rfl) rfl ?_
              refine K.GL.det (K.e_fieldAddr fo60_4 rfl) rfl ?_
              first | refine K.GL.det (K.e_load Tryz.isAgg3 rfl rfl) rfl ?_ | refine K.GL.det (K.e_load0 Tryz.isAgg3 rfl (by assumption)) rfl ?_
              refine K.GL.det ((K.e_sub rfl rfl ⟨by omega, by omega⟩)) rfl ?_
              refine K.GL.det (K.e_nilCheck rfl) rfl ?_
              refine K.GL.det (K.e_fieldAddr fo60_4 rfl) rfl ?_
              refine K.GL.store rfl rfl rfl Tryz.sizeOf3 rfl rfl ?_
              refine K.GL.nil ?_
              refine K.GQ.block_normal ?_
              refine K.GQ.go ?_
              refine K.GC.seq ?_
              refine K.GC.region ?_
              refine K.GL.det (K.e_move rfl) rfl ?_
              refine K.GL.det (K.e_nilCheck rfl) rfl ?_
              refine K.GL.det (K.e_fieldAddr fo60_3 rfl) rfl ?_
              first | refine K.GL.det (K.e_load Tryz.isAgg3 rfl rfl) rfl ?_ | refine K.GL.det (K.e_load0 Tryz.isAgg3 rfl (by assumption)) rfl ?_
              refine K.GL.det ((K.e_addw rfl rfl)) rfl ?_
              refine K.GL.det (K.e_nilCheck rfl) rfl ?_
              refine K.GL.det (K.e_fieldAddr fo60_3 rfl) rfl ?_
              refine K.GL.store rfl rfl rfl Tryz.sizeOf3 rfl rfl ?_
              refine K.GL.nil ?_
              refine K.GQ.go ?_
              refine K.GC.exit ?_
              refine K.GQ.block_hit ?_
              refine K.GQ.go ?_
              refine K.GC.seq ?_
              refine K.GC.region ?_
              refine K.GL.det (K.e_assign rfl) rfl ?_
              refine K.GL.nil ?_
              refine K.GQ.go ?_
              refine K.GC.ret ?_
              refine K.GQ.ret1 Tryz.results38 rfl (fun w hT => ?_)
              first
                | (have et := DG.t_down (g := g) (by assumption); rw [et.1, et.2]; exact ⟨rfl, hT.one⟩)
                | (have et := DG.t_cut (g := g) (by assumption) (by assumption); rw [et.1, et.2]; exact ⟨rfl, hT.one⟩)
                | (have et := DG.t_dec (g := g) (by assumption) (by omega); rw [et.1, et.2]; exact ⟨rfl, hT.one⟩)
                | (have et := DG.t_go (g := g) (by assumption) (by omega); rw [et.1, et.2]; exact ⟨rfl, hT.one⟩)
          · first
            | exact absurd h3 (by decide)
            | try replace h3 := of_decide_eq_false h3
              refine K.GC.skip ?_
              refine K.GQ.go ?_
              refine K.GC.exit ?_
              refine K.GQ.block_miss rfl ?_
              refine K.GQ.then_exit ?_
              refine K.GQ.block_miss rfl ?_
              refine K.GQ.then_exit ?_
              refine K.GQ.block_miss rfl ?_
              refine K.GQ.then_exit ?_
              refine K.GQ.block_hit ?_
              refine K.GQ.go ?_
              refine K.GC.seq ?_
              refine K.GC.region ?_
              refine K.GL.det (K.e_move rfl) rfl ?_
              refine K.GL.det (K.e_nilCheck rfl) rfl ?_
              refine K.GL.det (K.e_fieldAddr fo60_3 rfl) rfl ?_
              first | refine K.GL.det (K.e_load Tryz.isAgg3 rfl rfl) rfl ?_ | refine K.GL.det (K.e_load0 Tryz.isAgg3 rfl (by assumption)) rfl ?_
              refine K.GL.det ((K.e_addw rfl rfl)) rfl ?_
              refine K.GL.det (K.e_nilCheck rfl) rfl ?_
              refine K.GL.det (K.e_fieldAddr fo60_3 rfl) rfl ?_
              refine K.GL.store rfl rfl rfl Tryz.sizeOf3 rfl rfl ?_
              refine K.GL.nil ?_
              refine K.GQ.go ?_
              refine K.GC.exit ?_
              refine K.GQ.block_hit ?_
              refine K.GQ.go ?_
              refine K.GC.seq ?_
              refine K.GC.region ?_
              refine K.GL.det (K.e_assign rfl) rfl ?_
              refine K.GL.nil ?_
              refine K.GQ.go ?_
              refine K.GC.ret ?_
              refine K.GQ.ret1 Tryz.results38 rfl (fun w hT => ?_)
              first
                | (have et := DG.t_down (g := g) (by assumption); rw [et.1, et.2]; exact ⟨rfl, hT.one⟩)
                | (have et := DG.t_cut (g := g) (by assumption) (by assumption); rw [et.1, et.2]; exact ⟨rfl, hT.one⟩)
                | (have et := DG.t_dec (g := g) (by assumption) (by omega); rw [et.1, et.2]; exact ⟨rfl, hT.one⟩)
                | (have et := DG.t_go (g := g) (by assumption) (by omega); rw [et.1, et.2]; exact ⟨rfl, hT.one⟩)

class Pick (L : List Res) (d : Nat) (g : outParam DG) (F : outParam (List Res)) : Prop where
  sub : Sub ([DevR d g] ++ F) L
  mem : DevR d g ∈ L
instance Pick.head {L : List Res} {d : Nat} {g : DG} : Pick (DevR d g :: L) d g L := ⟨Sub.refl _, List.mem_cons_self⟩
instance Pick.tail {L F : List Res} {r : Res} {d : Nat} {g : DG} [h : Pick L d g F] : Pick (r :: L) d g (r :: F) := ⟨by
  obtain ⟨σ, h1, h2⟩ := h.sub
  refine ⟨fun i => match i with | 0 => σ 0 + 1 | 1 => 0 | i + 2 => σ (i + 1) + 1, fun i j => ?_, fun i s => ?_⟩
  · match i, j with
    | 0, 0 => exact fun _ => rfl
    | 0, 1 => exact fun e => absurd e (by simp)
    | 0, j + 2 => intro e; have := h1 0 (j + 1) (by simpa using e); omega
    | 1, 0 => exact fun e => absurd e (by simp)
    | 1, 1 => exact fun _ => rfl
    | 1, j + 2 => exact fun e => absurd e (by simp)
    | i + 2, 0 => intro e; have := h1 (i + 1) 0 (by simpa using e); omega
    | i + 2, 1 => exact fun e => absurd e (by simp)
    | i + 2, j + 2 => intro e; have := h1 (i + 1) (j + 1) (by simpa using e); omega
  · match i with
    | 0 => intro e; simpa using h2 0 s (by simpa using e)
    | 1 => intro e; simpa using e
    | i + 2 => intro e; simpa using h2 (i + 1) s (by simpa using e), List.mem_cons_of_mem _ h.mem⟩


section
variable {ops : Array Oper} {Q : Exit → Act → World → Prop} {N : Nat} {U : Env} {w0 : World} {L0 L F : List Res} {ty : TypeId} {rest : List Oper} {pos : String} {after : Array Edge} {d : Nat} {g : DG} {xs : List Operand} {tys : Array TypeId} {t : Tmp}
theorem gl_thing (hf : ∀ args w, (callFunc 38 args).run Tryz.prog w = .ok (.enter 38 args) w) (hx : opvs U xs = some [.pointer (some ⟨d, 0, none⟩)]) [hp : Pick L d g F] (hk : g.Ok) (hd : Nat.ble (t + 1) N = true)
    (hr : GL Tryz.prog ops Q rest N ((t, .int .i64 (errE g.able)) :: U) w0 L0 (DevR d g.thing :: F)) : GL Tryz.prog ops Q (⟨some t, .call ⟨.value (.func 38), xs.toArray, tys⟩, ty, pos, after, Option.none⟩ :: rest) N U w0 L0 L :=
  GL.callM (α := Unit) (Pv := fun _ v => v = .int .i64 (errE g.able)) (l' := fun _ => [DevR d g.thing]) hf hx hp.sub (fun w hT => (thing_con hk (hT.ok _ hp.mem)).mono fun e w' ⟨he, ht⟩ => ⟨(), _, he, rfl, ht⟩) hd fun _ v hv => by subst hv; exact hr
end


/-! ### What the calls do, in plain terms -/
def DS.thing (s : DS) : DS := if s.down then s else if s.cut = 0 then { s with down := true } else { s with cut := if 0 < s.cut then s.cut - 1 else s.cut, done := IntKind.i64.wrap (s.done + 1) }
def DS.able (s : DS) : Bool := !s.down && decide (s.cut ≠ 0)
theorem DG.v_thing (g : DG) : g.thing.v = g.v.thing := by
  unfold DG.thing DS.thing DG.v
  repeat' split
  all_goals first | rfl | contradiction | omega
theorem DG.thing_kept (g : DG) : g.thing.kept = g.kept := by
  unfold DG.thing
  repeat' split
  all_goals rfl
def DS.write (s : DS) (i : Int) (bs : Bytes) : DS × Int :=
  if h : (0 ≤ i ∧ i < s.kept.length) ∧ bs.length = 64 then
    if s.able then ({ s.thing with loose := fun j => if j = i.toNat then some ⟨bs, h.2⟩ else s.thing.loose j }, 0) else (s.thing, 71)
  else (s, 1)
theorem DS.write_bad {s : DS} {i : Int} {bs : Bytes} (h : ¬ ((0 ≤ i ∧ i < s.kept.length) ∧ bs.length = 64)) : s.write i bs = (s, 1) := by unfold DS.write; rw [dif_neg h]
theorem DS.write_down {s : DS} {i : Int} {bs : Bytes} (h : (0 ≤ i ∧ i < s.kept.length) ∧ bs.length = 64) (ha : s.able = false) : s.write i bs = (s.thing, 71) := by unfold DS.write; rw [dif_pos h, if_neg (by rw [ha]; simp)]
theorem DS.write_ok {s : DS} {i : Int} {bs : Bytes} (h : (0 ≤ i ∧ i < s.kept.length) ∧ bs.length = 64) (ha : s.able = true) : s.write i bs = ({ s.thing with loose := fun j => if j = i.toNat then some ⟨bs, h.2⟩ else s.thing.loose j }, 0) := by unfold DS.write; rw [dif_pos h, if_pos ha]
/-! ### An entry is laid -/
def sset (k b : Nat) (y : Sec) : List SE → List SE
  | [] => []
  | e :: es => if e.k = k then ⟨k, b, y, e.n⟩ :: es else e :: sset k b y es
theorem sset_me (k b : Nat) (y : Sec) : ∀ es : List SE, mset (k : Int) (.pointer (some ⟨b, 0, none⟩)) (es.map SE.me) = (sset k b y es).map SE.me
  | [] => rfl
  | e :: es => by
    have ih := sset_me k b y es
    simp only [List.map_cons, mset, sset, SE.me]
    by_cases h : e.k = k
    · rw [if_pos h, if_pos (by omega)]; simp [SE.me]
    · rw [if_neg h, if_neg (by omega)]; simp only [List.map_cons]; rw [ih]; simp [SE.me]
theorem sset_keys (k b : Nat) (y : Sec) : ∀ es : List SE, (sset k b y es).map SE.k = es.map SE.k
  | [] => rfl
  | e :: es => by
    simp only [sset]
    by_cases h : e.k = k
    · rw [if_pos h]; simp [h]
    · rw [if_neg h]; simp [sset_keys k b y es]
theorem sset_borns (k b : Nat) (y : Sec) : ∀ es : List SE, (sset k b y es).map SE.n = es.map SE.n
  | [] => rfl
  | e :: es => by
    simp only [sset]
    by_cases h : e.k = k
    · rw [if_pos h]; simp
    · rw [if_neg h]; simp [sset_borns k b y es]
theorem sfind_cons (i : Nat) (e : SE) (es : List SE) : sfind i (e :: es) = if e.k = i then some e.y else sfind i es := by
  unfold sfind
  by_cases h : e.k = i
  · simp [h]
  · simp [h, beq_eq_false_iff_ne.2 h]
theorem sfind_none {i : Nat} : ∀ {es : List SE}, sfind i es = none ↔ ∀ e ∈ es, e.k ≠ i
  | [] => by simp [sfind]
  | e :: es => by
    rw [sfind_cons]
    by_cases h : e.k = i
    · simp [h]
    · simp [h, sfind_none (es := es)]
theorem sset_find (k b : Nat) (y : Sec) (i : Nat) : ∀ es : List SE, (∃ e ∈ es, e.k = k) → sfind i (sset k b y es) = if i = k then some y else sfind i es
  | [], h => by simp at h
  | e :: es, h => by
    simp only [sset]
    by_cases hk : e.k = k
    · rw [if_pos hk, sfind_cons, sfind_cons]
      by_cases hi : i = k
      · simp [hi]
      · rw [if_neg hi, if_neg (by simp only; omega), if_neg (by omega)]
    · rw [if_neg hk, sfind_cons, sfind_cons]
      have ih := sset_find k b y i es (by obtain ⟨e', h1, h2⟩ := h; rcases List.mem_cons.1 h1 with rfl | h3; exact absurd h2 hk; exact ⟨e', h3, h2⟩)
      by_cases hi : e.k = i
      · rw [if_pos hi, if_pos hi, if_neg (by omega)]
      · rw [if_neg hi, if_neg hi, ih]
theorem sset_sub (k b : Nat) (y : Sec) : ∀ es : List SE, Sub ((sset k b y es).map secR) (es.map secR ++ [cl b 69 (sv y)])
  | [] => Sub.nil _
  | e :: es => by
    simp only [sset]
    by_cases h : e.k = k
    · rw [if_pos h]; exact Sub.last _ _ _
    · rw [if_neg h]; exact Sub.cons _ (sset_sub k b y es)
theorem mfind_es {k : Nat} : ∀ {es : List SE}, mfind (k : Int) (es.map SE.me) = none ↔ ∀ e ∈ es, e.k ≠ k
  | [] => by simp [mfind]
  | e :: es => by
    simp only [List.map_cons, mfind, SE.me]
    by_cases h : e.k = k
    · simp [h]
    · rw [if_neg (by omega), mfind_es (k := k) (es := es)]; simp [h]
theorem put_es {es : List SE} {c n : Nat} (hm : MOk (es.map SE.me) c) (hkeys : ∀ e ∈ es, e.k < n) (hn : n ≤ 4096) {k : Nat} (hk : k < n) (b : Nat) (y : Sec) :
    ∃ es' c', mput (k : Int) (.pointer (some ⟨b, 0, none⟩)) (es.map SE.me) c = (es'.map SE.me, c') ∧ MOk (es'.map SE.me) c' ∧ (∀ e ∈ es', e.k < n) ∧ (∀ i, sfind i es' = if i = k then some y else sfind i es) ∧ Sub (es'.map secR) (es.map secR ++ [cl b 69 (sv y)]) := by
  have hkk : ∀ l : List SE, (l.map SE.me).map ME.k = (l.map SE.k).map (fun (j : Nat) => (j : Int)) := fun l => by simp [SE.me, Function.comp_def]
  have hnn : ∀ l : List SE, (l.map SE.me).map ME.n = l.map SE.n := fun l => by simp [SE.me, Function.comp_def]
  by_cases h : ∀ e ∈ es, e.k ≠ k
  · refine ⟨es ++ [⟨k, b, y, c⟩], c + 1, ?_, ⟨?_, ?_, ?_, ?_⟩, ?_, ?_, ?_⟩
    · unfold mput; rw [mfind_es.2 h]; simp [SE.me]
    · intro x hx
      simp only [List.map_append, List.mem_append, List.map_cons, List.map_nil, List.mem_singleton] at hx
      rcases hx with hx | rfl
      · exact Nat.lt_succ_of_lt (hm.lt x hx)
      · exact Nat.lt_succ_self c
    · have := hm.born
      rw [hnn] at this ⊢
      rw [List.map_append, List.nodup_append]
      refine ⟨this, by simp, fun x hx z hz => ?_⟩
      simp only [List.map_cons, List.map_nil, List.mem_singleton] at hz
      subst hz
      obtain ⟨e, he, rfl⟩ := List.mem_map.1 hx
      have := hm.lt _ (List.mem_map.2 ⟨e, he, rfl⟩)
      simp only [SE.me] at this
      omega
    · have := hm.keys
      rw [hkk] at this ⊢
      rw [List.map_append, List.map_append, List.nodup_append]
      refine ⟨this, by simp, fun x hx z hz => ?_⟩
      simp only [List.map_cons, List.map_nil, List.mem_singleton] at hz
      subst hz
      obtain ⟨q, hq, rfl⟩ := List.mem_map.1 hx
      obtain ⟨e, he, rfl⟩ := List.mem_map.1 hq
      have := h e he
      omega
    · intro x hx
      simp only [List.map_append, List.mem_append, List.map_cons, List.map_nil, List.mem_singleton] at hx
      rcases hx with hx | rfl
      · exact hm.wf x hx
      · simp only [SE.me]; omega
    · intro e he
      simp only [List.mem_append, List.mem_singleton] at he
      rcases he with he | rfl
      · exact hkeys e he
      · exact hk
    · intro i
      have : ∀ l : List SE, (∀ e ∈ l, e.k ≠ k) → sfind i (l ++ [⟨k, b, y, c⟩]) = if i = k then some y else sfind i l := by
        intro l
        induction l with
        | nil => intro _; rw [List.nil_append, sfind_cons]; by_cases hi : i = k
                 · simp [hi]
                 · rw [if_neg (by simp only; omega), if_neg hi]
        | cons e l ih =>
          intro hl
          rw [List.cons_append, sfind_cons, sfind_cons, ih (fun e he => hl e (List.mem_cons_of_mem _ he))]
          have := hl e List.mem_cons_self
          by_cases hi : e.k = i
          · rw [if_pos hi, if_pos hi, if_neg (by omega)]
          · rw [if_neg hi, if_neg hi]
      exact this es h
    · rw [List.map_append]; exact Sub.refl _
  · have hex : ∃ e ∈ es, e.k = k := by
      apply Classical.byContradiction
      intro hc
      exact h fun e he hek => hc ⟨e, he, hek⟩
    have hf : ∃ u, mfind (k : Int) (es.map SE.me) = some u := by
      cases hm' : mfind (k : Int) (es.map SE.me) with
      | none => exact absurd (mfind_es.1 hm') h
      | some u => exact ⟨u, rfl⟩
    obtain ⟨u, hu⟩ := hf
    refine ⟨sset k b y es, c, ?_, ⟨?_, ?_, ?_, ?_⟩, ?_, ?_, ?_⟩
    · unfold mput; rw [hu]; simp only [sset_me k b y]
    · intro x hx
      have : x.n ∈ ((sset k b y es).map SE.me).map ME.n := List.mem_map.2 ⟨x, hx, rfl⟩
      rw [hnn, sset_borns, ← hnn] at this
      obtain ⟨z, hz, hzn⟩ := List.mem_map.1 this
      rw [← hzn]; exact hm.lt z hz
    · have := hm.born
      rw [hnn] at this ⊢
      rw [sset_borns]; exact this
    · have := hm.keys
      rw [hkk] at this ⊢
      rw [sset_keys]; exact this
    · intro x hx
      have : x.k ∈ ((sset k b y es).map SE.me).map ME.k := List.mem_map.2 ⟨x, hx, rfl⟩
      rw [hkk, sset_keys, ← hkk] at this
      obtain ⟨z, hz, hzn⟩ := List.mem_map.1 this
      rw [← hzn]; exact hm.wf z hz
    · intro e he
      have : e.k ∈ (sset k b y es).map SE.k := List.mem_map.2 ⟨e, he, rfl⟩
      rw [sset_keys] at this
      obtain ⟨z, hz, hzn⟩ := List.mem_map.1 this
      rw [← hzn]; exact hkeys z hz
    · exact fun i => sset_find k b y i es hex
    · exact sset_sub k b y es


theorem wr_end {g : DG} {d b8 k : Nat} {y : Sec} {w0 w : World} {L0 : List Res} (hk : g.Ok) (hkn : k < g.kept.length)
    (hT : Tr w0 L0 w [cl b8 69 (sv y), cl d 60 g.str, cl g.kb 69 (g.kept.flatMap sv), mp g.mb (mput (k : Int) (.pointer (some ⟨b8, 0, none⟩)) (g.es.map SE.me) g.c).1 (mput (k : Int) (.pointer (some ⟨b8, 0, none⟩)) (g.es.map SE.me) g.c).2, all (g.es.map secR)]) :
    ∃ x : DG, x.Ok ∧ x.v = { g.v with loose := fun j => if j = k then some y else g.v.loose j } ∧ Tr w0 L0 w [DevR d x] := by
  obtain ⟨es', c', e1, m1, k1, f1, s1⟩ := put_es hk.mok hk.keys hk.n2 hkn b8 y
  rw [e1] at hT
  have hT : Tr w0 L0 w [cl b8 69 (sv y), cl d 60 g.str, cl g.kb 69 (g.kept.flatMap sv), mp g.mb (es'.map SE.me) c', all (g.es.map secR)] := hT
  refine ⟨{ g with es := es', c := c' }, ⟨m1, k1, hk.n1, hk.n2, hk.cut⟩, ?_, ?_⟩
  · unfold DG.v; simp only [f1]
  · have h0 := hT.sub (Sub.front (i := 4) rfl)
    have h1 := Tr.opened (F := [cl b8 69 (sv y), cl d 60 g.str, cl g.kb 69 (g.kept.flatMap sv), mp g.mb (es'.map SE.me) c']) h0
    have h2 := h1.sub (Sub.app [cl d 60 g.str, cl g.kb 69 (g.kept.flatMap sv), mp g.mb (es'.map SE.me) c'] s1)
    exact (h2.closed.sub (Sub.rot _ _)).one
theorem arr69 : K.arrOf Tryz.prog 69 = some (64, 5, 1) := by kernel_rfl
theorem fo60_1 : K.fieldOff Tryz.prog 60 1 = some (58, 1, 1) := by kernel_rfl
/- (*turntable/dev.Dev).Write -/
set_option maxHeartbeats 1000000 in
set_option maxRecDepth 100000 in
theorem write_con {d : Nat} {g : DG} (hk : g.Ok) (i : Int) {a : Option Addr} {n c : Nat} {bs : Bytes} {w : World} (ho : (DevR d g).ok w.heap) (hS : Sl w 1 a n (bv bs)) (hfp : 0 < n → ¬ (DevR d g).fp (bk a)) :
    Calls Tryz.prog 14 #[.pointer (some ⟨d, 0, none⟩), .int .i64 i, .slice a n c] w fun e w' => ∃ x : DG, e = .returned (.int .i64 (g.v.write i bs).2) ∧ x.Ok ∧ x.v = (g.v.write i bs).1 ∧ Tr w [DevR d g] w' [DevR d x] := by
  have hbl : bs.length = n := by have := hS.len; rw [bv_length] at this; omega
  refine K.enter (args := [_, _, _]) Tryz.func14 rfl Tryz.ntmps14 rfl (Disj.one _) (by intro r hr; simp only [List.mem_singleton] at hr; subst hr; exact ho) ?_
  refine K.GC.seq ?_
  refine K.GC.region ?_
  refine K.GL.det (K.e_assign rfl) rfl ?_
  refine K.GL.nil ?_
  refine K.GQ.go ?_
  refine K.GC.seq ?_
  refine K.GC.seq ?_
  refine K.GC.region ?_
  refine K.GL.det (K.e_move rfl) rfl ?_
  refine K.GL.det (K.e_move rfl) rfl ?_
  refine K.GL.det (K.e_call1 Tryz.call37 rfl (fun w hT => is_con _ (hT.ok _ Pick.mem))) rfl ?_
  first | refine K.GL.det (K.e_notp rfl) rfl ?_ | refine K.GL.det (K.e_not rfl) rfl ?_
  refine K.GL.det (K.e_move rfl) rfl ?_
  first | refine K.GL.splitB 13 rfl (fun h1 => ?_) (fun h1 => ?_) | skip
  all_goals first | exact absurd h1 (by decide) | replace h1 := of_decide_eq_true h1 | replace h1 := of_decide_eq_false h1 | skip
  all_goals
    first | (refine K.GL.want 13 rfl rfl rfl ?_; first | refine K.GL.det (K.e_move rfl) rfl ?_) | refine K.GL.skip 13 rfl rfl rfl rfl ?_ | refine K.GL.skipU 13 rfl rfl rfl rfl ?_
    first | (refine K.GL.want 13 rfl rfl rfl ?_; first | refine K.GL.det (K.e_len Tryz.underlying32 rfl) rfl ?_) | refine K.GL.skip 13 rfl rfl rfl rfl ?_ | refine K.GL.skipU 13 rfl rfl rfl rfl ?_
    first | (refine K.GL.want 13 rfl rfl rfl ?_; first | refine K.GL.det ((K.e_ne rfl rfl).yes (by first | omega | assumption | decide +kernel)) rfl ?_ | refine K.GL.det ((K.e_ne rfl rfl).no (by first | omega | assumption | decide +kernel)) rfl ?_ | refine K.GL.det (K.e_ne rfl rfl) rfl ?_) | refine K.GL.skip 13 rfl rfl rfl rfl ?_ | refine K.GL.skipU 13 rfl rfl rfl rfl ?_
    first | refine K.GL.det (K.e_pick_t rfl rfl) rfl ?_ | refine K.GL.det (K.e_pick_f rfl rfl) rfl ?_
    refine K.GL.nil ?_
    refine K.GQ.go ?_
    refine K.GC.condB rfl (fun h2 => ?_) (fun h2 => ?_)
    · first
      | exact absurd h2 (by decide)
      | try replace h2 := of_decide_eq_true h2
        refine K.GC.seq ?_
        refine K.GC.region ?_
        refine K.GL.det (K.e_assign rfl) rfl ?_
        refine K.GL.nil ?_
        refine K.GQ.go ?_
        refine K.GC.ret ?_
        refine K.GQ.then_ret ?_
        refine K.GQ.ret1 Tryz.results14 rfl (fun w hT => ?_)
        first
          | (rw [DS.write_bad (by show ¬ ((0 ≤ i ∧ i < (g.kept.length : Int)) ∧ bs.length = 64); rw [hbl]; omega)]; exact ⟨g, rfl, hk, rfl, hT⟩)
          | (rw [DS.write_down (by show ((0 ≤ i ∧ i < (g.kept.length : Int)) ∧ bs.length = 64); rw [hbl]; omega) (errE_no (by assumption))]; exact ⟨g.thing, by rw [errE_no (b := g.able) (by assumption)]; rfl, DG.thing_ok hk, DG.v_thing g, hT⟩)
          | (rw [DS.write_ok (s := g.v) (i := (k : Int)) (bs := bs) (by show ((0 ≤ (k : Int) ∧ (k : Int) < (g.kept.length : Int)) ∧ bs.length = 64); rw [hbl]; omega) hab]
             obtain ⟨x, hx1, hx2, hx3⟩ := wr_end (y := ⟨bs, hbl.trans hn64⟩) (DG.thing_ok hk) hkn hT
             exact ⟨x, rfl, hx1, by rw [hx2, DG.v_thing]; rfl, hx3⟩)
    · first
      | exact absurd h2 (by decide)
      | try replace h2 := of_decide_eq_false h2
        refine K.GC.skip ?_
        refine K.GQ.go ?_
        refine K.GC.seq ?_
        refine K.GC.seq ?_
        refine K.GC.region ?_
        refine K.GL.det (K.e_move rfl) rfl ?_
        refine gl_thing Tryz.call38 rfl (by assumption) rfl ?_
        refine K.GL.det (K.e_assign rfl) rfl ?_
        refine K.GL.nil ?_
        refine K.GQ.go ?_
        refine K.GC.seq ?_
        refine K.GC.region ?_
        refine K.GL.det (K.e_move rfl) rfl ?_
        first | refine K.GL.det ((K.e_ne rfl rfl).yes (by first | omega | assumption | decide +kernel)) rfl ?_ | refine K.GL.det ((K.e_ne rfl rfl).no (by first | omega | assumption | decide +kernel)) rfl ?_ | refine K.GL.det (K.e_ne rfl rfl) rfl ?_
        refine K.GL.nil ?_
        refine K.GQ.go ?_
        refine K.GC.condB rfl (fun h3 => ?_) (fun h3 => ?_)
        · first
          | exact absurd h3 (by decide)
          | try replace h3 := of_decide_eq_true h3
            refine K.GC.seq ?_
            refine K.GC.region ?_
            refine K.GL.det (K.e_move rfl) rfl ?_
            refine K.GL.det (K.e_assign rfl) rfl ?_
            refine K.GL.nil ?_
            refine K.GQ.go ?_
            refine K.GC.ret ?_
            refine K.GQ.then_ret ?_
            refine K.GQ.ret1 Tryz.results14 rfl (fun w hT => ?_)
            first
              | (rw [DS.write_bad (by show ¬ ((0 ≤ i ∧ i < (g.kept.length : Int)) ∧ bs.length = 64); rw [hbl]; omega)]; exact ⟨g, rfl, hk, rfl, hT⟩)
              | (rw [DS.write_down (by show ((0 ≤ i ∧ i < (g.kept.length : Int)) ∧ bs.length = 64); rw [hbl]; omega) (errE_no (by assumption))]; exact ⟨g.thing, by rw [errE_no (b := g.able) (by assumption)]; rfl, DG.thing_ok hk, DG.v_thing g, hT⟩)
              | (rw [DS.write_ok (s := g.v) (i := (k : Int)) (bs := bs) (by show ((0 ≤ (k : Int) ∧ (k : Int) < (g.kept.length : Int)) ∧ bs.length = 64); rw [hbl]; omega) hab]
                 obtain ⟨x, hx1, hx2, hx3⟩ := wr_end (y := ⟨bs, hbl.trans hn64⟩) (DG.thing_ok hk) hkn hT
                 exact ⟨x, rfl, hx1, by rw [hx2, DG.v_thing]; rfl, hx3⟩)
        · first
          | exact absurd h3 (by decide)
          | try replace h3 := of_decide_eq_false h3
            refine K.GC.skip ?_
            refine K.GQ.go ?_
            refine K.GC.seq ?_
            obtain ⟨k, rfl⟩ := Int.eq_ofNat_of_zero_le (show 0 ≤ i by omega)
            refine K.GC.opened1 ?_
            have hn64 : n = 64 := by omega
            have hkn : k < g.thing.kept.length := by rw [DG.thing_kept]; omega
            have hab : g.able = true := errE_yes (by assumption)
            have hfp2 : ∀ r ∈ [DevR d g], ¬ r.fp (bk a) := by intro r hr; simp only [List.mem_singleton] at hr; subst hr; exact hfp (by omega)
            have ha := hS.base (by omega)
            rw [ha]
            refine K.GC.region ?_
            refine K.GL.det (K.e_move rfl) rfl ?_
            refine K.GL.det (K.e_arrayAt arr69 rfl (by omega)) rfl ?_
            refine K.GL.det (K.e_loadsw Tryz.isAgg69 Tryz.sizeOf69 rfl (fun w hT => (hS.stay hT hfp2).cell) (by rw [bv_length]; omega)) rfl ?_
            refine K.GL.alloc Tryz.zeroValue69 rfl rfl (fun b8 => ?_)
            refine K.GL.storeP (cs' := bv bs) rfl rfl rfl Tryz.sizeOf69 (by rw [bv_length]; omega) (oneCells_bv _) (spliceO_all (by rw [bv_length]; show bs.length = 64; omega)) ?_
            refine K.GL.nil ?_
            refine K.GQ.go ?_
            refine K.GC.seq ?_
            refine K.GC.region ?_
            refine K.GL.det (K.e_move rfl) rfl ?_
            refine K.GL.det (K.e_nilCheck rfl) rfl ?_
            refine K.GL.det (K.e_fieldAddr fo60_1 rfl) rfl ?_
            first | refine K.GL.det (K.e_load Tryz.isAgg58 rfl rfl) rfl ?_ | refine K.GL.det (K.e_load0 Tryz.isAgg58 rfl (by assumption)) rfl ?_
            refine K.GL.det (K.e_move rfl) rfl ?_
            refine K.GL.mapUpdate Tryz.underlying58 Tryz.underlying3 rfl rfl rfl ?_
            refine K.GL.nil ?_
            refine K.GQ.go ?_
            refine K.GC.seq ?_
            refine K.GC.region ?_
            refine K.GL.det (K.e_assign rfl) rfl ?_
            refine K.GL.nil ?_
            refine K.GQ.go ?_
            refine K.GC.ret ?_
            refine K.GQ.ret1 Tryz.results14 rfl (fun w hT => ?_)
            first
              | (rw [DS.write_bad (by show ¬ ((0 ≤ i ∧ i < (g.kept.length : Int)) ∧ bs.length = 64); rw [hbl]; omega)]; exact ⟨g, rfl, hk, rfl, hT⟩)
              | (rw [DS.write_down (by show ((0 ≤ i ∧ i < (g.kept.length : Int)) ∧ bs.length = 64); rw [hbl]; omega) (errE_no (by assumption))]; exact ⟨g.thing, by rw [errE_no (b := g.able) (by assumption)]; rfl, DG.thing_ok hk, DG.v_thing g, hT⟩)
              | (rw [DS.write_ok (s := g.v) (i := (k : Int)) (bs := bs) (by show ((0 ≤ (k : Int) ∧ (k : Int) < (g.kept.length : Int)) ∧ bs.length = 64); rw [hbl]; omega) hab]
                 obtain ⟨x, hx1, hx2, hx3⟩ := wr_end (y := ⟨bs, hbl.trans hn64⟩) (DG.thing_ok hk) hkn hT
                 exact ⟨x, rfl, hx1, by rw [hx2, DG.v_thing]; rfl, hx3⟩)

def DS.at (s : DS) (i : Nat) : Option Sec := match s.loose i with
  | some y => some y
  | none => s.kept[i]?
def DS.read (s : DS) (i : Int) : Bytes × Int :=
  if 0 ≤ i ∧ i < s.kept.length then if s.down then ([], 71) else match s.at i.toNat with
    | some y => (y.1, 0)
    | none => ([], 0)
  else ([], 1)
theorem DS.read_bad {s : DS} {i : Int} (h : ¬ (0 ≤ i ∧ i < s.kept.length)) : s.read i = ([], 1) := by unfold DS.read; rw [if_neg h]
theorem DS.read_down {s : DS} {i : Int} (h : 0 ≤ i ∧ i < s.kept.length) (hd : s.down = true) : s.read i = ([], 71) := by unfold DS.read; rw [if_pos h, if_pos hd]
theorem DS.read_ok {s : DS} {i : Int} {y : Sec} (h : 0 ≤ i ∧ i < s.kept.length) (hd : s.down = false) (hy : s.at i.toNat = some y) : s.read i = (y.1, 0) := by unfold DS.read; rw [if_pos h, if_neg (by rw [hd]; simp), hy]
theorem sec_cells {es : List SE} {w : World} (h : (all (es.map secR)).ok w.heap) {e : SE} (he : e ∈ es) : ∀ j v, (sv e.y)[j]? = some v → w.cell? ⟨e.b, 0 + j, none⟩ = some v := fun j v hj => by
  have : w.heap[e.b]? = some (.cells (sv e.y).toArray 69 (0, 0)) := h.2 _ (List.mem_map.2 ⟨e, he, rfl⟩)
  rw [Nat.zero_add, cell_of_block this]; exact hj
theorem mfind_some {k : Nat} : ∀ {es : List SE} {y : Sec}, sfind k es = some y → ∃ e ∈ es, e.k = k ∧ e.y = y ∧ mfind (k : Int) (es.map SE.me) = some (.pointer (some ⟨e.b, 0, none⟩))
  | [], y, h => by simp [sfind] at h
  | e :: es, y, h => by
    rw [sfind_cons] at h
    simp only [List.map_cons, mfind, SE.me]
    by_cases hk : e.k = k
    · rw [if_pos hk, Option.some.injEq] at h
      exact ⟨e, List.mem_cons_self, hk, h, by rw [if_pos (by omega)]⟩
    · rw [if_neg hk] at h
      obtain ⟨e', h1, h2, h3, h4⟩ := mfind_some h
      exact ⟨e', List.mem_cons_of_mem _ h1, h2, h3, by rw [if_neg (by omega)]; exact h4⟩
theorem rd_end {g : DG} {d b : Nat} {z : Sec} {w0 w : World} (ho : (DevR d g).ok w0.heap) (hT : Tr w0 [DevR d g] w (cl b 69 (sv z) :: g.L d)) : Tr w0 [] w [row (some ⟨b, 0, none⟩) 64 1 69 (bv z.1)] := by
  have h1 := (hT.cl_row (c := 64) (k := 1) (by rw [sv_length])).sub (Sub.rot _ _)
  exact h1.closed.calmed ho (DevR.precise d g) (DevR.wild d g)

theorem sl57 : K.slOf Tryz.prog 57 = some (69, 64) := by kernel_rfl
/- (*turntable/dev.Dev).Read -/
set_option maxHeartbeats 1000000 in
set_option maxRecDepth 100000 in
theorem read_con {d : Nat} {g : DG} (hk : g.Ok) (i : Int) {w : World} (ho : (DevR d g).ok w.heap) :
    Calls Tryz.prog 41 #[.pointer (some ⟨d, 0, none⟩), .int .i64 i] w fun e w' => ∃ a c, e = .returned (.tuple #[.slice a (g.v.read i).1.length c, .int .i64 (g.v.read i).2]) ∧ Tr w [] w' [row a c 1 69 (bv (g.v.read i).1)] := by
  refine K.enter (args := [_, _]) Tryz.func41 rfl Tryz.ntmps41 rfl (Disj.one _) (by intro r hr; simp only [List.mem_singleton] at hr; subst hr; exact ho) ?_
  refine K.GC.seq ?_
  refine K.GC.region ?_
  refine K.GL.det (K.e_assign rfl) rfl ?_
  refine K.GL.det (K.e_assign rfl) rfl ?_
  refine K.GL.nil ?_
  refine K.GQ.go ?_
  refine K.GC.seq ?_
  refine K.GC.block ?_
  refine K.GC.seq ?_
  refine K.GC.region ?_
  refine K.GL.det (K.e_move rfl) rfl ?_
  refine K.GL.det (K.e_move rfl) rfl ?_
  refine K.GL.det (K.e_call1 Tryz.call37 rfl (fun w hT => is_con _ (hT.ok _ Pick.mem))) rfl ?_
  first | refine K.GL.det (K.e_notp rfl) rfl ?_ | refine K.GL.det (K.e_not rfl) rfl ?_
  refine K.GL.det (K.e_assign rfl) rfl ?_
  refine K.GL.nil ?_
  refine K.GQ.go ?_
  refine K.GC.condB rfl (fun h1 => ?_) (fun h1 => ?_)
  · first
    | exact absurd h1 (by decide)
    | try replace h1 := of_decide_eq_true h1
      refine K.GC.seq ?_
      refine K.GC.region ?_
      refine K.GL.det (K.e_assign rfl) rfl ?_
      refine K.GL.det (K.e_assign rfl) rfl ?_
      refine K.GL.nil ?_
      refine K.GQ.go ?_
      refine K.GC.ret ?_
      refine K.GQ.block_ret ?_
      refine K.GQ.then_ret ?_
      refine K.GQ.ret_tt Tryz.results41 rfl rfl (fun w hT => ?_)
      first
        | (rw [DS.read_bad (by show ¬ (0 ≤ i ∧ i < (g.kept.length : Int)); omega)]; exact ⟨none, 0, rfl, (hT.calmed ho (DevR.precise d g) (DevR.wild d g)).row_nil _ _⟩)
        | (rw [DS.read_down (by show (0 ≤ i ∧ i < (g.kept.length : Int)); omega) (show g.v.down = true from by assumption)]; exact ⟨none, 0, rfl, (hT.one.calmed ho (DevR.precise d g) (DevR.wild d g)).row_nil _ _⟩)
        | (rw [DS.read_ok (s := g.v) (i := (k : Int)) (y := x) (by show (0 ≤ (k : Int) ∧ (k : Int) < (g.kept.length : Int)); omega) (show g.v.down = false from by assumption) (by show (match sfind k g.es with | some y => some y | none => g.kept[k]?) = some x; rw [hsf]; exact hx)]
           exact ⟨_, 64, by rw [x.2], rd_end ho hT⟩)
        | (rw [DS.read_ok (s := g.v) (i := (k : Int)) (y := y) (by show (0 ≤ (k : Int) ∧ (k : Int) < (g.kept.length : Int)); omega) (show g.v.down = false from by assumption) (by show (match sfind k g.es with | some y => some y | none => g.kept[k]?) = some y; rw [hsf])]
           exact ⟨_, 64, by rw [y.2], rd_end ho hT⟩)
  · first
    | exact absurd h1 (by decide)
    | try replace h1 := of_decide_eq_false h1
      refine K.GC.seq ?_
      refine K.GC.opened1 ?_
      refine K.GC.region ?_
      refine K.GL.det (K.e_move rfl) rfl ?_
      refine K.GL.det (K.e_nilCheck rfl) rfl ?_
      refine K.GL.det (K.e_fieldAddr fo60_2 rfl) rfl ?_
      first | refine K.GL.det (K.e_load Tryz.isAgg4 rfl rfl) rfl ?_ | refine K.GL.det (K.e_load0 Tryz.isAgg4 rfl (by assumption)) rfl ?_
      refine K.GL.det (K.e_assign rfl) rfl ?_
      refine K.GL.nil ?_
      refine K.GQ.go ?_
      refine K.GC.condB rfl (fun h2 => ?_) (fun h2 => ?_)
      · first
        | exact absurd h2 (by decide)
        | try replace h2 := of_decide_eq_true h2
          refine K.GC.seq ?_
          refine K.GC.region ?_
          refine K.GL.det (K.e_assign rfl) rfl ?_
          refine K.GL.det (K.e_assign rfl) rfl ?_
          refine K.GL.nil ?_
          refine K.GQ.go ?_
          refine K.GC.ret ?_
          refine K.GQ.block_ret ?_
          refine K.GQ.then_ret ?_
          refine K.GQ.ret_tt Tryz.results41 rfl rfl (fun w hT => ?_)
          first
            | (rw [DS.read_bad (by show ¬ (0 ≤ i ∧ i < (g.kept.length : Int)); omega)]; exact ⟨none, 0, rfl, (hT.calmed ho (DevR.precise d g) (DevR.wild d g)).row_nil _ _⟩)
            | (rw [DS.read_down (by show (0 ≤ i ∧ i < (g.kept.length : Int)); omega) (show g.v.down = true from by assumption)]; exact ⟨none, 0, rfl, (hT.one.calmed ho (DevR.precise d g) (DevR.wild d g)).row_nil _ _⟩)
            | (rw [DS.read_ok (s := g.v) (i := (k : Int)) (y := x) (by show (0 ≤ (k : Int) ∧ (k : Int) < (g.kept.length : Int)); omega) (show g.v.down = false from by assumption) (by show (match sfind k g.es with | some y => some y | none => g.kept[k]?) = some x; rw [hsf]; exact hx)]
               exact ⟨_, 64, by rw [x.2], rd_end ho hT⟩)
            | (rw [DS.read_ok (s := g.v) (i := (k : Int)) (y := y) (by show (0 ≤ (k : Int) ∧ (k : Int) < (g.kept.length : Int)); omega) (show g.v.down = false from by assumption) (by show (match sfind k g.es with | some y => some y | none => g.kept[k]?) = some y; rw [hsf])]
               exact ⟨_, 64, by rw [y.2], rd_end ho hT⟩)
      · first
        | exact absurd h2 (by decide)
        | try replace h2 := of_decide_eq_false h2
          refine K.GC.skip ?_
          refine K.GQ.block_normal ?_
          refine K.GQ.go ?_
          refine K.GC.seq ?_
          obtain ⟨k, rfl⟩ := Int.eq_ofNat_of_zero_le (show 0 ≤ i by omega)
          obtain ⟨x, hx⟩ := get_ex (show k < g.kept.length by omega)
          refine K.GC.region ?_
          refine K.GL.det (K.e_move rfl) rfl ?_
          refine K.GL.det (K.e_nilCheck rfl) rfl ?_
          refine K.GL.det (K.e_fieldAddr fo60_0 rfl) rfl ?_
          first | refine K.GL.det (K.e_load Tryz.isAgg57 rfl rfl) rfl ?_ | refine K.GL.det (K.e_load0 Tryz.isAgg57 rfl (by assumption)) rfl ?_
          refine K.GL.det (K.e_move rfl) rfl ?_
          first | refine K.GL.det (K.e_indexAddrS sl57 rfl rfl (by assumption) (by omega) (by omega)) rfl ?_ | refine K.GL.det (K.e_indexAddr sl57 rfl rfl (by omega) (by omega)) rfl ?_
          refine K.GL.det (K.e_loads Tryz.isAgg69 Tryz.sizeOf69 rfl (by rw [Nat.zero_add]; exact takeO_flat sv 64 sv_length hx)) rfl ?_
          refine K.GL.alloc Tryz.zeroValue69 rfl rfl (fun b6 => ?_)
          refine K.GL.storeP (cs' := sv x) rfl rfl rfl Tryz.sizeOf69 (sv_length _) (oneCells_bv _) (spliceO_all (by first | rw [sv_length, sv_length] | exact sv_length _)) ?_
          refine K.GL.nil ?_
          refine K.GQ.go ?_
          refine K.GC.seq ?_
          refine K.GC.seq ?_
          rcases hsf : sfind k g.es with _ | y
          rotate_left
          obtain ⟨es1, hes1, hes2, hes3, hmf⟩ := mfind_some hsf
          rotate_left
          have hmf := mfind_es.2 (sfind_none.1 hsf)
          all_goals
            refine K.GC.region ?_
            refine K.GL.det (K.e_move rfl) rfl ?_
            refine K.GL.det (K.e_nilCheck rfl) rfl ?_
            refine K.GL.det (K.e_fieldAddr fo60_1 rfl) rfl ?_
            first | refine K.GL.det (K.e_load Tryz.isAgg58 rfl rfl) rfl ?_ | refine K.GL.det (K.e_load0 Tryz.isAgg58 rfl (by assumption)) rfl ?_
            refine K.GL.det (K.e_move rfl) rfl ?_
            first | refine K.GL.det (K.e_lookup_none Tryz.underlying58 Tryz.underlying3 Tryz.zeroValue70 rfl rfl hmf) rfl ?_ | refine K.GL.det (K.e_lookup_some Tryz.underlying58 Tryz.underlying3 Tryz.zeroValue70 rfl rfl hmf) rfl ?_
            refine K.GL.det (K.e_move rfl) rfl ?_
            refine K.GL.det (K.e_extract rfl rfl) rfl ?_
            refine K.GL.det (K.e_extract rfl rfl) rfl ?_
            refine K.GL.det (K.e_assign rfl) rfl ?_
            refine K.GL.det (K.e_assign rfl) rfl ?_
            refine K.GL.nil ?_
            refine K.GQ.go ?_
            refine K.GC.seq ?_
            refine K.GC.region ?_
            refine K.GL.det (K.e_move rfl) rfl ?_
            refine K.GL.nil ?_
            refine K.GQ.go ?_
            refine K.GC.condB rfl (fun h3 => ?_) (fun h3 => ?_)
            · first
              | exact absurd h3 (by decide)
              | try replace h3 := of_decide_eq_true h3
                refine K.GC.region ?_
                refine K.GL.det (K.e_move rfl) rfl ?_
                refine K.GL.det (K.e_nilCheck rfl) rfl ?_
                refine K.GL.det (K.e_loadsw Tryz.isAgg69 Tryz.sizeOf69 rfl (fun w hT => hes3 ▸ sec_cells (hT.ok (all (g.es.map secR)) (by simp)) hes1) (sv_length _)) rfl ?_
                refine K.GL.storeP (cs' := sv y) rfl rfl rfl Tryz.sizeOf69 (sv_length _) (oneCells_bv _) (spliceO_all (by first | rw [sv_length, sv_length] | exact sv_length _)) ?_
                refine K.GL.nil ?_
                refine K.GQ.go ?_
                refine K.GC.seq ?_
                refine K.GC.region ?_
                refine K.GL.det (K.e_sliceArr arr69 rfl) rfl ?_
                refine K.GL.det (K.e_assign rfl) rfl ?_
                refine K.GL.det (K.e_assign rfl) rfl ?_
                refine K.GL.nil ?_
                refine K.GQ.go ?_
                refine K.GC.ret ?_
                refine K.GQ.ret_tt Tryz.results41 rfl rfl (fun w hT => ?_)
                first
                  | (rw [DS.read_bad (by show ¬ (0 ≤ i ∧ i < (g.kept.length : Int)); omega)]; exact ⟨none, 0, rfl, (hT.calmed ho (DevR.precise d g) (DevR.wild d g)).row_nil _ _⟩)
                  | (rw [DS.read_down (by show (0 ≤ i ∧ i < (g.kept.length : Int)); omega) (show g.v.down = true from by assumption)]; exact ⟨none, 0, rfl, (hT.one.calmed ho (DevR.precise d g) (DevR.wild d g)).row_nil _ _⟩)
                  | (rw [DS.read_ok (s := g.v) (i := (k : Int)) (y := x) (by show (0 ≤ (k : Int) ∧ (k : Int) < (g.kept.length : Int)); omega) (show g.v.down = false from by assumption) (by show (match sfind k g.es with | some y => some y | none => g.kept[k]?) = some x; rw [hsf]; exact hx)]
                     exact ⟨_, 64, by rw [x.2], rd_end ho hT⟩)
                  | (rw [DS.read_ok (s := g.v) (i := (k : Int)) (y := y) (by show (0 ≤ (k : Int) ∧ (k : Int) < (g.kept.length : Int)); omega) (show g.v.down = false from by assumption) (by show (match sfind k g.es with | some y => some y | none => g.kept[k]?) = some y; rw [hsf])]
                     exact ⟨_, 64, by rw [y.2], rd_end ho hT⟩)
            · first
              | exact absurd h3 (by decide)
              | try replace h3 := of_decide_eq_false h3
                refine K.GC.skip ?_
                refine K.GQ.go ?_
                refine K.GC.seq ?_
                refine K.GC.region ?_
                refine K.GL.det (K.e_sliceArr arr69 rfl) rfl ?_
                refine K.GL.det (K.e_assign rfl) rfl ?_
                refine K.GL.det (K.e_assign rfl) rfl ?_
                refine K.GL.nil ?_
                refine K.GQ.go ?_
                refine K.GC.ret ?_
                refine K.GQ.ret_tt Tryz.results41 rfl rfl (fun w hT => ?_)
                first
                  | (rw [DS.read_bad (by show ¬ (0 ≤ i ∧ i < (g.kept.length : Int)); omega)]; exact ⟨none, 0, rfl, (hT.calmed ho (DevR.precise d g) (DevR.wild d g)).row_nil _ _⟩)
                  | (rw [DS.read_down (by show (0 ≤ i ∧ i < (g.kept.length : Int)); omega) (show g.v.down = true from by assumption)]; exact ⟨none, 0, rfl, (hT.one.calmed ho (DevR.precise d g) (DevR.wild d g)).row_nil _ _⟩)
                  | (rw [DS.read_ok (s := g.v) (i := (k : Int)) (y := x) (by show (0 ≤ (k : Int) ∧ (k : Int) < (g.kept.length : Int)); omega) (show g.v.down = false from by assumption) (by show (match sfind k g.es with | some y => some y | none => g.kept[k]?) = some x; rw [hsf]; exact hx)]
                     exact ⟨_, 64, by rw [x.2], rd_end ho hT⟩)
                  | (rw [DS.read_ok (s := g.v) (i := (k : Int)) (y := y) (by show (0 ≤ (k : Int) ∧ (k : Int) < (g.kept.length : Int)); omega) (show g.v.down = false from by assumption) (by show (match sfind k g.es with | some y => some y | none => g.kept[k]?) = some y; rw [hsf])]
                     exact ⟨_, 64, by rw [y.2], rd_end ho hT⟩)

/-! ### The sectors that are loose, in order -/
def DS.list (s : DS) : List Nat := (List.range s.kept.length).filter fun i => (s.loose i).isSome
def ints (l : List Nat) : List Value := l.map fun (i : Nat) => .int .i64 (i : Int)
theorem isort_of {l m : List Int} (h : l.Perm m) (hm : m.Pairwise (fun a b => a ≤ b)) : isort l = m :=
  List.Perm.eq_of_pairwise (le := fun a b => decide (a ≤ b) = true) (fun a b _ _ h1 h2 => by simp at h1 h2; omega)
    (List.pairwise_mergeSort (fun a b c h1 h2 => by simp at h1 h2 ⊢; omega) (fun a b => by simp; omega) l)
    (hm.imp fun h => by simpa using h) ((List.mergeSort_perm l _).trans h)
theorem perm_nodup {l m : List Nat} (hl : l.Nodup) (hm : m.Nodup) (h : ∀ a, a ∈ l ↔ a ∈ m) : l.Perm m := by
  rw [List.perm_iff_count]
  intro a
  rw [hl.count, hm.count]
  simp only [h a]
theorem range_le (n : Nat) : (List.range n).Pairwise (fun a b => a ≤ b) := List.pairwise_lt_range.imp fun h => Nat.le_of_lt h
theorem list_eq {g : DG} (hk : g.Ok) : (isort ((g.es.map SE.me).map ME.k)).map (Value.int .i64) = ints g.v.list ∧ g.v.list.length = g.es.length := by
  have e1 : (g.es.map SE.me).map ME.k = (g.es.map SE.k).map (fun (j : Nat) => (j : Int)) := by simp [SE.me, Function.comp_def]
  have hnd : (g.es.map SE.k).Nodup := by
    have := hk.mok.keys
    rw [e1, List.nodup_iff_pairwise_ne, List.pairwise_map] at this
    exact this.imp fun h e => h (by rw [e])
  have hp : (g.es.map SE.k).Perm g.v.list := by
    refine perm_nodup hnd (List.nodup_range.filter _) fun a => ?_
    have hs := sfind_none (i := a) (es := g.es)
    constructor
    · intro h
      obtain ⟨e, he, rfl⟩ := List.mem_map.1 h
      refine List.mem_filter.2 ⟨List.mem_range.2 (hk.keys e he), ?_⟩
      show (sfind e.k g.es).isSome = true
      cases hf : sfind e.k g.es with
      | none => exact absurd rfl (sfind_none.1 hf e he)
      | some y => rfl
    · intro h
      have h2 := (List.mem_filter.1 h).2
      have h3 : (sfind a g.es).isSome = true := h2
      cases hf : sfind a g.es with
      | none => rw [hf] at h3; simp at h3
      | some y =>
        obtain ⟨e, he, hek, _⟩ := mfind_some hf
        exact List.mem_map.2 ⟨e, he, hek⟩
  constructor
  · rw [e1, isort_of (hp.map _) (by
      rw [List.pairwise_map]
      exact ((range_le _).filter _).imp fun h => by omega)]
    simp [ints, Function.comp_def]
  · rw [← hp.length_eq, List.length_map]


def DG.setCut (g : DG) (i : Int) : DG := if 0 ≤ i then { g with cut := i } else g
def DS.setCut (s : DS) (i : Int) : DS := if 0 ≤ i then { s with cut := i } else s
theorem DG.v_setCut (g : DG) (i : Int) : (g.setCut i).v = g.v.setCut i := by unfold DG.setCut DS.setCut; split <;> rfl
theorem DG.setCut_ok {g : DG} (h : g.Ok) {i : Int} (hi : I64 i) : (g.setCut i).Ok := by
  unfold DG.setCut
  split
  · exact ⟨h.mok, h.keys, h.n1, h.n2, hi⟩
  · exact h
theorem DG.setCut_y {g : DG} {i : Int} (h : 0 ≤ i) : g.setCut i = { g with cut := i } := by unfold DG.setCut; rw [if_pos h]
theorem DG.setCut_n {g : DG} {i : Int} (h : ¬ 0 ≤ i) : g.setCut i = g := by unfold DG.setCut; rw [if_neg h]
def DS.new (n : Nat) : DS := ⟨List.replicate n (secOf 0), fun _ => none, false, 0, -1⟩
def DG.new (n kb mb : Nat) : DG := ⟨List.replicate n (secOf 0), [], 0, kb, mb, false, 0, -1⟩
theorem DG.new_ok {n kb mb : Nat} (h1 : 1 ≤ n) (h2 : n ≤ 4096) : (DG.new n kb mb).Ok := by
  refine ⟨⟨by simp [DG.new], by simp [DG.new], by simp [DG.new], by simp [DG.new]⟩, by simp [DG.new], ?_, ?_, by unfold I64; simp [DG.new]⟩ <;> simp [DG.new] <;> omega
theorem new_end {n d kb mb : Nat} {w0 w : World} {L0 : List Res}
    (hT : Tr w0 L0 w [cl d 60 [.slice (some ⟨kb, 0, none⟩) n n, .map (some mb), .bool false, .int .i64 0, .int .i64 (-1)], mp mb [] 0, cl kb 69 (zeros (sv (secOf 0)) n)]) : Tr w0 L0 w [DevR d (DG.new n kb mb)] := by
  have h0 : Tr w0 L0 w (all [] :: _) := Tr.closed (l := []) hT
  have h1 := h0.sub (Sub.front (i := 3) rfl)
  have h2 := h1.sub (Sub.front (i := 2) rfl)
  have h3 : Tr w0 L0 w (_ :: cl kb 69 (zeros (sv (secOf 0)) n) :: _) := h2
  have h4 : Tr w0 L0 w [cl d 60 [.slice (some ⟨kb, 0, none⟩) n n, .map (some mb), .bool false, .int .i64 0, .int .i64 (-1)], cl kb 69 (zeros (sv (secOf 0)) n), all [], mp mb [] 0] := h2
  have h5 := h4.sub (Sub.cons _ (Sub.cons _ (Sub.rot (all []) [mp mb [] 0])))
  have e : (DG.new n kb mb).L d = [cl d 60 [.slice (some ⟨kb, 0, none⟩) n n, .map (some mb), .bool false, .int .i64 0, .int .i64 (-1)], cl kb 69 (zeros (sv (secOf 0)) n), mp mb [] 0, all []] := by
    simp only [DG.L, DG.str, DG.new, List.length_replicate, zeros_flat, List.map_nil]
  unfold DevR
  rw [e]
  exact h5.one

/- (*turntable/dev.Dev).Cut -/
set_option maxHeartbeats 1000000 in
set_option maxRecDepth 100000 in
theorem cut_con {d : Nat} {g : DG} (i : Int) {w : World} (ho : (DevR d g).ok w.heap) :
    Calls Tryz.prog 10 #[.pointer (some ⟨d, 0, none⟩), .int .i64 i] w fun e w' => e = .returned (.tuple #[]) ∧ Tr w [DevR d g] w' [DevR d (g.setCut i)] := by
  refine K.enter (args := [_, _]) Tryz.func10 rfl Tryz.ntmps10 rfl (Disj.one _) (by intro r hr; simp only [List.mem_singleton] at hr; subst hr; exact ho) ?_
  refine K.GC.opened1 ?_
  refine K.GC.seq ?_
  refine K.GC.region ?_
  refine K.GL.det (K.e_move rfl) rfl ?_
  first | refine K.GL.det ((K.e_ge rfl rfl).yes (by first | omega | assumption | decide +kernel)) rfl ?_ | refine K.GL.det ((K.e_ge rfl rfl).no (by first | omega | assumption | decide +kernel)) rfl ?_ | refine K.GL.det (K.e_ge rfl rfl) rfl ?_
  refine K.GL.nil ?_
  refine K.GQ.go ?_
  refine K.GC.condB rfl (fun h1 => ?_) (fun h1 => ?_)
  · first
    | exact absurd h1 (by decide)
    | try replace h1 := of_decide_eq_true h1
      refine K.GC.region ?_
      refine K.GL.det (K.e_move rfl) rfl ?_
      refine K.GL.det (K.e_move rfl) rfl ?_
      refine K.GL.det (K.e_nilCheck rfl) rfl ?_
      refine K.GL.det (K.e_fieldAddr fo60_4 rfl) rfl ?_
      refine K.GL.store rfl rfl rfl Tryz.sizeOf3 rfl rfl ?_
      refine K.GL.nil ?_
      refine K.GQ.end_ret ?_
      refine K.GQ.ret0 Tryz.results10 (fun w hT => ?_)
      first | (rw [DG.setCut_y (by omega)]; exact ⟨rfl, hT.one⟩) | (rw [DG.setCut_n (by omega)]; exact ⟨rfl, hT.one⟩)
  · first
    | exact absurd h1 (by decide)
    | try replace h1 := of_decide_eq_false h1
      refine K.GC.skip ?_
      refine K.GQ.end_ret ?_
      refine K.GQ.ret0 Tryz.results10 (fun w hT => ?_)
      first | (rw [DG.setCut_y (by omega)]; exact ⟨rfl, hT.one⟩) | (rw [DG.setCut_n (by omega)]; exact ⟨rfl, hT.one⟩)
theorem lay60 : K.layout Tryz.prog 60 = some ([.slice none 0 0, .map none, .bool false, .int .i64 0, .int .i64 0], [(0, 1), (1, 1), (2, 1), (3, 1), (4, 1)]) := by kernel_rfl
theorem mk57 : K.mkOf Tryz.prog 57 = some (69, [.int .u8 0, .int .u8 0, .int .u8 0, .int .u8 0, .int .u8 0, .int .u8 0, .int .u8 0, .int .u8 0, .int .u8 0, .int .u8 0, .int .u8 0, .int .u8 0, .int .u8 0, .int .u8 0, .int .u8 0, .int .u8 0, .int .u8 0, .int .u8 0, .int .u8 0, .int .u8 0, .int .u8 0, .int .u8 0, .int .u8 0, .int .u8 0, .int .u8 0, .int .u8 0, .int .u8 0, .int .u8 0, .int .u8 0, .int .u8 0, .int .u8 0, .int .u8 0, .int .u8 0, .int .u8 0, .int .u8 0, .int .u8 0, .int .u8 0, .int .u8 0, .int .u8 0, .int .u8 0, .int .u8 0, .int .u8 0, .int .u8 0, .int .u8 0, .int .u8 0, .int .u8 0, .int .u8 0, .int .u8 0, .int .u8 0, .int .u8 0, .int .u8 0, .int .u8 0, .int .u8 0, .int .u8 0, .int .u8 0, .int .u8 0, .int .u8 0, .int .u8 0, .int .u8 0, .int .u8 0, .int .u8 0, .int .u8 0, .int .u8 0, .int .u8 0], 64) := by kernel_rfl
/- turntable/dev.New -/
set_option maxHeartbeats 1000000 in
set_option maxRecDepth 100000 in
theorem new_con (n : Int) {w : World} :
    Calls Tryz.prog 6 #[.int .i64 n] w fun e w' => (¬ (1 ≤ n ∧ n ≤ 4096) ∧ e = .returned (.pointer none) ∧ Tr w [] w' []) ∨ (∃ d kb mb, (1 ≤ n ∧ n ≤ 4096) ∧ e = .returned (.pointer (some ⟨d, 0, none⟩)) ∧ Tr w [] w' [DevR d (DG.new n.toNat kb mb)]) := by
  refine K.enter0 (args := [_]) Tryz.func6 rfl Tryz.ntmps6 rfl ?_
  refine K.GC.seq ?_
  refine K.GC.region ?_
  refine K.GL.det (K.e_assign rfl) rfl ?_
  refine K.GL.nil ?_
  refine K.GQ.go ?_
  refine K.GC.seq ?_
  refine K.GC.seq ?_
  refine K.GC.region ?_
  refine K.GL.det (K.e_move rfl) rfl ?_
  first | refine K.GL.det ((K.e_lt rfl rfl).yes (by first | omega | assumption | decide +kernel)) rfl ?_ | refine K.GL.det ((K.e_lt rfl rfl).no (by first | omega | assumption | decide +kernel)) rfl ?_ | refine K.GL.det (K.e_lt rfl rfl) rfl ?_
  refine K.GL.det (K.e_move rfl) rfl ?_
  first | refine K.GL.splitB 5 rfl (fun h1 => ?_) (fun h1 => ?_) | skip
  all_goals first | exact absurd h1 (by decide) | replace h1 := of_decide_eq_true h1 | replace h1 := of_decide_eq_false h1 | skip
  all_goals
    first | (refine K.GL.want 5 rfl rfl rfl ?_; first | refine K.GL.det (K.e_move rfl) rfl ?_) | refine K.GL.skip 5 rfl rfl rfl rfl ?_ | refine K.GL.skipU 5 rfl rfl rfl rfl ?_
    first | (refine K.GL.want 5 rfl rfl rfl ?_; first | refine K.GL.det ((K.e_gt rfl rfl).yes (by first | omega | assumption | decide +kernel)) rfl ?_ | refine K.GL.det ((K.e_gt rfl rfl).no (by first | omega | assumption | decide +kernel)) rfl ?_ | refine K.GL.det (K.e_gt rfl rfl) rfl ?_) | refine K.GL.skip 5 rfl rfl rfl rfl ?_ | refine K.GL.skipU 5 rfl rfl rfl rfl ?_
    first | refine K.GL.det (K.e_pick_t rfl rfl) rfl ?_ | refine K.GL.det (K.e_pick_f rfl rfl) rfl ?_
    refine K.GL.nil ?_
    refine K.GQ.go ?_
    refine K.GC.condB rfl (fun h2 => ?_) (fun h2 => ?_)
    · first
      | exact absurd h2 (by decide)
      | try replace h2 := of_decide_eq_true h2
        refine K.GC.seq ?_
        refine K.GC.region ?_
        refine K.GL.det (K.e_assign rfl) rfl ?_
        refine K.GL.nil ?_
        refine K.GQ.go ?_
        refine K.GC.ret ?_
        refine K.GQ.then_ret ?_
        refine K.GQ.ret1 Tryz.results6 rfl (fun w hT => ?_)
        first
          | exact .inl ⟨by omega, rfl, hT⟩
          | exact .inr ⟨_, _, _, by omega, rfl, new_end hT⟩
    · first
      | exact absurd h2 (by decide)
      | try replace h2 := of_decide_eq_false h2
        refine K.GC.skip ?_
        refine K.GQ.go ?_
        refine K.GC.seq ?_
        refine K.GC.region ?_
        refine K.GL.det (K.e_move rfl) rfl ?_
        refine K.GL.make mk57 rfl rfl (by omega) (by omega) (by omega) (by omega) rfl (fun b10 => ?_)
        refine K.GL.makeMap rfl (fun b11 => ?_)
        refine K.GL.det (K.e_build lay60 rfl) rfl ?_
        refine K.GL.box rfl rfl rfl (fun b13 => ?_)
        refine K.GL.det (K.e_assign rfl) rfl ?_
        refine K.GL.nil ?_
        refine K.GQ.go ?_
        refine K.GC.ret ?_
        refine K.GQ.ret1 Tryz.results6 rfl (fun w hT => ?_)
        first
          | exact .inl ⟨by omega, rfl, hT⟩
          | exact .inr ⟨_, _, _, by omega, rfl, new_end hT⟩

/-! ### All is kept -/
def keptAt (g : DG) (seen : List Nat) : List Sec := g.kept.mapIdx fun i x => (sfind i (g.es.filter fun e => seen.contains e.n)).getD x
theorem keptAt_length (g : DG) (seen : List Nat) : (keptAt g seen).length = g.kept.length := by simp [keptAt]
theorem keptAt_nil (g : DG) : keptAt g [] = g.kept := by
  have h : (g.es.filter fun e => ([] : List Nat).contains e.n) = [] := List.filter_eq_nil_iff.2 fun e _ => by simp
  unfold keptAt
  rw [h]
  refine List.ext_getElem? fun i => ?_
  simp [sfind]
theorem sfind_filter {g : DG} (hk : g.Ok) {p : SE → Bool} {e : SE} (he : e ∈ g.es) (hp : p e = true) : sfind e.k (g.es.filter p) = some e.y := by
  have e1 : (g.es.map SE.me).map ME.k = (g.es.map SE.k).map (fun (j : Nat) => (j : Int)) := by simp [SE.me, Function.comp_def]
  have hnd : (g.es.map SE.k).Nodup := by
    have := hk.mok.keys
    rw [e1, List.nodup_iff_pairwise_ne, List.pairwise_map] at this
    exact this.imp fun h e => h (by rw [e])
  have : ∀ l : List SE, (l.map SE.k).Nodup → e ∈ l → sfind e.k (l.filter p) = some e.y := by
    intro l
    induction l with
    | nil => intro _ h; simp at h
    | cons x l ih =>
      intro hn hm
      rw [List.map_cons, List.nodup_cons] at hn
      rcases List.mem_cons.1 hm with rfl | h
      · rw [List.filter_cons_of_pos hp, sfind_cons, if_pos rfl]
      · have hne : x.k ≠ e.k := fun hx => hn.1 (List.mem_map.2 ⟨e, h, hx.symm⟩)
        by_cases hpx : p x = true
        · rw [List.filter_cons_of_pos hpx, sfind_cons, if_neg hne, ih hn.2 h]
        · rw [List.filter_cons_of_neg hpx, ih hn.2 h]
  exact this g.es hnd he
theorem sfind_other {i : Nat} {p q : SE → Bool} : ∀ {l : List SE}, (∀ e ∈ l, e.k = i → p e = q e) → sfind i (l.filter p) = sfind i (l.filter q)
  | [], _ => rfl
  | x :: l, h => by
    have ih := sfind_other (i := i) (p := p) (q := q) (l := l) fun e he => h e (List.mem_cons_of_mem _ he)
    by_cases hx : x.k = i
    · have hpq := h x List.mem_cons_self hx
      cases hp : p x with
      | true => rw [List.filter_cons_of_pos hp, List.filter_cons_of_pos (hpq ▸ hp), sfind_cons, sfind_cons, if_pos hx, if_pos hx]
      | false => rw [List.filter_cons_of_neg (by rw [hp]; simp), List.filter_cons_of_neg (by rw [← hpq, hp]; simp), ih]
    · have drop : ∀ r : SE → Bool, sfind i ((x :: l).filter r) = sfind i (l.filter r) := fun r => by
        cases hr : r x with
        | true => rw [List.filter_cons_of_pos hr, sfind_cons, if_neg hx]
        | false => rw [List.filter_cons_of_neg (by rw [hr]; simp)]
      rw [drop, drop, ih]
theorem keptAt_step {g : DG} (hk : g.Ok) (seen : List Nat) {e : SE} (he : e ∈ g.es) : keptAt g (seen ++ [e.n]) = (keptAt g seen).set e.k e.y := by
  refine List.ext_getElem? fun i => ?_
  have hlt := hk.keys e he
  by_cases hi : i = e.k
  · subst hi
    rw [List.getElem?_set_self (by rw [keptAt_length]; exact hlt)]
    simp only [keptAt, List.getElem?_mapIdx, List.getElem?_eq_getElem hlt, Option.map_some]
    rw [sfind_filter hk he (by simp)]
    rfl
  · rw [List.getElem?_set_ne (by omega)]
    simp only [keptAt, List.getElem?_mapIdx]
    have : sfind i (g.es.filter fun e' => (seen ++ [e.n]).contains e'.n) = sfind i (g.es.filter fun e' => seen.contains e'.n) := by
      refine sfind_other fun e' he' hk' => ?_
      have hne : e'.n ≠ e.n := fun hn => by
        have hnd := hk.mok.born
        have e2 : (g.es.map SE.me).map ME.n = g.es.map SE.n := by simp [SE.me, Function.comp_def]
        rw [e2] at hnd
        have : ∀ l : List SE, (l.map SE.n).Nodup → e ∈ l → e' ∈ l → e' = e := by
          intro l
          induction l with
          | nil => intro _ h; simp at h
          | cons x l ih =>
            intro hn2 h1 h2
            rw [List.map_cons, List.nodup_cons] at hn2
            rcases List.mem_cons.1 h1 with h1 | h1 <;> rcases List.mem_cons.1 h2 with h2 | h2
            · rw [h1, h2]
            · exact absurd (List.mem_map.2 ⟨e', h2, by rw [hn, h1]⟩) hn2.1
            · exact absurd (List.mem_map.2 ⟨e, h1, by rw [← hn, h2]⟩) hn2.1
            · exact ih hn2.2 h1 h2
        have := this g.es hnd he he'
        subst this
        exact hi hk'.symm
      simp [hne]
    rw [this]
theorem mu_step {es : List SE} {x : List Nat} {e : SE} (he : e ∈ es) (hn : e.n ∉ x) : (es.filter fun e' => !(x ++ [e.n]).contains e'.n).length < (es.filter fun e' => !x.contains e'.n).length := by
  have h1 : (es.filter fun e' => !(x ++ [e.n]).contains e'.n) = (es.filter fun e' => !x.contains e'.n).filter fun e' => e'.n != e.n := by
    rw [List.filter_filter]
    congr 1
    funext e'
    by_cases h1 : e'.n ∈ x <;> by_cases h2 : e'.n = e.n <;> simp [h1, h2]
  rw [h1]
  have hm : e ∈ es.filter fun e' => !x.contains e'.n := List.mem_filter.2 ⟨he, by simpa using hn⟩
  have := List.length_filter_lt_length_iff_exists (p := fun e' : SE => e'.n != e.n) (l := es.filter fun e' => !x.contains e'.n)
  exact this.2 ⟨e, hm, by simp⟩
def DS.flushed (s : DS) : DS := { s with kept := s.kept.mapIdx fun i x => (s.loose i).getD x, loose := fun _ => none }
def DS.flush (s : DS) : DS × Int := if s.able then (s.thing.flushed, 0) else (s.thing, 71)
theorem DS.flush_n {s : DS} (h : s.able = false) : s.flush = (s.thing, 71) := by unfold DS.flush; rw [if_neg (by rw [h]; simp)]
theorem DS.flush_y {s : DS} (h : s.able = true) : s.flush = (s.thing.flushed, 0) := by unfold DS.flush; rw [if_pos h]
theorem keptAt_all {g : DG} {seen : List Nat} (h : ∀ x ∈ g.es.map SE.me, x.n ∈ seen) : keptAt g seen = g.v.flushed.kept := by
  have : (g.es.filter fun e => seen.contains e.n) = g.es := List.filter_eq_self.2 fun e he => by
    have h2 : e.n ∈ seen := h _ (List.mem_map.2 ⟨e, he, rfl⟩)
    simpa using h2
  unfold keptAt
  rw [this]
  rfl
theorem fl_end {g : DG} {d r : Nat} {x : List Nat} {w0 w : World} {L0 : List Res} (hk : g.Ok) (hall : ∀ y ∈ g.es.map SE.me, y.n ∈ x)
    (hT : Tr w0 L0 w [iter r g.mb x g.c, cl d 60 g.str, cl g.kb 69 ((keptAt g x).flatMap sv), mp g.mb [] g.c, all (g.es.map secR)]) :
    ∃ x : DG, x.Ok ∧ x.v = g.v.flushed ∧ Tr w0 L0 w [DevR d x] := by
  have hl := keptAt_length g x
  refine ⟨{ g with kept := keptAt g x, es := [] }, ⟨⟨by simp, by simp, by simp, by simp⟩, by simp, by simp only [hl]; exact hk.n1, by simp only [hl]; exact hk.n2, hk.cut⟩, ?_, ?_⟩
  · unfold DG.v
    simp only [keptAt_all hall]
    rfl
  · have h1 : Tr w0 L0 w (all (g.es.map secR) :: _) := hT.sub (Sub.front (i := 4) rfl)
    have h2 := h1.sub ((Sub.tail _ _).trans (Sub.tail _ _))
    have h3 : Tr w0 L0 w (all [] :: _) := Tr.closed (l := []) h2
    have h4 := h3.sub (Sub.rot _ _)
    have e : ({ g with kept := keptAt g x, es := [] } : DG).L d = [cl d 60 g.str, cl g.kb 69 ((keptAt g x).flatMap sv), mp g.mb [] g.c, all []] := by
      simp only [DG.L, DG.str, hl, List.map_nil]
    unfold DevR
    rw [e]
    exact h4.one

/- (*turntable/dev.Dev).Flush -/
set_option maxHeartbeats 1000000 in
set_option maxRecDepth 100000 in
theorem flush_con {d : Nat} {g : DG} (hk : g.Ok) {w : World} (ho : (DevR d g).ok w.heap) :
    Calls Tryz.prog 30 #[.pointer (some ⟨d, 0, none⟩)] w fun e w' => ∃ x : DG, e = .returned (.int .i64 g.v.flush.2) ∧ x.Ok ∧ x.v = g.v.flush.1 ∧ Tr w [DevR d g] w' [DevR d x] := by
  refine K.enter (args := [_]) Tryz.func30 rfl Tryz.ntmps30 rfl (Disj.one _) (by intro r hr; simp only [List.mem_singleton] at hr; subst hr; exact ho) ?_
  refine K.GC.seq ?_
  refine K.GC.region ?_
  refine K.GL.det (K.e_assign rfl) rfl ?_
  refine K.GL.nil ?_
  refine K.GQ.go ?_
  refine K.GC.seq ?_
  refine K.GC.seq ?_
  refine K.GC.region ?_
  refine K.GL.det (K.e_move rfl) rfl ?_
  refine gl_thing Tryz.call38 rfl (by assumption) rfl ?_
  refine K.GL.det (K.e_assign rfl) rfl ?_
  refine K.GL.nil ?_
  refine K.GQ.go ?_
  refine K.GC.seq ?_
  refine K.GC.region ?_
  refine K.GL.det (K.e_move rfl) rfl ?_
  first | refine K.GL.det ((K.e_ne rfl rfl).yes (by first | omega | assumption | decide +kernel)) rfl ?_ | refine K.GL.det ((K.e_ne rfl rfl).no (by first | omega | assumption | decide +kernel)) rfl ?_ | refine K.GL.det (K.e_ne rfl rfl) rfl ?_
  refine K.GL.nil ?_
  refine K.GQ.go ?_
  refine K.GC.condB rfl (fun h1 => ?_) (fun h1 => ?_)
  · first
    | exact absurd h1 (by decide)
    | try replace h1 := of_decide_eq_true h1
      refine K.GC.seq ?_
      refine K.GC.region ?_
      refine K.GL.det (K.e_move rfl) rfl ?_
      refine K.GL.det (K.e_assign rfl) rfl ?_
      refine K.GL.nil ?_
      refine K.GQ.go ?_
      refine K.GC.ret ?_
      refine K.GQ.then_ret ?_
      refine K.GQ.ret1 Tryz.results30 rfl (fun w hT => ?_)
      first
        | (have hab : g.able = false := errE_no (by assumption)
           rw [DS.flush_n (s := g.v) hab]; exact ⟨g.thing, by rw [hab]; rfl, DG.thing_ok hk, DG.v_thing g, hT⟩)
        | (rw [DS.flush_y (s := g.v) hab]
           obtain ⟨x2, hx1, hx2, hx3⟩ := fl_end hk1 hall hT
           exact ⟨x2, rfl, hx1, by rw [hx2, hg1, DG.v_thing], hx3⟩)
  · first
    | exact absurd h1 (by decide)
    | try replace h1 := of_decide_eq_false h1
      refine K.GC.skip ?_
      refine K.GQ.go ?_
      refine K.GC.seq ?_
      refine K.GC.seq ?_
      have hab : g.able = true := errE_yes (by assumption)
      have hk1 := DG.thing_ok hk
      obtain ⟨g1, hg1⟩ : ∃ g1, g1 = g.thing := ⟨_, rfl⟩
      rw [← hg1] at hk1
      rw [← hg1]
      refine K.GC.opened1 ?_
      refine K.GC.region ?_
      refine K.GL.det (K.e_move rfl) rfl ?_
      refine K.GL.det (K.e_nilCheck rfl) rfl ?_
      refine K.GL.det (K.e_fieldAddr fo60_1 rfl) rfl ?_
      first | refine K.GL.det (K.e_load Tryz.isAgg58 rfl rfl) rfl ?_ | refine K.GL.det (K.e_load0 Tryz.isAgg58 rfl (by assumption)) rfl ?_
      refine K.GL.range Tryz.underlying58 rfl rfl (fun b15 => ?_)
      refine K.GL.nil ?_
      refine K.GQ.go ?_
      refine K.GC.block ?_
      refine K.GC.loopk (α := List Nat) [0, 2, 15, 30, 31, 32, 33] rfl (fun x => []) (fun x => [iter b15 g1.mb x g1.c, cl d 60 g1.str, cl g1.kb 69 ((keptAt g1 x).flatMap sv), mp g1.mb (g1.es.map SE.me) g1.c, all (g1.es.map secR)]) (fun x => ∀ n ∈ x, True) (fun x => (g1.es.filter fun e => !x.contains e.n).length) [] (by simp) (by (repeat refine ⟨rfl, ?_⟩); exact trivial) (by rw [keptAt_nil]; exact K.Sub.refl _) (fun x hI => ?_)
      refine K.GC.seq ?_
      refine K.GC.region ?_
      refine K.GL.next rfl _ hk1.mok.lt rfl (fun hall => ?_) (fun y hy hns => ?_)
      rotate_left
      obtain ⟨e1, he1, rfl⟩ := List.mem_map.1 hy
      have hek := hk1.keys e1 he1
      have hel := keptAt_length g1 x
      have hmk : e1.me.k = (e1.k : Int) := rfl
      rotate_left
      all_goals
        refine K.GL.det (K.e_extract rfl rfl) rfl ?_
        refine K.GL.nil ?_
        refine K.GQ.go ?_
        refine K.GC.seq ?_
        refine K.GC.condB rfl (fun h2 => ?_) (fun h2 => ?_)
        · first
          | exact absurd h2 (by decide)
          | try replace h2 := of_decide_eq_true h2
            refine K.GC.skip ?_
            refine K.GQ.go ?_
            refine K.GC.block ?_
            refine K.GC.seq ?_
            refine K.GC.region ?_
            refine K.GL.det (K.e_entry rfl hk1.mok.born hy) rfl ?_
            refine K.GL.det (K.e_extract rfl rfl) rfl ?_
            refine K.GL.det (K.e_extract rfl rfl) rfl ?_
            refine K.GL.det (K.e_assign rfl) rfl ?_
            refine K.GL.det (K.e_assign rfl) rfl ?_
            refine K.GL.nil ?_
            refine K.GQ.go ?_
            refine K.GC.drawn 9 [[], [0], [0, 1], [0, 1, 2], [], [], [5], [5, 6], [0, 1, 2, 3, 4, 5, 6, 7], [0, 1, 2, 3, 4, 5, 6, 7, 8]] [[], [0], [1], [2], [], [], [5], [6], [3, 4]] [0, 2, 4, 5, 15, 16, 17, 18, 19, 20, 30, 31, 32, 33] (by kernel_rfl) (by kernel_rfl) rfl ?_
            refine K.DW.det rfl (fun vs => K.e_move rfl) ?_
            refine K.DW.det rfl (fun vs => K.e_nilCheck rfl) ?_
            refine K.DW.det rfl (fun vs => K.e_fieldAddr fo60_0 rfl) ?_
            first | refine K.DW.det rfl (fun vs => K.e_load Tryz.isAgg57 rfl rfl) ?_ | refine K.DW.det rfl (fun vs => K.e_load0 Tryz.isAgg57 rfl (by assumption)) ?_
            refine K.DW.det rfl (fun vs => K.e_move rfl) ?_
            refine K.DW.det rfl (fun vs => K.e_move rfl) ?_
            refine K.DW.det rfl (fun vs => K.e_nilCheck rfl) ?_
            refine K.DW.det rfl (fun vs => K.e_loadsw Tryz.isAgg69 Tryz.sizeOf69 rfl (fun w hT => sec_cells (hT.ok (all (g1.es.map secR)) (by simp)) he1) (sv_length _)) ?_
            first | refine K.DW.det rfl (fun vs => K.e_indexAddrS sl57 rfl rfl (by assumption) (by omega) (by omega)) ?_ | refine K.DW.det rfl (fun vs => K.e_indexAddr sl57 rfl rfl (by omega) (by omega)) ?_
            refine K.DW.fin0 rfl (fun vs => ?_)
            refine K.GL.keep [0, 2, 4, 5, 15, 16, 17, 18, 19, 20, 21, 22, 23, 24, 25, 26, 27, 28, 29, 30, 31, 32, 33] rfl ?_
            clear vs
            refine K.GL.storeP (cs' := ((keptAt g1 x).set e1.k e1.y).flatMap sv) rfl rfl rfl Tryz.sizeOf69 (sv_length _) (oneCells_bv _) (by rw [Nat.zero_add]; exact spliceO_flat sv 64 sv_length e1.y (by omega)) ?_
            refine K.GL.nil ?_
            refine K.GQ.block_normal ?_
            exact K.GQ.round (x ++ [e1.n]) (by simp) (mu_step he1 hns) (by (repeat refine ⟨rfl, ?_⟩); exact trivial) (by rw [keptAt_step hk1 x he1]; exact K.Sub.refl _)
        · first
          | exact absurd h2 (by decide)
          | try replace h2 := of_decide_eq_false h2
            refine K.GC.exit ?_
            refine K.GQ.then_exit ?_
            refine K.GQ.then_exit ?_
            refine K.GQ.block_hit ?_
            refine K.GQ.go ?_
            refine K.GC.seq ?_
            refine K.GC.region ?_
            refine K.GL.det (K.e_move rfl) rfl ?_
            refine K.GL.det (K.e_nilCheck rfl) rfl ?_
            refine K.GL.det (K.e_fieldAddr fo60_1 rfl) rfl ?_
            first | refine K.GL.det (K.e_load Tryz.isAgg58 rfl rfl) rfl ?_ | refine K.GL.det (K.e_load0 Tryz.isAgg58 rfl (by assumption)) rfl ?_
            refine K.GL.clear Tryz.underlying58 rfl ?_
            refine K.GL.nil ?_
            refine K.GQ.go ?_
            refine K.GC.seq ?_
            refine K.GC.region ?_
            refine K.GL.det (K.e_assign rfl) rfl ?_
            refine K.GL.nil ?_
            refine K.GQ.go ?_
            refine K.GC.ret ?_
            refine K.GQ.ret1 Tryz.results30 rfl (fun w hT => ?_)
            first
              | (have hab : g.able = false := errE_no (by assumption)
                 rw [DS.flush_n (s := g.v) hab]; exact ⟨g.thing, by rw [hab]; rfl, DG.thing_ok hk, DG.v_thing g, hT⟩)
              | (rw [DS.flush_y (s := g.v) hab]
                 obtain ⟨x2, hx1, hx2, hx3⟩ := fl_end hk1 hall hT
                 exact ⟨x2, rfl, hx1, by rw [hx2, hg1, DG.v_thing], hx3⟩)

/-! ### Bits that turn -/
def setB (x : Sec) (j : Nat) (b : UInt8) : Sec := ⟨x.1.set j b, by rw [List.length_set]; exact x.2⟩
def xorB (a s : Nat) : UInt8 := UInt8.ofNat (BitVec.ofInt 8 (a : Int) ^^^ BitVec.ofInt 8 (s : Int)).toNat
def flipS (x : Sec) (a w : Nat) : Sec := setB x (a / 8) (xorB (x.1[a / 8]?.getD 0).toNat ((w % 2) * 2 ^ (a % 8) % 256))
def turnN : Nat → Sec → Nat → Nat → Sec
  | 0, x, _, _ => x
  | n + 1, x, a, w => if w ≠ 0 ∧ a < 512 then turnN n (flipS x a w) (a + 1) (w / 2) else x
def turnS (x : Sec) (a w : Nat) : Sec := turnN (512 - a) x a w
theorem turnS_go {x : Sec} {a w : Nat} (h : w ≠ 0 ∧ a < 512) : turnS x a w = turnS (flipS x a w) (a + 1) (w / 2) := by
  unfold turnS
  obtain ⟨n, hn⟩ : ∃ n, 512 - a = n + 1 := ⟨512 - a - 1, by omega⟩
  rw [hn, turnN, if_pos h, show 512 - (a + 1) = n by omega]
theorem turnS_end {x : Sec} {a w : Nat} (h : ¬ (w ≠ 0 ∧ a < 512)) : turnS x a w = x := by
  unfold turnS
  cases hn : 512 - a with
  | zero => rfl
  | succ n => rw [turnN, if_neg h]
theorem and_one {w : Nat} (h : w < 4294967296) : IntKind.u32.wrap (BitVec.ofInt IntKind.u32.bits (w : Int) &&& BitVec.ofInt IntKind.u32.bits 1).toNat = ((w % 2 : Nat) : Int) := by
  have e1 : (BitVec.ofInt IntKind.u32.bits (w : Int)).toNat = w := by simp [IntKind.bits, BitVec.toNat_ofInt]; omega
  have e2 : (BitVec.ofInt IntKind.u32.bits 1).toNat = 1 := by decide
  rw [BitVec.toNat_and, e1, e2, Nat.and_one_is_mod, wrap_u32 (by omega) (by omega)]
theorem shl_eq {b a : Nat} (hb : b < 2) : IntKind.u8.wrap ((b : Int) * 2 ^ (min ((a : Int) % 8).toNat IntKind.u8.bits)) = ((b * 2 ^ (a % 8) % 256 : Nat) : Int) := by
  have e1 : min ((a : Int) % 8).toNat IntKind.u8.bits = a % 8 := by simp only [IntKind.bits]; omega
  rw [e1]
  simp only [IntKind.wrap, IntKind.bits, IntKind.signed]
  simp
theorem xor_eq {a s : Nat} : IntKind.u8.wrap (BitVec.ofInt IntKind.u8.bits (a : Int) ^^^ BitVec.ofInt IntKind.u8.bits (s : Int)).toNat = ((xorB a s).toNat : Int) := by
  have h : (BitVec.ofInt 8 (a : Int) ^^^ BitVec.ofInt 8 (s : Int)).toNat < 256 := (BitVec.ofInt 8 (a : Int) ^^^ BitVec.ofInt 8 (s : Int)).isLt
  have e : (xorB a s).toNat = (BitVec.ofInt 8 (a : Int) ^^^ BitVec.ofInt 8 (s : Int)).toNat := by
    unfold xorB
    rw [UInt8.toNat_ofNat']
    omega
  rw [e]
  exact wrap_u8 (by omega) (by show ((BitVec.ofInt 8 (a : Int) ^^^ BitVec.ofInt 8 (s : Int)).toNat : Int) ≤ 255; omega)
theorem shr_one {w : Nat} : ((w : Int)).fdiv (2 ^ (min (1 : Int).toNat IntKind.u32.bits)) = ((w / 2 : Nat) : Int) := by
  have e : min (1 : Int).toNat IntKind.u32.bits = 1 := by decide
  rw [e, Int.fdiv_eq_ediv_of_nonneg _ (by omega)]
  omega
theorem ld_byte {l : List Sec} {i j : Nat} {y : Sec} {b : UInt8} (hi : i < l.length) (hb : y.1[j]? = some b) : ((l.set i y).flatMap sv)[i * 64 + j]? = some (.int .u8 b.toNat) := by
  have hj := (List.getElem?_eq_some_iff.1 hb).1
  rw [y.2] at hj
  rw [flat_get sv 64 sv_length _ i j y (List.getElem?_set_self hi) hj, sv, bv_get, hb]
  rfl
theorem st_byte {l : List Sec} {i j : Nat} {y : Sec} {b : UInt8} (hi : i < l.length) (hj : j < 64) : spliceO ((l.set i y).flatMap sv) (i * 64 + j) [.int .u8 (b.toNat : Int)] = some ((l.set i (setB y j b)).flatMap sv) := by
  have hlen : ∀ z : Sec, ((l.set i z).flatMap sv).length = l.length * 64 := fun z => by rw [flat_length sv 64 sv_length, List.length_set]
  have hlt : i * 64 + j < l.length * 64 := by omega
  rw [spliceO_of (by rw [hlen]; simp only [List.length_cons, List.length_nil]; omega)]
  have e : ∀ (F : List Value) (n : Nat) (v : Value), n < F.length → F.take n ++ [v] ++ F.drop (n + 1) = F.set n v := fun F n v h => by rw [List.set_eq_take_append_cons_drop, if_pos h]; simp
  simp only [List.length_cons, List.length_nil, Nat.zero_add]
  rw [e _ _ _ (by rw [hlen]; exact hlt)]
  congr 1
  refine List.ext_getElem? fun m => ?_
  by_cases hm : m = i * 64 + j
  · subst hm
    rw [List.getElem?_set_self (by rw [hlen]; exact hlt)]
    rw [flat_get sv 64 sv_length _ i j (setB y j b) (List.getElem?_set_self hi) hj, sv, bv_get, setB, List.getElem?_set_self (by rw [y.2]; exact hj)]
    rfl
  · rw [List.getElem?_set_ne (by omega)]
    by_cases hml : m < l.length * 64
    · have hq : m / 64 < l.length := by omega
      have hr : m % 64 < 64 := by omega
      have hmm : m = m / 64 * 64 + m % 64 := by omega
      by_cases hqi : m / 64 = i
      · rw [hmm, hqi, flat_get sv 64 sv_length _ i (m % 64) y (List.getElem?_set_self hi) hr, flat_get sv 64 sv_length _ i (m % 64) (setB y j b) (List.getElem?_set_self hi) hr]
        simp only [sv, bv_get, setB]
        rw [List.getElem?_set_ne (by omega)]
      · obtain ⟨z, hz⟩ := get_ex hq
        rw [hmm, flat_get sv 64 sv_length _ (m / 64) (m % 64) z (by rw [List.getElem?_set_ne (by omega)]; exact hz) hr, flat_get sv 64 sv_length _ (m / 64) (m % 64) z (by rw [List.getElem?_set_ne (by omega)]; exact hz) hr]
    · rw [List.getElem?_eq_none (by rw [hlen]; omega), List.getElem?_eq_none (by rw [hlen]; omega)]

/- (*turntable/dev.sector).turn -/
set_option maxHeartbeats 1000000 in
set_option maxRecDepth 100000 in
theorem turn_con {kb o i a0 w0 : Nat} {l : List Sec} {x0 : Sec} (hi : i < l.length) (ho : o = i * 64) (ha : a0 ≤ 512) (hw : w0 < 4294967296) {w : World} (hr : (cl kb 69 ((l.set i x0).flatMap sv)).ok w.heap) :
    Calls Tryz.prog 35 #[.pointer (some ⟨kb, o, none⟩), .int .i64 (a0 : Int), .int .u32 (w0 : Int)] w fun e w' => e = .returned (.tuple #[]) ∧ Tr w [cl kb 69 ((l.set i x0).flatMap sv)] w' [cl kb 69 ((l.set i (turnS x0 a0 w0)).flatMap sv)] := by
  refine K.enter (args := [_, _, _]) Tryz.func35 rfl Tryz.ntmps35 rfl (Disj.one _) (by intro r hr1; simp only [List.mem_singleton] at hr1; subst hr1; exact hr) ?_
  refine K.GC.block ?_
  refine K.GC.loopk (α := Sec × Nat × Nat) [0] rfl (fun x => [(1, .int .i64 (x.2.1 : Int)), (2, .int .u32 (x.2.2 : Int))]) (fun x => [cl kb 69 ((l.set i x.1).flatMap sv)]) (fun x => turnS x.1 x.2.1 x.2.2 = turnS x0 a0 w0 ∧ x.2.1 ≤ 512 ∧ x.2.2 < 4294967296) (fun x => (512 - x.2.1)) (x0, a0, w0) ⟨rfl, ha, hw⟩ (by (repeat refine ⟨rfl, ?_⟩); exact trivial) (K.Sub.refl _) (fun x hI => ?_)
  obtain ⟨y, a, v⟩ := x
  simp only at hI ⊢
  refine K.GC.seq ?_
  refine K.GC.seq ?_
  refine K.GC.region ?_
  refine K.GL.det (K.e_move rfl) rfl ?_
  first | refine K.GL.det ((K.e_ne rfl rfl).yes (by first | omega | assumption | decide +kernel)) rfl ?_ | refine K.GL.det ((K.e_ne rfl rfl).no (by first | omega | assumption | decide +kernel)) rfl ?_ | refine K.GL.det (K.e_ne rfl rfl) rfl ?_
  refine K.GL.det (K.e_move rfl) rfl ?_
  first | refine K.GL.splitB 8 rfl (fun h1 => ?_) (fun h1 => ?_) | skip
  all_goals first | exact absurd h1 (by decide) | replace h1 := of_decide_eq_true h1 | replace h1 := of_decide_eq_false h1 | skip
  all_goals
    first | (refine K.GL.want 8 rfl rfl rfl ?_; first | refine K.GL.det (K.e_move rfl) rfl ?_) | refine K.GL.skip 8 rfl rfl rfl rfl ?_ | refine K.GL.skipU 8 rfl rfl rfl rfl ?_
    first | (refine K.GL.want 8 rfl rfl rfl ?_; first | refine K.GL.det ((K.e_lt rfl rfl).yes (by first | omega | assumption | decide +kernel)) rfl ?_ | refine K.GL.det ((K.e_lt rfl rfl).no (by first | omega | assumption | decide +kernel)) rfl ?_ | refine K.GL.det (K.e_lt rfl rfl) rfl ?_) | refine K.GL.skip 8 rfl rfl rfl rfl ?_ | refine K.GL.skipU 8 rfl rfl rfl rfl ?_
    first | refine K.GL.det (K.e_pick_t rfl rfl) rfl ?_ | refine K.GL.det (K.e_pick_f rfl rfl) rfl ?_
    refine K.GL.nil ?_
    refine K.GQ.go ?_
    refine K.GC.condB rfl (fun h2 => ?_) (fun h2 => ?_)
    · first
      | exact absurd h2 (by decide)
      | try replace h2 := of_decide_eq_true h2
        refine K.GC.skip ?_
        refine K.GQ.go ?_
        refine K.GC.seq ?_
        refine K.GC.block ?_
        refine K.GC.seq ?_
        have hoff : o + ((a : Int) / 8).toNat * 1 = i * 64 + a / 8 := by omega
        obtain ⟨b, hb⟩ : ∃ b, y.1[a / 8]? = some b := get_ex (by rw [y.2]; omega)
        have hfl : flipS y a v = setB y (a / 8) (xorB b.toNat ((v % 2) * 2 ^ (a % 8) % 256)) := by unfold flipS; rw [hb]; rfl
        refine K.GC.drawn 15 [[], [], [1], [0], [0, 1, 2, 3], [0, 1, 2, 3, 4], [], [6], [6, 7], [], [9], [6, 7, 8, 9, 10], [0, 1, 2, 3, 4, 5, 6, 7, 8, 9, 10, 11], [0], [0, 1, 2, 3, 4, 5, 6, 7, 8, 9, 10, 11, 12, 13], [0, 1, 2, 3, 4, 5, 6, 7, 8, 9, 10, 11, 12, 13, 14]] [[], [], [1], [0], [2, 3], [4], [], [6], [7], [], [9], [8, 10], [5, 11], [0], [2, 13]] [0, 1, 2, 6, 7, 8, 9, 10, 11, 12, 13, 29, 30] (by kernel_rfl) (by kernel_rfl) rfl ?_
        refine K.DW.det rfl (fun vs => K.e_move rfl) ?_
        refine K.DW.det rfl (fun vs => K.e_move rfl) ?_
        refine K.DW.det rfl (fun vs => K.e_quo rfl rfl (by omega) (by omega) (by omega)) ?_
        refine K.DW.det rfl (fun vs => K.e_nilCheck rfl) ?_
        refine K.DW.det rfl (fun vs => K.e_indexAddrA arr69 rfl rfl (by omega) (by omega)) ?_
        refine K.DW.det rfl (fun vs => K.e_load Tryz.isAgg5 rfl (by rw [hoff]; exact ld_byte hi hb)) ?_
        refine K.DW.det rfl (fun vs => K.e_move rfl) ?_
        refine K.DW.det rfl (fun vs => (K.e_and rfl rfl).cast_int (and_one (by omega))) ?_
        first | refine K.DW.det rfl (fun vs => K.e_conv Tryz.underlying71 Tryz.underlying5 rfl (K.wrap_u8 (by omega) (by omega))) ?_ | refine K.DW.det rfl (fun vs => K.e_convw Tryz.underlying71 Tryz.underlying5 rfl) ?_
        refine K.DW.det rfl (fun vs => K.e_move rfl) ?_
        refine K.DW.det rfl (fun vs => K.e_rem rfl rfl (by omega) (by omega) (by omega)) ?_
        refine K.DW.det rfl (fun vs => (K.e_shl rfl rfl (by omega)).cast_int (shl_eq (by omega))) ?_
        refine K.DW.det rfl (fun vs => (K.e_xor rfl rfl).cast_int xor_eq) ?_
        refine K.DW.det rfl (fun vs => K.e_nilCheck rfl) ?_
        refine K.DW.det rfl (fun vs => K.e_indexAddrA arr69 rfl rfl (by omega) (by omega)) ?_
        refine K.DW.fin0 rfl (fun vs => ?_)
        refine K.GL.keep [0, 1, 2, 6, 7, 8, 9, 10, 11, 12, 13, 14, 15, 16, 17, 18, 19, 20, 21, 22, 23, 24, 25, 26, 27, 28, 29, 30] rfl ?_
        clear vs
        refine K.GL.storeP (cs' := (l.set i (flipS y a v)).flatMap sv) rfl rfl rfl Tryz.sizeOf5 rfl rfl (by rw [hoff, hfl]; exact st_byte hi (by omega)) ?_
        refine K.GL.nil ?_
        refine K.GQ.go ?_
        refine K.GC.region ?_
        refine K.GL.det (K.e_move rfl) rfl ?_
        refine K.GL.det ((K.e_shr rfl rfl (by omega)).cast_int shr_one) rfl ?_
        refine K.GL.det (K.e_assign rfl) rfl ?_
        refine K.GL.nil ?_
        refine K.GQ.block_normal ?_
        refine K.GQ.go ?_
        refine K.GC.region ?_
        refine K.GL.det (K.e_move rfl) rfl ?_
        first | refine K.GL.det (K.e_add rfl rfl ⟨by omega, by omega⟩) rfl ?_ | refine K.GL.det (K.e_addw rfl rfl) rfl ?_
        refine K.GL.det (K.e_assign rfl) rfl ?_
        refine K.GL.nil ?_
        exact K.GQ.round (flipS y a v, a + 1, v / 2) ⟨by rw [← hI.1]; exact (turnS_go (by omega)).symm, by simp only; omega, by simp only; omega⟩ (by simp only; omega) (by (repeat refine ⟨rfl, ?_⟩); exact trivial) K.sub
    · first
      | exact absurd h2 (by decide)
      | try replace h2 := of_decide_eq_false h2
        refine K.GC.exit ?_
        refine K.GQ.then_exit ?_
        refine K.GQ.then_exit ?_
        refine K.GQ.block_hit ?_
        refine K.GQ.end_ret ?_
        refine K.GQ.ret0 Tryz.results35 (fun w hT => ?_)
        rw [← hI.1, turnS_end (by omega)]; exact ⟨rfl, hT⟩
end Go.Proofs.YtdbedajaapamhaaGreat
