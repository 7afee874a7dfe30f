/- Are texts, numbers, items, entries alike? -/
import Derived.Test.YtcphpcjcbmennaaEntF
namespace Go.Proofs.Ytcphpcjcbmennaa
open Go Go.K
set_option linter.unusedVariables false
set_option linter.unusedSimpArgs false
attribute [local irreducible] Calls Ev GL GC GQ GR Code.wp
deriving instance DecidableEq for EX
def itm (x : EX) : Int × Int × Int × Int × Bool := (x.id, x.cls, x.tick, x.cost, x.pin)
def brf (x : EX) : Int × Int × Int × Int × List Bytes := (x.bid, x.from_, x.to, x.many, x.sv)
def encB (x : EX) (a : Option Addr) (c : Nat) : List Value := [.int .i64 x.bid, .int .i64 x.from_, .int .i64 x.to, .int .i64 x.many, .slice a x.sv.length c]
theorem ex_iff {x y : EX} : x = y ↔ itm x = itm y ∧ brf x = brf y ∧ x.seq = y.seq ∧ x.at_ = y.at_ ∧ x.size = y.size := by
  cases x; cases y
  simp only [EX.mk.injEq, itm, brf, Prod.mk.injEq]
  constructor
  · rintro ⟨h1, h2, h3, h4, h5, h6, h7, h8, h9, h10, h11, h12, h13⟩
    exact ⟨⟨h1, h2, h3, h4, h5⟩, ⟨h6, h7, h8, h9, h10⟩, h11, h12, h13⟩
  · rintro ⟨⟨h1, h2, h3, h4, h5⟩, ⟨h6, h7, h8, h9, h10⟩, h11, h12, h13⟩
    exact ⟨h1, h2, h3, h4, h5, h6, h7, h8, h9, h10, h11, h12, h13⟩
theorem brf_iff {x y : EX} : brf x = brf y ↔ x.bid = y.bid ∧ x.from_ = y.from_ ∧ x.to = y.to ∧ x.many = y.many ∧ x.sv = y.sv := by
  simp only [brf, Prod.mk.injEq]
theorem run_eqI (w : World) (x y : EX) : (Op.equalIn 10000 28 (.agg (encI x).toArray) (.agg (encI y).toArray)).run Try.prog w = .ok (decide (itm x = itm y)) w := by
  have hF : ∃ fs, Try.prog.underlying 28 = some (.struct fs) ∧ Try.prog.fieldsOf 28 = fs := ⟨_, Try.underlying28, by simp only [Program.fieldsOf, Try.underlying28]⟩
  obtain ⟨fs, h1, h2⟩ := hF
  rw [run_equalIn_agg w 9999 28 _ _ (by rw [h2]; exact h1) (by kernel_rfl)]
  rw [h2]
  rw [Try.underlying28] at h1
  simp only [Option.some.injEq, TypeDesc.struct.injEq] at h1
  subst h1
  show (Op.eqFields (9998 + 1) (encI x).toArray (encI y).toArray (_ :: _ :: _ :: _ :: _ :: [])).run _ _ = _
  rw [eqF_int (by decide) Try.isAgg2 Try.underlying2 rfl rfl, eqF_int (by decide) Try.isAgg3 Try.underlying3 rfl rfl, eqF_int (by decide) Try.isAgg2 Try.underlying2 rfl rfl,
    eqF_int (by decide) Try.isAgg3 Try.underlying3 rfl rfl, eqF_bool (by decide) Try.isAgg4 Try.underlying4 rfl rfl]
  have e : (Op.eqFields 9999 (encI x).toArray (encI y).toArray []).run Try.prog w = .ok true w := rfl
  have e2 := e
  simp only [Op.eqFields, Sem.run_pure]
  by_cases h1 : x.id = y.id
  · rw [if_pos h1]
    by_cases h2 : x.cls = y.cls
    · rw [if_pos h2]
      by_cases h3 : x.tick = y.tick
      · rw [if_pos h3]
        by_cases h4 : x.cost = y.cost
        · rw [if_pos h4]
          by_cases h5 : x.pin = y.pin
          · rw [if_pos h5, decide_eq_true (by simp [itm, h1, h2, h3, h4, h5])]
          · rw [if_neg h5, decide_eq_false (by simp [itm, h5])]
        · rw [if_neg h4, decide_eq_false (by simp [itm, h4])]
      · rw [if_neg h3, decide_eq_false (by simp [itm, h3])]
    · rw [if_neg h2, decide_eq_false (by simp [itm, h2])]
  · rw [if_neg h1, decide_eq_false (by simp [itm, h1])]
theorem strs_get {l : List Bytes} {o x : Nat} {p : Bytes} (h : l[x]? = some p) (ho : o = x) : (strs l)[o]? = some (K.str p) := by
  subst ho; unfold strs; rw [List.getElem?_map, h]; rfl
def intsV (l : List Int) : List Value := l.map (.int .i64)
theorem intsV_get {l : List Int} {o x : Nat} {p : Int} (h : l[x]? = some p) (ho : o = x) : (intsV l)[o]? = some (.int .i64 p) := by
  subst ho; unfold intsV; rw [List.getElem?_map, h]; rfl
theorem idsV_ints (l : List EX) : idsV l = intsV (l.map EX.id) := by unfold idsV intsV; rw [List.map_map]; rfl
theorem same_next {α : Type} {l k : List α} {x : Nat} {p q : α} (h : l.take x = k.take x) (hp : l[x]? = some p) (hq : k[x]? = some q) (e : p = q) : l.take (x + 1) = k.take (x + 1) := by
  subst e; exact take_next h hp hq
theorem same_map {α β : Type} {f : α → β} {l k : List α} {x : Nat} {p q : α} (h : (l.map f).take x = (k.map f).take x) (hp : l[x]? = some p) (hq : k[x]? = some q) (e : f p = f q) : (l.map f).take (x + 1) = (k.map f).take (x + 1) :=
  same_next (p := f p) (q := f q) h (by rw [List.getElem?_map, hp]; rfl) (by rw [List.getElem?_map, hq]; rfl) e
theorem ne_map {α β : Type} {f : α → β} {l k : List α} {x : Nat} {p q : α} (hp : l[x]? = some p) (hq : k[x]? = some q) (e : f p ≠ f q) : l.map f ≠ k.map f := fun h => by
  have h1 : (l.map f)[x]? = some (f p) := by rw [List.getElem?_map, hp]; rfl
  have h2 : (k.map f)[x]? = some (f q) := by rw [List.getElem?_map, hq]; rfl
  rw [h, h2] at h1
  exact e (Option.some.inj h1).symm

theorem sl29 : K.slOf Try.prog 29 = some (9, 1) := by kernel_rfl
/- turntable/turntableref05.SameTexts -/
set_option maxHeartbeats 1000000 in
set_option maxRecDepth 100000 in
theorem texts_con {a b : Option Addr} {n m ca cb : Nat} {l k : List Bytes} {w : World} (hA : Sl w 1 a n (strs l)) (hB : Sl w 1 b m (strs k)) (hn : n < 9223372036854775807) :
    Calls Try.prog 49 #[.slice a n ca, .slice b m cb] w fun e w' => e = .returned (.bool (decide (l.map id = k.map id))) ∧ Tr w [] w' [] := by
  have hla : l.length = n := by have := hA.len; rw [strs_length] at this; omega
  have hlb : k.length = m := by have := hB.len; rw [strs_length] at this; omega
  refine K.enter0 (args := [_, _]) Try.func49 rfl Try.ntmps49 rfl ?_
  refine K.GC.seq ?_
  refine K.GC.region ?_
  refine K.GL.det (K.e_assign rfl) rfl ?_
  refine K.GL.nil ?_
  refine K.GQ.go ?_
  refine K.GC.seq ?_
  refine K.GC.seq ?_
  refine K.GC.region ?_
  refine K.GL.det (K.e_move rfl) rfl ?_
  refine K.GL.det (K.e_len Try.underlying29 rfl) rfl ?_
  refine K.GL.det (K.e_move rfl) rfl ?_
  refine K.GL.det (K.e_len Try.underlying29 rfl) rfl ?_
  first | refine K.GL.det ((K.e_ne rfl rfl).yes (by first | omega | assumption | decide +kernel)) rfl ?_ | refine K.GL.det ((K.e_ne rfl rfl).no (by first | omega | assumption | decide +kernel)) rfl ?_ | refine K.GL.det (K.e_ne rfl rfl) rfl ?_
  refine K.GL.nil ?_
  refine K.GQ.go ?_
  refine K.GC.condB rfl (fun h1 => ?_) (fun h1 => ?_)
  · first
    | exact absurd h1 (by decide)
    | try replace h1 := of_decide_eq_true h1
      refine K.GC.seq ?_
      refine K.GC.region ?_
      refine K.GL.det (K.e_assign rfl) rfl ?_
      refine K.GL.nil ?_
      refine K.GQ.go ?_
      refine K.GC.ret ?_
      refine K.GQ.then_ret ?_
      refine K.GQ.ret1 Try.results49 rfl (fun w hT => ?_)
      first
        | exact ⟨ret_no (fun he => by have h0 := congrArg List.length he; rw [List.length_map, List.length_map] at h0; omega), hT⟩
        | exact ⟨ret_no (ne_map hp hq (by assumption)), hT⟩
        | (obtain rfl : x = l.length := by omega
           exact ⟨ret_yes (by have h2 := hI.2; rw [List.take_of_length_le (by simp), List.take_of_length_le (by simp; omega)] at h2; exact h2), hT⟩)
  · first
    | exact absurd h1 (by decide)
    | try replace h1 := of_decide_eq_false h1
      refine K.GC.skip ?_
      refine K.GQ.go ?_
      refine K.GC.seq ?_
      refine K.GC.seq ?_
      refine K.GC.region ?_
      refine K.GL.det (K.e_assign rfl) rfl ?_
      refine K.GL.nil ?_
      refine K.GQ.go ?_
      refine K.GC.block ?_
      refine K.GC.loopk (α := Nat) [0, 1] rfl (fun x => [(5, .int .i64 (x : Int))]) (fun x => []) (fun x => x ≤ l.length ∧ (l.map id).take x = (k.map id).take x) (fun x => (l.length - x)) 0 ⟨by omega, rfl⟩ (by (repeat refine ⟨rfl, ?_⟩); exact trivial) (K.Sub.refl _) (fun x hI => ?_)
      refine K.GC.seq ?_
      refine K.GC.seq ?_
      refine K.GC.region ?_
      refine K.GL.det (K.e_move rfl) rfl ?_
      refine K.GL.det (K.e_move rfl) rfl ?_
      refine K.GL.det (K.e_len Try.underlying29 rfl) rfl ?_
      first | refine K.GL.det ((K.e_lt rfl rfl).yes (by first | omega | assumption | decide +kernel)) rfl ?_ | refine K.GL.det ((K.e_lt rfl rfl).no (by first | omega | assumption | decide +kernel)) rfl ?_ | refine K.GL.det (K.e_lt rfl rfl) rfl ?_
      refine K.GL.nil ?_
      refine K.GQ.go ?_
      refine K.GC.condB rfl (fun h2 => ?_) (fun h2 => ?_)
      · first
        | exact absurd h2 (by decide)
        | try replace h2 := of_decide_eq_true h2
          refine K.GC.skip ?_
          refine K.GQ.go ?_
          refine K.GC.seq ?_
          refine K.GC.block ?_
          refine K.GC.seq ?_
          obtain ⟨p, hp⟩ : ∃ p, l[x]? = some p := get_ex (by omega)
          obtain ⟨q, hq⟩ : ∃ q, k[x]? = some q := get_ex (by omega)
          refine K.GC.drawn 9 [[], [], [0, 1], [0, 1, 2], [], [], [4, 5], [4, 5, 6], [0, 1, 2, 3, 4, 5, 6, 7]] [[], [], [0, 1], [2], [], [], [4, 5], [6], [3, 7]] [0, 1, 4, 5, 11, 12, 13, 14, 15, 16] (by kernel_rfl) (by kernel_rfl) rfl ?_
          refine K.DW.det rfl (fun vs => K.e_move rfl) ?_
          refine K.DW.det rfl (fun vs => K.e_move rfl) ?_
          refine K.DW.det rfl (fun vs => K.e_indexAddrS sl29 rfl rfl hA (by omega) (by omega)) ?_
          refine K.DW.det rfl (fun vs => K.e_load_old Try.isAgg9 rfl (hA.cell _ _ (strs_get hp (by omega)))) ?_
          refine K.DW.det rfl (fun vs => K.e_move rfl) ?_
          refine K.DW.det rfl (fun vs => K.e_move rfl) ?_
          refine K.DW.det rfl (fun vs => K.e_indexAddrS sl29 rfl rfl hB (by omega) (by omega)) ?_
          refine K.DW.det rfl (fun vs => K.e_load_old Try.isAgg9 rfl (hB.cell _ _ (strs_get hq (by omega)))) ?_
          refine K.DW.det rfl (fun vs => K.e_nes Try.underlying9 rfl rfl) ?_
          refine K.DW.fin0 rfl (fun vs => ?_)
          refine K.GL.keep [0, 1, 4, 5, 11, 12, 13, 14, 15, 16, 17, 18, 19, 20, 21, 22, 23, 24, 25] rfl ?_
          clear vs
          refine K.GL.nil ?_
          refine K.GQ.go ?_
          refine K.GC.condB rfl (fun h3 => ?_) (fun h3 => ?_)
          · first
            | exact absurd h3 (by decide)
            | try replace h3 := of_decide_eq_true h3
              refine K.GC.seq ?_
              refine K.GC.region ?_
              refine K.GL.det (K.e_assign rfl) rfl ?_
              refine K.GL.nil ?_
              refine K.GQ.go ?_
              refine K.GC.ret ?_
              refine K.GQ.block_ret ?_
              refine K.GQ.then_ret ?_
              refine K.GQ.then_ret ?_
              refine K.GQ.block_ret ?_
              refine K.GQ.then_ret ?_
              refine K.GQ.ret1 Try.results49 rfl (fun w hT => ?_)
              first
                | exact ⟨ret_no (fun he => by have h0 := congrArg List.length he; rw [List.length_map, List.length_map] at h0; omega), hT⟩
                | exact ⟨ret_no (ne_map hp hq (by assumption)), hT⟩
                | (obtain rfl : x = l.length := by omega
                   exact ⟨ret_yes (by have h2 := hI.2; rw [List.take_of_length_le (by simp), List.take_of_length_le (by simp; omega)] at h2; exact h2), hT⟩)
          · first
            | exact absurd h3 (by decide)
            | try replace h3 := of_decide_eq_false h3
              refine K.GC.skip ?_
              refine K.GQ.block_normal ?_
              refine K.GQ.go ?_
              refine K.GC.region ?_
              refine K.GL.det (K.e_move rfl) rfl ?_
              first | refine K.GL.det (K.e_add rfl rfl ⟨by omega, by omega⟩) rfl ?_ | refine K.GL.det (K.e_addw rfl rfl) rfl ?_
              refine K.GL.det (K.e_assign rfl) rfl ?_
              refine K.GL.nil ?_
              exact K.GQ.round (x + 1) ⟨by omega, same_map hI.2 hp hq (by first | assumption | (apply Classical.byContradiction; assumption))⟩ (by omega) (by (repeat refine ⟨rfl, ?_⟩); exact trivial) K.sub
      · first
        | exact absurd h2 (by decide)
        | try replace h2 := of_decide_eq_false h2
          refine K.GC.exit ?_
          refine K.GQ.then_exit ?_
          refine K.GQ.then_exit ?_
          refine K.GQ.block_hit ?_
          refine K.GQ.go ?_
          refine K.GC.seq ?_
          refine K.GC.region ?_
          refine K.GL.det (K.e_assign rfl) rfl ?_
          refine K.GL.nil ?_
          refine K.GQ.go ?_
          refine K.GC.ret ?_
          refine K.GQ.ret1 Try.results49 rfl (fun w hT => ?_)
          first
            | exact ⟨ret_no (fun he => by have h0 := congrArg List.length he; rw [List.length_map, List.length_map] at h0; omega), hT⟩
            | exact ⟨ret_no (ne_map hp hq (by assumption)), hT⟩
            | (obtain rfl : x = l.length := by omega
               exact ⟨ret_yes (by have h2 := hI.2; rw [List.take_of_length_le (by simp), List.take_of_length_le (by simp; omega)] at h2; exact h2), hT⟩)
/- turntable/turntableref06.SameIds -/
set_option maxHeartbeats 1000000 in
set_option maxRecDepth 100000 in
theorem ids_con {a b : Option Addr} {n m ca cb : Nat} {l k : List Int} {w : World} (hA : Sl w 1 a n (intsV l)) (hB : Sl w 1 b m (intsV k)) (hn : n < 9223372036854775807) :
    Calls Try.prog 28 #[.slice a n ca, .slice b m cb] w fun e w' => e = .returned (.bool (decide (l.map id = k.map id))) ∧ Tr w [] w' [] := by
  have hla : l.length = n := by have := hA.len; rw [intsV, List.length_map] at this; omega
  have hlb : k.length = m := by have := hB.len; rw [intsV, List.length_map] at this; omega
  refine K.enter0 (args := [_, _]) Try.func28 rfl Try.ntmps28 rfl ?_
  refine K.GC.seq ?_
  refine K.GC.region ?_
  refine K.GL.det (K.e_assign rfl) rfl ?_
  refine K.GL.nil ?_
  refine K.GQ.go ?_
  refine K.GC.seq ?_
  refine K.GC.seq ?_
  refine K.GC.region ?_
  refine K.GL.det (K.e_move rfl) rfl ?_
  refine K.GL.det (K.e_len Try.underlying50 rfl) rfl ?_
  refine K.GL.det (K.e_move rfl) rfl ?_
  refine K.GL.det (K.e_len Try.underlying50 rfl) rfl ?_
  first | refine K.GL.det ((K.e_ne rfl rfl).yes (by first | omega | assumption | decide +kernel)) rfl ?_ | refine K.GL.det ((K.e_ne rfl rfl).no (by first | omega | assumption | decide +kernel)) rfl ?_ | refine K.GL.det (K.e_ne rfl rfl) rfl ?_
  refine K.GL.nil ?_
  refine K.GQ.go ?_
  refine K.GC.condB rfl (fun h1 => ?_) (fun h1 => ?_)
  · first
    | exact absurd h1 (by decide)
    | try replace h1 := of_decide_eq_true h1
      refine K.GC.seq ?_
      refine K.GC.region ?_
      refine K.GL.det (K.e_assign rfl) rfl ?_
      refine K.GL.nil ?_
      refine K.GQ.go ?_
      refine K.GC.ret ?_
      refine K.GQ.then_ret ?_
      refine K.GQ.ret1 Try.results28 rfl (fun w hT => ?_)
      first
        | exact ⟨ret_no (fun he => by have h0 := congrArg List.length he; rw [List.length_map, List.length_map] at h0; omega), hT⟩
        | exact ⟨ret_no (ne_map hp hq (by assumption)), hT⟩
        | (obtain rfl : x = l.length := by omega
           exact ⟨ret_yes (by have h2 := hI.2; rw [List.take_of_length_le (by simp), List.take_of_length_le (by simp; omega)] at h2; exact h2), hT⟩)
  · first
    | exact absurd h1 (by decide)
    | try replace h1 := of_decide_eq_false h1
      refine K.GC.skip ?_
      refine K.GQ.go ?_
      refine K.GC.seq ?_
      refine K.GC.seq ?_
      refine K.GC.region ?_
      refine K.GL.det (K.e_assign rfl) rfl ?_
      refine K.GL.nil ?_
      refine K.GQ.go ?_
      refine K.GC.block ?_
      refine K.GC.loopk (α := Nat) [0, 1] rfl (fun x => [(5, .int .i64 (x : Int))]) (fun x => []) (fun x => x ≤ l.length ∧ (l.map id).take x = (k.map id).take x) (fun x => (l.length - x)) 0 ⟨by omega, rfl⟩ (by (repeat refine ⟨rfl, ?_⟩); exact trivial) (K.Sub.refl _) (fun x hI => ?_)
      refine K.GC.seq ?_
      refine K.GC.seq ?_
      refine K.GC.region ?_
      refine K.GL.det (K.e_move rfl) rfl ?_
      refine K.GL.det (K.e_move rfl) rfl ?_
      refine K.GL.det (K.e_len Try.underlying50 rfl) rfl ?_
      first | refine K.GL.det ((K.e_lt rfl rfl).yes (by first | omega | assumption | decide +kernel)) rfl ?_ | refine K.GL.det ((K.e_lt rfl rfl).no (by first | omega | assumption | decide +kernel)) rfl ?_ | refine K.GL.det (K.e_lt rfl rfl) rfl ?_
      refine K.GL.nil ?_
      refine K.GQ.go ?_
      refine K.GC.condB rfl (fun h2 => ?_) (fun h2 => ?_)
      · first
        | exact absurd h2 (by decide)
        | try replace h2 := of_decide_eq_true h2
          refine K.GC.skip ?_
          refine K.GQ.go ?_
          refine K.GC.seq ?_
          refine K.GC.block ?_
          refine K.GC.seq ?_
          obtain ⟨p, hp⟩ : ∃ p, l[x]? = some p := get_ex (by omega)
          obtain ⟨q, hq⟩ : ∃ q, k[x]? = some q := get_ex (by omega)
          refine K.GC.drawn 9 [[], [], [0, 1], [0, 1, 2], [], [], [4, 5], [4, 5, 6], [0, 1, 2, 3, 4, 5, 6, 7]] [[], [], [0, 1], [2], [], [], [4, 5], [6], [3, 7]] [0, 1, 4, 5, 11, 12, 13, 14, 15, 16] (by kernel_rfl) (by kernel_rfl) rfl ?_
          refine K.DW.det rfl (fun vs => K.e_move rfl) ?_
          refine K.DW.det rfl (fun vs => K.e_move rfl) ?_
          refine K.DW.det rfl (fun vs => K.e_indexAddrS sl50 rfl rfl hA (by omega) (by omega)) ?_
          refine K.DW.det rfl (fun vs => K.e_load_old Try.isAgg2 rfl (hA.cell _ _ (intsV_get hp (by omega)))) ?_
          refine K.DW.det rfl (fun vs => K.e_move rfl) ?_
          refine K.DW.det rfl (fun vs => K.e_move rfl) ?_
          refine K.DW.det rfl (fun vs => K.e_indexAddrS sl50 rfl rfl hB (by omega) (by omega)) ?_
          refine K.DW.det rfl (fun vs => K.e_load_old Try.isAgg2 rfl (hB.cell _ _ (intsV_get hq (by omega)))) ?_
          refine K.DW.det rfl (fun vs => K.e_ne rfl rfl) ?_
          refine K.DW.fin0 rfl (fun vs => ?_)
          refine K.GL.keep [0, 1, 4, 5, 11, 12, 13, 14, 15, 16, 17, 18, 19, 20, 21, 22, 23, 24, 25] rfl ?_
          clear vs
          refine K.GL.nil ?_
          refine K.GQ.go ?_
          refine K.GC.condB rfl (fun h3 => ?_) (fun h3 => ?_)
          · first
            | exact absurd h3 (by decide)
            | try replace h3 := of_decide_eq_true h3
              refine K.GC.seq ?_
              refine K.GC.region ?_
              refine K.GL.det (K.e_assign rfl) rfl ?_
              refine K.GL.nil ?_
              refine K.GQ.go ?_
              refine K.GC.ret ?_
              refine K.GQ.block_ret ?_
              refine K.GQ.then_ret ?_
              refine K.GQ.then_ret ?_
              refine K.GQ.block_ret ?_
              refine K.GQ.then_ret ?_
              refine K.GQ.ret1 Try.results28 rfl (fun w hT => ?_)
              first
                | exact ⟨ret_no (fun he => by have h0 := congrArg List.length he; rw [List.length_map, List.length_map] at h0; omega), hT⟩
                | exact ⟨ret_no (ne_map hp hq (by assumption)), hT⟩
                | (obtain rfl : x = l.length := by omega
                   exact ⟨ret_yes (by have h2 := hI.2; rw [List.take_of_length_le (by simp), List.take_of_length_le (by simp; omega)] at h2; exact h2), hT⟩)
          · first
            | exact absurd h3 (by decide)
            | try replace h3 := of_decide_eq_false h3
              refine K.GC.skip ?_
              refine K.GQ.block_normal ?_
              refine K.GQ.go ?_
              refine K.GC.region ?_
              refine K.GL.det (K.e_move rfl) rfl ?_
              first | refine K.GL.det (K.e_add rfl rfl ⟨by omega, by omega⟩) rfl ?_ | refine K.GL.det (K.e_addw rfl rfl) rfl ?_
              refine K.GL.det (K.e_assign rfl) rfl ?_
              refine K.GL.nil ?_
              exact K.GQ.round (x + 1) ⟨by omega, same_map hI.2 hp hq (by first | assumption | (apply Classical.byContradiction; assumption))⟩ (by omega) (by (repeat refine ⟨rfl, ?_⟩); exact trivial) K.sub
      · first
        | exact absurd h2 (by decide)
        | try replace h2 := of_decide_eq_false h2
          refine K.GC.exit ?_
          refine K.GQ.then_exit ?_
          refine K.GQ.then_exit ?_
          refine K.GQ.block_hit ?_
          refine K.GQ.go ?_
          refine K.GC.seq ?_
          refine K.GC.region ?_
          refine K.GL.det (K.e_assign rfl) rfl ?_
          refine K.GL.nil ?_
          refine K.GQ.go ?_
          refine K.GC.ret ?_
          refine K.GQ.ret1 Try.results28 rfl (fun w hT => ?_)
          first
            | exact ⟨ret_no (fun he => by have h0 := congrArg List.length he; rw [List.length_map, List.length_map] at h0; omega), hT⟩
            | exact ⟨ret_no (ne_map hp hq (by assumption)), hT⟩
            | (obtain rfl : x = l.length := by omega
               exact ⟨ret_yes (by have h2 := hI.2; rw [List.take_of_length_le (by simp), List.take_of_length_le (by simp; omega)] at h2; exact h2), hT⟩)

theorem encI_len (x : EX) : (encI x).length = 5 := rfl
theorem encO_len (o : OE) : o.enc.length = 13 := rfl
theorem texts_con2 {a b : Option Addr} {n m ca cb : Nat} {l k : List Bytes} {w : World} (hA : Sl w 1 a n (strs l)) (hB : Sl w 1 b m (strs k)) (hn : n < 9223372036854775807) :
    Calls Try.prog 49 #[.slice a n ca, .slice b m cb] w fun e w' => e = .returned (.bool (decide (l = k))) ∧ Tr w [] w' [] :=
  (texts_con (ca := ca) (cb := cb) hA hB hn).mono fun e w' h => by simpa using h
theorem ids_con2 {a b : Option Addr} {n m ca cb : Nat} {l k : List Int} {w : World} (hA : Sl w 1 a n (intsV l)) (hB : Sl w 1 b m (intsV k)) (hn : n < 9223372036854775807) :
    Calls Try.prog 28 #[.slice a n ca, .slice b m cb] w fun e w' => e = .returned (.bool (decide (l = k))) ∧ Tr w [] w' [] :=
  (ids_con (ca := ca) (cb := cb) hA hB hn).mono fun e w' h => by simpa using h

theorem sl56 : K.slOf Try.prog 56 = some (28, 5) := by kernel_rfl
/- turntable/turntableref06.Same -/
set_option maxHeartbeats 1000000 in
set_option maxRecDepth 100000 in
theorem items_con {a b : Option Addr} {n m ca cb : Nat} {l k : List EX} {w : World} (hA : Sl w 5 a n (l.flatMap encI)) (hB : Sl w 5 b m (k.flatMap encI)) (hn : n < 9223372036854775807) :
    Calls Try.prog 34 #[.slice a n ca, .slice b m cb] w fun e w' => e = .returned (.bool (decide (l.map itm = k.map itm))) ∧ Tr w [] w' [] := by
  have hla : l.length = n := hA.count (by omega) encI_len
  have hlb : k.length = m := hB.count (by omega) encI_len
  refine K.enter0 (args := [_, _]) Try.func34 rfl Try.ntmps34 rfl ?_
  refine K.GC.seq ?_
  refine K.GC.region ?_
  refine K.GL.det (K.e_assign rfl) rfl ?_
  refine K.GL.nil ?_
  refine K.GQ.go ?_
  refine K.GC.seq ?_
  refine K.GC.seq ?_
  refine K.GC.region ?_
  refine K.GL.det (K.e_move rfl) rfl ?_
  refine K.GL.det (K.e_len Try.underlying56 rfl) rfl ?_
  refine K.GL.det (K.e_move rfl) rfl ?_
  refine K.GL.det (K.e_len Try.underlying56 rfl) rfl ?_
  first | refine K.GL.det ((K.e_ne rfl rfl).yes (by first | omega | assumption | decide +kernel)) rfl ?_ | refine K.GL.det ((K.e_ne rfl rfl).no (by first | omega | assumption | decide +kernel)) rfl ?_ | refine K.GL.det (K.e_ne rfl rfl) rfl ?_
  refine K.GL.nil ?_
  refine K.GQ.go ?_
  refine K.GC.condB rfl (fun h1 => ?_) (fun h1 => ?_)
  · first
    | exact absurd h1 (by decide)
    | try replace h1 := of_decide_eq_true h1
      refine K.GC.seq ?_
      refine K.GC.region ?_
      refine K.GL.det (K.e_assign rfl) rfl ?_
      refine K.GL.nil ?_
      refine K.GQ.go ?_
      refine K.GC.ret ?_
      refine K.GQ.then_ret ?_
      refine K.GQ.ret1 Try.results34 rfl (fun w hT => ?_)
      first
        | exact ⟨ret_no (fun he => by have h0 := congrArg List.length he; rw [List.length_map, List.length_map] at h0; omega), hT⟩
        | exact ⟨ret_no (ne_map hp hq (by assumption)), hT⟩
        | (obtain rfl : x = l.length := by omega
           exact ⟨ret_yes (by have h2 := hI.2; rw [List.take_of_length_le (by simp), List.take_of_length_le (by simp; omega)] at h2; exact h2), hT⟩)
  · first
    | exact absurd h1 (by decide)
    | try replace h1 := of_decide_eq_false h1
      refine K.GC.skip ?_
      refine K.GQ.go ?_
      refine K.GC.seq ?_
      refine K.GC.seq ?_
      refine K.GC.region ?_
      refine K.GL.det (K.e_assign rfl) rfl ?_
      refine K.GL.nil ?_
      refine K.GQ.go ?_
      refine K.GC.block ?_
      refine K.GC.loopk (α := Nat) [0, 1] rfl (fun x => [(5, .int .i64 (x : Int))]) (fun x => []) (fun x => x ≤ l.length ∧ (l.map itm).take x = (k.map itm).take x) (fun x => (l.length - x)) 0 ⟨by omega, rfl⟩ (by (repeat refine ⟨rfl, ?_⟩); exact trivial) (K.Sub.refl _) (fun x hI => ?_)
      refine K.GC.seq ?_
      refine K.GC.seq ?_
      refine K.GC.region ?_
      refine K.GL.det (K.e_move rfl) rfl ?_
      refine K.GL.det (K.e_move rfl) rfl ?_
      refine K.GL.det (K.e_len Try.underlying56 rfl) rfl ?_
      first | refine K.GL.det ((K.e_lt rfl rfl).yes (by first | omega | assumption | decide +kernel)) rfl ?_ | refine K.GL.det ((K.e_lt rfl rfl).no (by first | omega | assumption | decide +kernel)) rfl ?_ | refine K.GL.det (K.e_lt rfl rfl) rfl ?_
      refine K.GL.nil ?_
      refine K.GQ.go ?_
      refine K.GC.condB rfl (fun h2 => ?_) (fun h2 => ?_)
      · first
        | exact absurd h2 (by decide)
        | try replace h2 := of_decide_eq_true h2
          refine K.GC.skip ?_
          refine K.GQ.go ?_
          refine K.GC.seq ?_
          refine K.GC.block ?_
          refine K.GC.seq ?_
          obtain ⟨p, hp⟩ : ∃ p, l[x]? = some p := get_ex (by omega)
          obtain ⟨q, hq⟩ : ∃ q, k[x]? = some q := get_ex (by omega)
          refine K.GC.drawn 9 [[], [], [0, 1], [0, 1, 2], [], [], [4, 5], [4, 5, 6], [0, 1, 2, 3, 4, 5, 6, 7]] [[], [], [0, 1], [2], [], [], [4, 5], [6], [3, 7]] [0, 1, 4, 5, 11, 12, 13, 14, 15, 16] (by kernel_rfl) (by kernel_rfl) rfl ?_
          refine K.DW.det rfl (fun vs => K.e_move rfl) ?_
          refine K.DW.det rfl (fun vs => K.e_move rfl) ?_
          refine K.DW.det rfl (fun vs => K.e_indexAddrS sl56 rfl rfl hA (by omega) (by omega)) ?_
          refine K.DW.det rfl (fun vs => K.e_loadsw (vs := encI p) Try.isAgg28 Try.sizeOf28 rfl (fun w hT j v hj => hT.cell0 (hA.item encI_len hp j v hj)) rfl) ?_
          refine K.DW.det rfl (fun vs => K.e_move rfl) ?_
          refine K.DW.det rfl (fun vs => K.e_move rfl) ?_
          refine K.DW.det rfl (fun vs => K.e_indexAddrS sl56 rfl rfl hB (by omega) (by omega)) ?_
          refine K.DW.det rfl (fun vs => K.e_loadsw (vs := encI q) Try.isAgg28 Try.sizeOf28 rfl (fun w hT j v hj => hT.cell0 (hB.item encI_len hq j v hj)) rfl) ?_
          refine K.DW.det rfl (fun vs => K.e_neStruct (by kernel_rfl) rfl rfl (fun w => run_eqI w p q)) ?_
          refine K.DW.fin0 rfl (fun vs => ?_)
          refine K.GL.keep [0, 1, 4, 5, 11, 12, 13, 14, 15, 16, 17, 18, 19, 20, 21, 22, 23, 24, 25] rfl ?_
          clear vs
          refine K.GL.nil ?_
          refine K.GQ.go ?_
          refine K.GC.condB rfl (fun h3 => ?_) (fun h3 => ?_)
          · first
            | exact absurd h3 (by decide)
            | try replace h3 := of_decide_eq_true h3
              refine K.GC.seq ?_
              refine K.GC.region ?_
              refine K.GL.det (K.e_assign rfl) rfl ?_
              refine K.GL.nil ?_
              refine K.GQ.go ?_
              refine K.GC.ret ?_
              refine K.GQ.block_ret ?_
              refine K.GQ.then_ret ?_
              refine K.GQ.then_ret ?_
              refine K.GQ.block_ret ?_
              refine K.GQ.then_ret ?_
              refine K.GQ.ret1 Try.results34 rfl (fun w hT => ?_)
              first
                | exact ⟨ret_no (fun he => by have h0 := congrArg List.length he; rw [List.length_map, List.length_map] at h0; omega), hT⟩
                | exact ⟨ret_no (ne_map hp hq (by assumption)), hT⟩
                | (obtain rfl : x = l.length := by omega
                   exact ⟨ret_yes (by have h2 := hI.2; rw [List.take_of_length_le (by simp), List.take_of_length_le (by simp; omega)] at h2; exact h2), hT⟩)
          · first
            | exact absurd h3 (by decide)
            | try replace h3 := of_decide_eq_false h3
              refine K.GC.skip ?_
              refine K.GQ.block_normal ?_
              refine K.GQ.go ?_
              refine K.GC.region ?_
              refine K.GL.det (K.e_move rfl) rfl ?_
              first | refine K.GL.det (K.e_add rfl rfl ⟨by omega, by omega⟩) rfl ?_ | refine K.GL.det (K.e_addw rfl rfl) rfl ?_
              refine K.GL.det (K.e_assign rfl) rfl ?_
              refine K.GL.nil ?_
              exact K.GQ.round (x + 1) ⟨by omega, same_map hI.2 hp hq (by first | assumption | (apply Classical.byContradiction; assumption))⟩ (by omega) (by (repeat refine ⟨rfl, ?_⟩); exact trivial) K.sub
      · first
        | exact absurd h2 (by decide)
        | try replace h2 := of_decide_eq_false h2
          refine K.GC.exit ?_
          refine K.GQ.then_exit ?_
          refine K.GQ.then_exit ?_
          refine K.GQ.block_hit ?_
          refine K.GQ.go ?_
          refine K.GC.seq ?_
          refine K.GC.region ?_
          refine K.GL.det (K.e_assign rfl) rfl ?_
          refine K.GL.nil ?_
          refine K.GQ.go ?_
          refine K.GC.ret ?_
          refine K.GQ.ret1 Try.results34 rfl (fun w hT => ?_)
          first
            | exact ⟨ret_no (fun he => by have h0 := congrArg List.length he; rw [List.length_map, List.length_map] at h0; omega), hT⟩
            | exact ⟨ret_no (ne_map hp hq (by assumption)), hT⟩
            | (obtain rfl : x = l.length := by omega
               exact ⟨ret_yes (by have h2 := hI.2; rw [List.take_of_length_le (by simp), List.take_of_length_le (by simp; omega)] at h2; exact h2), hT⟩)
theorem fo31_0 : K.fieldOff Try.prog 31 0 = some (2, 0, 1) := by kernel_rfl
theorem fo31_1 : K.fieldOff Try.prog 31 1 = some (2, 1, 1) := by kernel_rfl
theorem fo31_2 : K.fieldOff Try.prog 31 2 = some (2, 2, 1) := by kernel_rfl
theorem fo31_3 : K.fieldOff Try.prog 31 3 = some (3, 3, 1) := by kernel_rfl
/- turntable/turntableref05.SameBrief -/
set_option maxHeartbeats 1000000 in
set_option maxRecDepth 100000 in
theorem brief_con {x y : EX} {a b : Option Addr} {ca cb : Nat} {w : World} (hA : Sl w 1 a x.sv.length (strs x.sv)) (hB : Sl w 1 b y.sv.length (strs y.sv)) (hn : x.sv.length < 9223372036854775807) :
    Calls Try.prog 39 #[.agg (encB x a ca).toArray, .agg (encB y b cb).toArray] w fun e w' => e = .returned (.bool (decide (brf x = brf y))) ∧ Tr w [] w' [] := by
  refine K.enter0 (args := [_, _]) Try.func39 rfl Try.ntmps39 rfl ?_
  refine K.GC.seq ?_
  refine K.GC.region ?_
  refine K.GL.box rfl rfl rfl (fun b2 => ?_)
  refine K.GL.box rfl rfl rfl (fun b3 => ?_)
  refine K.GL.det (K.e_assign rfl) rfl ?_
  refine K.GL.nil ?_
  refine K.GQ.go ?_
  refine K.GC.seq ?_
  refine K.GC.region ?_
  refine K.GL.det (K.e_fieldAddr fo31_0 rfl) rfl ?_
  first | refine K.GL.det (K.e_load Try.isAgg2 rfl rfl) rfl ?_ | refine K.GL.det (K.e_load0 Try.isAgg2 rfl (by assumption)) rfl ?_
  refine K.GL.det (K.e_fieldAddr fo31_0 rfl) rfl ?_
  first | refine K.GL.det (K.e_load Try.isAgg2 rfl rfl) rfl ?_ | refine K.GL.det (K.e_load0 Try.isAgg2 rfl (by assumption)) rfl ?_
  first | refine K.GL.det ((K.e_eq rfl rfl).yes (by assumption)) rfl ?_ | refine K.GL.det (K.e_eq rfl rfl) rfl ?_
  refine K.GL.det (K.e_move rfl) rfl ?_
  first | refine K.GL.splitB 10 rfl (fun h1 => ?_) (fun h1 => ?_) | skip
  all_goals first | exact absurd h1 (by decide) | replace h1 := of_decide_eq_true h1 | replace h1 := of_decide_eq_false h1 | skip
  all_goals
    first | (refine K.GL.want 10 rfl rfl rfl ?_; first | refine K.GL.det (K.e_fieldAddr fo31_1 rfl) rfl ?_) | refine K.GL.skip 10 rfl rfl rfl rfl ?_ | refine K.GL.skipU 10 rfl rfl rfl rfl ?_
    first | (refine K.GL.want 10 rfl rfl rfl ?_; first | refine K.GL.det (K.e_load Try.isAgg2 rfl rfl) rfl ?_ | refine K.GL.det (K.e_load0 Try.isAgg2 rfl (by assumption)) rfl ?_) | refine K.GL.skip 10 rfl rfl rfl rfl ?_ | refine K.GL.skipU 10 rfl rfl rfl rfl ?_
    first | (refine K.GL.want 10 rfl rfl rfl ?_; first | refine K.GL.det (K.e_fieldAddr fo31_1 rfl) rfl ?_) | refine K.GL.skip 10 rfl rfl rfl rfl ?_ | refine K.GL.skipU 10 rfl rfl rfl rfl ?_
    first | (refine K.GL.want 10 rfl rfl rfl ?_; first | refine K.GL.det (K.e_load Try.isAgg2 rfl rfl) rfl ?_ | refine K.GL.det (K.e_load0 Try.isAgg2 rfl (by assumption)) rfl ?_) | refine K.GL.skip 10 rfl rfl rfl rfl ?_ | refine K.GL.skipU 10 rfl rfl rfl rfl ?_
    first | (refine K.GL.want 10 rfl rfl rfl ?_; first | refine K.GL.det ((K.e_eq rfl rfl).yes (by assumption)) rfl ?_ | refine K.GL.det (K.e_eq rfl rfl) rfl ?_) | refine K.GL.skip 10 rfl rfl rfl rfl ?_ | refine K.GL.skipU 10 rfl rfl rfl rfl ?_
    first | refine K.GL.det (K.e_pick_t rfl rfl) rfl ?_ | refine K.GL.det (K.e_pick_f rfl rfl) rfl ?_
    refine K.GL.det (K.e_move rfl) rfl ?_
    first | refine K.GL.splitB 17 rfl (fun h2 => ?_) (fun h2 => ?_) | skip
    all_goals first | exact absurd h2 (by decide) | replace h2 := of_decide_eq_true h2 | replace h2 := of_decide_eq_false h2 | skip
    all_goals
      first | (refine K.GL.want 17 rfl rfl rfl ?_; first | refine K.GL.det (K.e_fieldAddr fo31_2 rfl) rfl ?_) | refine K.GL.skip 17 rfl rfl rfl rfl ?_ | refine K.GL.skipU 17 rfl rfl rfl rfl ?_
      first | (refine K.GL.want 17 rfl rfl rfl ?_; first | refine K.GL.det (K.e_load Try.isAgg2 rfl rfl) rfl ?_ | refine K.GL.det (K.e_load0 Try.isAgg2 rfl (by assumption)) rfl ?_) | refine K.GL.skip 17 rfl rfl rfl rfl ?_ | refine K.GL.skipU 17 rfl rfl rfl rfl ?_
      first | (refine K.GL.want 17 rfl rfl rfl ?_; first | refine K.GL.det (K.e_fieldAddr fo31_2 rfl) rfl ?_) | refine K.GL.skip 17 rfl rfl rfl rfl ?_ | refine K.GL.skipU 17 rfl rfl rfl rfl ?_
      first | (refine K.GL.want 17 rfl rfl rfl ?_; first | refine K.GL.det (K.e_load Try.isAgg2 rfl rfl) rfl ?_ | refine K.GL.det (K.e_load0 Try.isAgg2 rfl (by assumption)) rfl ?_) | refine K.GL.skip 17 rfl rfl rfl rfl ?_ | refine K.GL.skipU 17 rfl rfl rfl rfl ?_
      first | (refine K.GL.want 17 rfl rfl rfl ?_; first | refine K.GL.det ((K.e_eq rfl rfl).yes (by assumption)) rfl ?_ | refine K.GL.det (K.e_eq rfl rfl) rfl ?_) | refine K.GL.skip 17 rfl rfl rfl rfl ?_ | refine K.GL.skipU 17 rfl rfl rfl rfl ?_
      first | refine K.GL.det (K.e_pick_t rfl rfl) rfl ?_ | refine K.GL.det (K.e_pick_f rfl rfl) rfl ?_
      refine K.GL.det (K.e_move rfl) rfl ?_
      first | refine K.GL.splitB 24 rfl (fun h3 => ?_) (fun h3 => ?_) | skip
      all_goals first | exact absurd h3 (by decide) | replace h3 := of_decide_eq_true h3 | replace h3 := of_decide_eq_false h3 | skip
      all_goals
        first | (refine K.GL.want 24 rfl rfl rfl ?_; first | refine K.GL.det (K.e_fieldAddr fo31_3 rfl) rfl ?_) | refine K.GL.skip 24 rfl rfl rfl rfl ?_ | refine K.GL.skipU 24 rfl rfl rfl rfl ?_
        first | (refine K.GL.want 24 rfl rfl rfl ?_; first | refine K.GL.det (K.e_load Try.isAgg3 rfl rfl) rfl ?_ | refine K.GL.det (K.e_load0 Try.isAgg3 rfl (by assumption)) rfl ?_) | refine K.GL.skip 24 rfl rfl rfl rfl ?_ | refine K.GL.skipU 24 rfl rfl rfl rfl ?_
        first | (refine K.GL.want 24 rfl rfl rfl ?_; first | refine K.GL.det (K.e_fieldAddr fo31_3 rfl) rfl ?_) | refine K.GL.skip 24 rfl rfl rfl rfl ?_ | refine K.GL.skipU 24 rfl rfl rfl rfl ?_
        first | (refine K.GL.want 24 rfl rfl rfl ?_; first | refine K.GL.det (K.e_load Try.isAgg3 rfl rfl) rfl ?_ | refine K.GL.det (K.e_load0 Try.isAgg3 rfl (by assumption)) rfl ?_) | refine K.GL.skip 24 rfl rfl rfl rfl ?_ | refine K.GL.skipU 24 rfl rfl rfl rfl ?_
        first | (refine K.GL.want 24 rfl rfl rfl ?_; first | refine K.GL.det ((K.e_eq rfl rfl).yes (by assumption)) rfl ?_ | refine K.GL.det (K.e_eq rfl rfl) rfl ?_) | refine K.GL.skip 24 rfl rfl rfl rfl ?_ | refine K.GL.skipU 24 rfl rfl rfl rfl ?_
        first | refine K.GL.det (K.e_pick_t rfl rfl) rfl ?_ | refine K.GL.det (K.e_pick_f rfl rfl) rfl ?_
        refine K.GL.det (K.e_move rfl) rfl ?_
        first | refine K.GL.splitB 31 rfl (fun h4 => ?_) (fun h4 => ?_) | skip
        all_goals first | exact absurd h4 (by decide) | replace h4 := of_decide_eq_true h4 | replace h4 := of_decide_eq_false h4 | skip
        all_goals
          first | (refine K.GL.want 31 rfl rfl rfl ?_; first | refine K.GL.det (K.e_fieldAddr fo31_4 rfl) rfl ?_) | refine K.GL.skip 31 rfl rfl rfl rfl ?_ | refine K.GL.skipU 31 rfl rfl rfl rfl ?_
          first | (refine K.GL.want 31 rfl rfl rfl ?_; first | refine K.GL.det (K.e_load Try.isAgg29 rfl rfl) rfl ?_ | refine K.GL.det (K.e_load0 Try.isAgg29 rfl (by assumption)) rfl ?_) | refine K.GL.skip 31 rfl rfl rfl rfl ?_ | refine K.GL.skipU 31 rfl rfl rfl rfl ?_
          first | (refine K.GL.want 31 rfl rfl rfl ?_; first | refine K.GL.det (K.e_fieldAddr fo31_4 rfl) rfl ?_) | refine K.GL.skip 31 rfl rfl rfl rfl ?_ | refine K.GL.skipU 31 rfl rfl rfl rfl ?_
          first | (refine K.GL.want 31 rfl rfl rfl ?_; first | refine K.GL.det (K.e_load Try.isAgg29 rfl rfl) rfl ?_ | refine K.GL.det (K.e_load0 Try.isAgg29 rfl (by assumption)) rfl ?_) | refine K.GL.skip 31 rfl rfl rfl rfl ?_ | refine K.GL.skipU 31 rfl rfl rfl rfl ?_
          first | (refine K.GL.want 31 rfl rfl rfl ?_; first | refine K.GL.det (K.e_call1 Try.call49 rfl (fun w hT => texts_con2 (hA.stay hT (fun r hr => by cases hr)) (hB.stay hT (fun r hr => by cases hr)) hn)) rfl ?_) | refine K.GL.skip 31 rfl rfl rfl rfl ?_ | refine K.GL.skipU 31 rfl rfl rfl rfl ?_
          first | refine K.GL.det (K.e_pick_t rfl rfl) rfl ?_ | refine K.GL.det (K.e_pick_f rfl rfl) rfl ?_
          refine K.GL.det (K.e_assign rfl) rfl ?_
          refine K.GL.nil ?_
          refine K.GQ.go ?_
          refine K.GC.ret ?_
          refine K.GQ.ret1 Try.results39 rfl (fun w hT => ?_)
          first
            | exact ⟨ret_no (fun e => by have := brf_iff.1 e; simp_all), hT.nil⟩
            | exact ⟨ret_iff (by rw [brf_iff]; simp_all), hT.nil⟩
/- turntable/turntableref14.SameEntry -/
set_option maxHeartbeats 1000000 in
set_option maxRecDepth 100000 in
theorem same_con {x y : EX} {a b : Option Addr} {ca cb : Nat} {w : World} (hA : Sl w 1 a x.sv.length (strs x.sv)) (hB : Sl w 1 b y.sv.length (strs y.sv)) (hn : x.sv.length < 9223372036854775807) :
    Calls Try.prog 18 #[.agg (encE x a ca).toArray, .agg (encE y b cb).toArray] w fun e w' => e = .returned (.bool (decide (x = y))) ∧ Tr w [] w' [] := by
  refine K.enter0 (args := [_, _]) Try.func18 rfl Try.ntmps18 rfl ?_
  refine K.GC.seq ?_
  refine K.GC.region ?_
  refine K.GL.box rfl rfl rfl (fun b2 => ?_)
  refine K.GL.box rfl rfl rfl (fun b3 => ?_)
  refine K.GL.det (K.e_assign rfl) rfl ?_
  refine K.GL.nil ?_
  refine K.GQ.go ?_
  refine K.GC.seq ?_
  refine K.GC.region ?_
  refine K.GL.det (K.e_fieldAddr fo33_0 rfl) rfl ?_
  refine K.GL.det (K.e_loads Try.isAgg28 Try.sizeOf28 rfl rfl) rfl ?_
  refine K.GL.det (K.e_fieldAddr fo33_0 rfl) rfl ?_
  refine K.GL.det (K.e_loads Try.isAgg28 Try.sizeOf28 rfl rfl) rfl ?_
  refine K.GL.det (K.e_eqStruct (xs := encI x) (ys := encI y) (by kernel_rfl) rfl rfl (fun w => run_eqI w x y)) rfl ?_
  refine K.GL.det (K.e_move rfl) rfl ?_
  first | refine K.GL.splitB 10 rfl (fun h1 => ?_) (fun h1 => ?_) | skip
  all_goals first | exact absurd h1 (by decide) | replace h1 := of_decide_eq_true h1 | replace h1 := of_decide_eq_false h1 | skip
  all_goals
    first | (refine K.GL.want 10 rfl rfl rfl ?_; first | refine K.GL.det (K.e_fieldAddr fo33_1 rfl) rfl ?_) | refine K.GL.skip 10 rfl rfl rfl rfl ?_ | refine K.GL.skipU 10 rfl rfl rfl rfl ?_
    first | (refine K.GL.want 10 rfl rfl rfl ?_; first | refine K.GL.det (K.e_loads Try.isAgg31 Try.sizeOf31 rfl rfl) rfl ?_) | refine K.GL.skip 10 rfl rfl rfl rfl ?_ | refine K.GL.skipU 10 rfl rfl rfl rfl ?_
    first | (refine K.GL.want 10 rfl rfl rfl ?_; first | refine K.GL.det (K.e_fieldAddr fo33_1 rfl) rfl ?_) | refine K.GL.skip 10 rfl rfl rfl rfl ?_ | refine K.GL.skipU 10 rfl rfl rfl rfl ?_
    first | (refine K.GL.want 10 rfl rfl rfl ?_; first | refine K.GL.det (K.e_loads Try.isAgg31 Try.sizeOf31 rfl rfl) rfl ?_) | refine K.GL.skip 10 rfl rfl rfl rfl ?_ | refine K.GL.skipU 10 rfl rfl rfl rfl ?_
    first | (refine K.GL.want 10 rfl rfl rfl ?_; first | refine K.GL.det (K.e_call1 Try.call39 rfl (fun w hT => brief_con (hA.stay hT (fun r hr => by cases hr)) (hB.stay hT (fun r hr => by cases hr)) hn)) rfl ?_) | refine K.GL.skip 10 rfl rfl rfl rfl ?_ | refine K.GL.skipU 10 rfl rfl rfl rfl ?_
    first | refine K.GL.det (K.e_pick_t rfl rfl) rfl ?_ | refine K.GL.det (K.e_pick_f rfl rfl) rfl ?_
    refine K.GL.det (K.e_move rfl) rfl ?_
    first | refine K.GL.splitB 17 rfl (fun h2 => ?_) (fun h2 => ?_) | skip
    all_goals first | exact absurd h2 (by decide) | replace h2 := of_decide_eq_true h2 | replace h2 := of_decide_eq_false h2 | skip
    all_goals
      first | (refine K.GL.want 17 rfl rfl rfl ?_; first | refine K.GL.det (K.e_fieldAddr fo33_2 rfl) rfl ?_) | refine K.GL.skip 17 rfl rfl rfl rfl ?_ | refine K.GL.skipU 17 rfl rfl rfl rfl ?_
      first | (refine K.GL.want 17 rfl rfl rfl ?_; first | refine K.GL.det (K.e_load Try.isAgg2 rfl rfl) rfl ?_ | refine K.GL.det (K.e_load0 Try.isAgg2 rfl (by assumption)) rfl ?_) | refine K.GL.skip 17 rfl rfl rfl rfl ?_ | refine K.GL.skipU 17 rfl rfl rfl rfl ?_
      first | (refine K.GL.want 17 rfl rfl rfl ?_; first | refine K.GL.det (K.e_fieldAddr fo33_2 rfl) rfl ?_) | refine K.GL.skip 17 rfl rfl rfl rfl ?_ | refine K.GL.skipU 17 rfl rfl rfl rfl ?_
      first | (refine K.GL.want 17 rfl rfl rfl ?_; first | refine K.GL.det (K.e_load Try.isAgg2 rfl rfl) rfl ?_ | refine K.GL.det (K.e_load0 Try.isAgg2 rfl (by assumption)) rfl ?_) | refine K.GL.skip 17 rfl rfl rfl rfl ?_ | refine K.GL.skipU 17 rfl rfl rfl rfl ?_
      first | (refine K.GL.want 17 rfl rfl rfl ?_; first | refine K.GL.det (K.e_eq rfl rfl) rfl ?_) | refine K.GL.skip 17 rfl rfl rfl rfl ?_ | refine K.GL.skipU 17 rfl rfl rfl rfl ?_
      first | refine K.GL.det (K.e_pick_t rfl rfl) rfl ?_ | refine K.GL.det (K.e_pick_f rfl rfl) rfl ?_
      refine K.GL.det (K.e_move rfl) rfl ?_
      first | refine K.GL.splitB 24 rfl (fun h3 => ?_) (fun h3 => ?_) | skip
      all_goals first | exact absurd h3 (by decide) | replace h3 := of_decide_eq_true h3 | replace h3 := of_decide_eq_false h3 | skip
      all_goals
        first | (refine K.GL.want 24 rfl rfl rfl ?_; first | refine K.GL.det (K.e_fieldAddr fo33_3 rfl) rfl ?_) | refine K.GL.skip 24 rfl rfl rfl rfl ?_ | refine K.GL.skipU 24 rfl rfl rfl rfl ?_
        first | (refine K.GL.want 24 rfl rfl rfl ?_; first | refine K.GL.det (K.e_load Try.isAgg3 rfl rfl) rfl ?_ | refine K.GL.det (K.e_load0 Try.isAgg3 rfl (by assumption)) rfl ?_) | refine K.GL.skip 24 rfl rfl rfl rfl ?_ | refine K.GL.skipU 24 rfl rfl rfl rfl ?_
        first | (refine K.GL.want 24 rfl rfl rfl ?_; first | refine K.GL.det (K.e_fieldAddr fo33_3 rfl) rfl ?_) | refine K.GL.skip 24 rfl rfl rfl rfl ?_ | refine K.GL.skipU 24 rfl rfl rfl rfl ?_
        first | (refine K.GL.want 24 rfl rfl rfl ?_; first | refine K.GL.det (K.e_load Try.isAgg3 rfl rfl) rfl ?_ | refine K.GL.det (K.e_load0 Try.isAgg3 rfl (by assumption)) rfl ?_) | refine K.GL.skip 24 rfl rfl rfl rfl ?_ | refine K.GL.skipU 24 rfl rfl rfl rfl ?_
        first | (refine K.GL.want 24 rfl rfl rfl ?_; first | refine K.GL.det (K.e_eq rfl rfl) rfl ?_) | refine K.GL.skip 24 rfl rfl rfl rfl ?_ | refine K.GL.skipU 24 rfl rfl rfl rfl ?_
        first | refine K.GL.det (K.e_pick_t rfl rfl) rfl ?_ | refine K.GL.det (K.e_pick_f rfl rfl) rfl ?_
        refine K.GL.det (K.e_move rfl) rfl ?_
        first | refine K.GL.splitB 31 rfl (fun h4 => ?_) (fun h4 => ?_) | skip
        all_goals first | exact absurd h4 (by decide) | replace h4 := of_decide_eq_true h4 | replace h4 := of_decide_eq_false h4 | skip
        all_goals
          first | (refine K.GL.want 31 rfl rfl rfl ?_; first | refine K.GL.det (K.e_fieldAddr fo33_4 rfl) rfl ?_) | refine K.GL.skip 31 rfl rfl rfl rfl ?_ | refine K.GL.skipU 31 rfl rfl rfl rfl ?_
          first | (refine K.GL.want 31 rfl rfl rfl ?_; first | refine K.GL.det (K.e_load Try.isAgg3 rfl rfl) rfl ?_ | refine K.GL.det (K.e_load0 Try.isAgg3 rfl (by assumption)) rfl ?_) | refine K.GL.skip 31 rfl rfl rfl rfl ?_ | refine K.GL.skipU 31 rfl rfl rfl rfl ?_
          first | (refine K.GL.want 31 rfl rfl rfl ?_; first | refine K.GL.det (K.e_fieldAddr fo33_4 rfl) rfl ?_) | refine K.GL.skip 31 rfl rfl rfl rfl ?_ | refine K.GL.skipU 31 rfl rfl rfl rfl ?_
          first | (refine K.GL.want 31 rfl rfl rfl ?_; first | refine K.GL.det (K.e_load Try.isAgg3 rfl rfl) rfl ?_ | refine K.GL.det (K.e_load0 Try.isAgg3 rfl (by assumption)) rfl ?_) | refine K.GL.skip 31 rfl rfl rfl rfl ?_ | refine K.GL.skipU 31 rfl rfl rfl rfl ?_
          first | (refine K.GL.want 31 rfl rfl rfl ?_; first | refine K.GL.det (K.e_eq rfl rfl) rfl ?_) | refine K.GL.skip 31 rfl rfl rfl rfl ?_ | refine K.GL.skipU 31 rfl rfl rfl rfl ?_
          first | refine K.GL.det (K.e_pick_t rfl rfl) rfl ?_ | refine K.GL.det (K.e_pick_f rfl rfl) rfl ?_
          refine K.GL.det (K.e_assign rfl) rfl ?_
          refine K.GL.nil ?_
          refine K.GQ.go ?_
          refine K.GC.ret ?_
          refine K.GQ.ret1 Try.results18 rfl (fun w hT => ?_)
          first
            | exact ⟨ret_no (fun e => by have := ex_iff.1 e; simp_all), hT.nil⟩
            | exact ⟨ret_iff (by rw [ex_iff]; simp_all), hT.nil⟩
theorem sl53 : K.slOf Try.prog 53 = some (33, 13) := by kernel_rfl
/- turntable/turntableref14.Same -/
set_option maxHeartbeats 1000000 in
set_option maxRecDepth 100000 in
theorem entries_con {a b : Option Addr} {n m ca cb : Nat} {l k : List OE} {w : World} (hA : Sl w 13 a n (l.flatMap OE.enc)) (hB : Sl w 13 b m (k.flatMap OE.enc)) (hsA : ∀ o ∈ l, Sl w 1 o.a o.x.sv.length (strs o.x.sv)) (hsB : ∀ o ∈ k, Sl w 1 o.a o.x.sv.length (strs o.x.sv)) (hs9 : ∀ o ∈ l, o.x.sv.length ≤ 9000) (hn : n < 9223372036854775807) :
    Calls Try.prog 31 #[.slice a n ca, .slice b m cb] w fun e w' => e = .returned (.bool (decide (l.map OE.x = k.map OE.x))) ∧ Tr w [] w' [] := by
  have hla : l.length = n := hA.count (by omega) encO_len
  have hlb : k.length = m := hB.count (by omega) encO_len
  refine K.enter0 (args := [_, _]) Try.func31 rfl Try.ntmps31 rfl ?_
  refine K.GC.seq ?_
  refine K.GC.region ?_
  refine K.GL.det (K.e_assign rfl) rfl ?_
  refine K.GL.nil ?_
  refine K.GQ.go ?_
  refine K.GC.seq ?_
  refine K.GC.seq ?_
  refine K.GC.region ?_
  refine K.GL.det (K.e_move rfl) rfl ?_
  refine K.GL.det (K.e_len Try.underlying53 rfl) rfl ?_
  refine K.GL.det (K.e_move rfl) rfl ?_
  refine K.GL.det (K.e_len Try.underlying53 rfl) rfl ?_
  first | refine K.GL.det ((K.e_ne rfl rfl).yes (by first | omega | assumption | decide +kernel)) rfl ?_ | refine K.GL.det ((K.e_ne rfl rfl).no (by first | omega | assumption | decide +kernel)) rfl ?_ | refine K.GL.det (K.e_ne rfl rfl) rfl ?_
  refine K.GL.nil ?_
  refine K.GQ.go ?_
  refine K.GC.condB rfl (fun h1 => ?_) (fun h1 => ?_)
  · first
    | exact absurd h1 (by decide)
    | try replace h1 := of_decide_eq_true h1
      refine K.GC.seq ?_
      refine K.GC.region ?_
      refine K.GL.det (K.e_assign rfl) rfl ?_
      refine K.GL.nil ?_
      refine K.GQ.go ?_
      refine K.GC.ret ?_
      refine K.GQ.then_ret ?_
      refine K.GQ.ret1 Try.results31 rfl (fun w hT => ?_)
      first
        | exact ⟨ret_no (fun he => by have h0 := congrArg List.length he; rw [List.length_map, List.length_map] at h0; omega), hT⟩
        | exact ⟨ret_no (ne_map hp hq (by assumption)), hT⟩
        | (obtain rfl : x = l.length := by omega
           exact ⟨ret_yes (by have h2 := hI.2; rw [List.take_of_length_le (by simp), List.take_of_length_le (by simp; omega)] at h2; exact h2), hT⟩)
  · first
    | exact absurd h1 (by decide)
    | try replace h1 := of_decide_eq_false h1
      refine K.GC.skip ?_
      refine K.GQ.go ?_
      refine K.GC.seq ?_
      refine K.GC.seq ?_
      refine K.GC.region ?_
      refine K.GL.det (K.e_assign rfl) rfl ?_
      refine K.GL.nil ?_
      refine K.GQ.go ?_
      refine K.GC.block ?_
      refine K.GC.loopk (α := Nat) [0, 1] rfl (fun x => [(5, .int .i64 (x : Int))]) (fun x => []) (fun x => x ≤ l.length ∧ (l.map OE.x).take x = (k.map OE.x).take x) (fun x => (l.length - x)) 0 ⟨by omega, rfl⟩ (by (repeat refine ⟨rfl, ?_⟩); exact trivial) (K.Sub.refl _) (fun x hI => ?_)
      refine K.GC.seq ?_
      refine K.GC.seq ?_
      refine K.GC.region ?_
      refine K.GL.det (K.e_move rfl) rfl ?_
      refine K.GL.det (K.e_move rfl) rfl ?_
      refine K.GL.det (K.e_len Try.underlying53 rfl) rfl ?_
      first | refine K.GL.det ((K.e_lt rfl rfl).yes (by first | omega | assumption | decide +kernel)) rfl ?_ | refine K.GL.det ((K.e_lt rfl rfl).no (by first | omega | assumption | decide +kernel)) rfl ?_ | refine K.GL.det (K.e_lt rfl rfl) rfl ?_
      refine K.GL.nil ?_
      refine K.GQ.go ?_
      refine K.GC.condB rfl (fun h2 => ?_) (fun h2 => ?_)
      · first
        | exact absurd h2 (by decide)
        | try replace h2 := of_decide_eq_true h2
          refine K.GC.skip ?_
          refine K.GQ.go ?_
          refine K.GC.seq ?_
          refine K.GC.block ?_
          refine K.GC.seq ?_
          obtain ⟨p, hp⟩ : ∃ p, l[x]? = some p := get_ex (by omega)
          obtain ⟨q, hq⟩ : ∃ q, k[x]? = some q := get_ex (by omega)
          refine K.GC.drawn 10 [[], [], [0, 1], [0, 1, 2], [], [], [4, 5], [4, 5, 6], [0, 1, 2, 3, 4, 5, 6, 7], [0, 1, 2, 3, 4, 5, 6, 7, 8]] [[], [], [0, 1], [2], [], [], [4, 5], [6], [3, 7], [8]] [0, 1, 4, 5, 11, 12, 13, 14, 15, 16] (by kernel_rfl) (by kernel_rfl) rfl ?_
          refine K.DW.det rfl (fun vs => K.e_move rfl) ?_
          refine K.DW.det rfl (fun vs => K.e_move rfl) ?_
          refine K.DW.det rfl (fun vs => K.e_indexAddrS sl53 rfl rfl hA (by omega) (by omega)) ?_
          refine K.DW.det rfl (fun vs => K.e_loadsw (vs := encE p.x p.a p.c) Try.isAgg33 Try.sizeOf33 rfl (fun w hT j v hj => hT.cell0 (hA.item encO_len hp j v hj)) rfl) ?_
          refine K.DW.det rfl (fun vs => K.e_move rfl) ?_
          refine K.DW.det rfl (fun vs => K.e_move rfl) ?_
          refine K.DW.det rfl (fun vs => K.e_indexAddrS sl53 rfl rfl hB (by omega) (by omega)) ?_
          refine K.DW.det rfl (fun vs => K.e_loadsw (vs := encE q.x q.a q.c) Try.isAgg33 Try.sizeOf33 rfl (fun w hT j v hj => hT.cell0 (hB.item encO_len hq j v hj)) rfl) ?_
          refine K.DW.det rfl (fun vs => K.e_call1 Try.call18 rfl (fun w hT => same_con ((hsA p (List.mem_of_getElem? hp)).stay hT (fun r hr => by cases hr)) ((hsB q (List.mem_of_getElem? hq)).stay hT (fun r hr => by cases hr)) (by have := hs9 p (List.mem_of_getElem? hp); omega))) ?_
          refine K.DW.det rfl (fun vs => K.e_notp rfl) ?_
          refine K.DW.fin0 rfl (fun vs => ?_)
          refine K.GL.keep [0, 1, 4, 5, 11, 12, 13, 14, 15, 16, 17, 18, 19, 20, 21, 22, 23, 24, 25, 26] rfl ?_
          clear vs
          refine K.GL.nil ?_
          refine K.GQ.go ?_
          refine K.GC.condB rfl (fun h3 => ?_) (fun h3 => ?_)
          · first
            | exact absurd h3 (by decide)
            | try replace h3 := of_decide_eq_true h3
              refine K.GC.seq ?_
              refine K.GC.region ?_
              refine K.GL.det (K.e_assign rfl) rfl ?_
              refine K.GL.nil ?_
              refine K.GQ.go ?_
              refine K.GC.ret ?_
              refine K.GQ.block_ret ?_
              refine K.GQ.then_ret ?_
              refine K.GQ.then_ret ?_
              refine K.GQ.block_ret ?_
              refine K.GQ.then_ret ?_
              refine K.GQ.ret1 Try.results31 rfl (fun w hT => ?_)
              first
                | exact ⟨ret_no (fun he => by have h0 := congrArg List.length he; rw [List.length_map, List.length_map] at h0; omega), hT⟩
                | exact ⟨ret_no (ne_map hp hq (by assumption)), hT⟩
                | (obtain rfl : x = l.length := by omega
                   exact ⟨ret_yes (by have h2 := hI.2; rw [List.take_of_length_le (by simp), List.take_of_length_le (by simp; omega)] at h2; exact h2), hT⟩)
          · first
            | exact absurd h3 (by decide)
            | try replace h3 := of_decide_eq_false h3
              refine K.GC.skip ?_
              refine K.GQ.block_normal ?_
              refine K.GQ.go ?_
              refine K.GC.region ?_
              refine K.GL.det (K.e_move rfl) rfl ?_
              first | refine K.GL.det (K.e_add rfl rfl ⟨by omega, by omega⟩) rfl ?_ | refine K.GL.det (K.e_addw rfl rfl) rfl ?_
              refine K.GL.det (K.e_assign rfl) rfl ?_
              refine K.GL.nil ?_
              exact K.GQ.round (x + 1) ⟨by omega, same_map hI.2 hp hq (by first | assumption | (apply Classical.byContradiction; assumption))⟩ (by omega) (by (repeat refine ⟨rfl, ?_⟩); exact trivial) K.sub
      · first
        | exact absurd h2 (by decide)
        | try replace h2 := of_decide_eq_false h2
          refine K.GC.exit ?_
          refine K.GQ.then_exit ?_
          refine K.GQ.then_exit ?_
          refine K.GQ.block_hit ?_
          refine K.GQ.go ?_
          refine K.GC.seq ?_
          refine K.GC.region ?_
          refine K.GL.det (K.e_assign rfl) rfl ?_
          refine K.GL.nil ?_
          refine K.GQ.go ?_
          refine K.GC.ret ?_
          refine K.GQ.ret1 Try.results31 rfl (fun w hT => ?_)
          first
            | exact ⟨ret_no (fun he => by have h0 := congrArg List.length he; rw [List.length_map, List.length_map] at h0; omega), hT⟩
            | exact ⟨ret_no (ne_map hp hq (by assumption)), hT⟩
            | (obtain rfl : x = l.length := by omega
               exact ⟨ret_yes (by have h2 := hI.2; rw [List.take_of_length_le (by simp), List.take_of_length_le (by simp; omega)] at h2; exact h2), hT⟩)
end Go.Proofs.Ytcphpcjcbmennaa
