/- What the functions give by which all are put in order. -/
import Derived.Test.YtcphpcjcbmennaaEntB
namespace Go.Proofs.Ytcphpcjcbmennaa
open Go Go.K
set_option linter.unusedVariables false
set_option linter.unusedSimpArgs false
attribute [local irreducible] Calls Ev GL GC GQ GR Code.wp
def cmpI (a b : Int) : Int := if a < b then -1 else if b < a then 1 else 0
def lexC (a1 a2 b1 b2 : Int) : Int := if cmpI a1 b1 ≠ 0 then cmpI a1 b1 else cmpI a2 b2
theorem cmpI_lt {a b : Int} (h : a < b) : cmpI a b = -1 := by unfold cmpI; rw [if_pos h]
theorem cmpI_gt {a b : Int} (h : b < a) : cmpI a b = 1 := by unfold cmpI; rw [if_neg (by omega), if_pos h]
theorem cmpI_eq {a b : Int} (h1 : ¬ a < b) (h2 : ¬ b < a) : cmpI a b = 0 := by unfold cmpI; rw [if_neg h1, if_neg h2]
theorem lexC_neg {a1 a2 b1 b2 : Int} : lexC a1 a2 b1 b2 < 0 ↔ a1 < b1 ∨ (a1 = b1 ∧ a2 < b2) := by
  unfold lexC cmpI
  repeat' split
  all_goals omega
theorem lexC_1 {a1 a2 b1 b2 : Int} (h : cmpI a1 b1 ≠ 0) : lexC a1 a2 b1 b2 = cmpI a1 b1 := by unfold lexC; rw [if_pos h]
theorem lexC_2 {a1 a2 b1 b2 : Int} (h : cmpI a1 b1 = 0) : lexC a1 a2 b1 b2 = cmpI a2 b2 := by unfold lexC; rw [if_neg (by omega)]
theorem lexC_z {a1 a2 b1 b2 : Int} (h : cmpI a1 b1 = 0) (h2 : cmpI a2 b2 = 0) : lexC a1 a2 b1 b2 = 0 := by rw [lexC_2 h, h2]
abbrev Cells (w : World) (b : Nat) (x : EX) (a : Option Addr) (c : Nat) : Prop := ∀ j v, (encE x a c)[j]? = some v → w.cell? ⟨b, 0 + j, none⟩ = some v
abbrev ptrE (b : Nat) : Value := .pointer (some ⟨b, 0, none⟩)
/-- What a function of keys gives. -/
def KeyOk (gk : Nat) (k1 k2 : EX → Int) : Prop := ∀ (w : World) (b : Nat) (x : EX) (a : Option Addr) (c : Nat), Cells w b x a c → Calls Try.prog gk #[ptrE b] w fun e w' => ∃ b', e = .returned (.slice (some ⟨b', 0, none⟩) 2 2) ∧ Tr w [] w' [cl b' 2 [.int .i64 (k1 x), .int .i64 (k2 x)]]

/- cmp.isNaN[int64] -/
set_option maxHeartbeats 1000000 in
set_option maxRecDepth 100000 in
theorem nan_con (a : Int) {w : World} :
    Calls Try.prog 68 #[.int .i64 a] w fun e w' => e = .returned (.bool false) ∧ Tr w [] w' [] := by
  refine K.enter0 (args := [_]) Try.func68 rfl Try.ntmps68 rfl ?_
  refine K.GC.seq ?_
  refine K.GC.region ?_
  refine K.GL.det (K.e_assign rfl) rfl ?_
  refine K.GL.nil ?_
  refine K.GQ.go ?_
  refine K.GC.seq ?_
  refine K.GC.region ?_
  refine K.GL.det (K.e_move rfl) rfl ?_
  refine K.GL.det (K.e_move rfl) rfl ?_
  refine K.GL.det ((K.e_ne rfl rfl).no (not_not_intro rfl)) rfl ?_
  refine K.GL.det (K.e_assign rfl) rfl ?_
  refine K.GL.nil ?_
  refine K.GQ.go ?_
  refine K.GC.ret ?_
  refine K.GQ.ret1 Try.results68 rfl (fun w hT => ?_)
  exact ⟨rfl, hT.nil⟩
/- cmp.Compare[int64] -/
set_option maxHeartbeats 1000000 in
set_option maxRecDepth 100000 in
theorem cmp1_con (a b : Int) {w : World} :
    Calls Try.prog 57 #[.int .i64 a, .int .i64 b] w fun e w' => e = .returned (.int .i64 (cmpI a b)) ∧ Tr w [] w' [] := by
  refine K.enter0 (args := [_, _]) Try.func57 rfl Try.ntmps57 rfl ?_
  refine K.GC.seq ?_
  refine K.GC.region ?_
  refine K.GL.det (K.e_assign rfl) rfl ?_
  refine K.GL.nil ?_
  refine K.GQ.go ?_
  refine K.GC.seq ?_
  refine K.GC.region ?_
  refine K.GL.det (K.e_move rfl) rfl ?_
  refine K.GL.det (K.e_call1 Try.call68 rfl (fun w hT => nan_con _)) rfl ?_
  refine K.GL.det (K.e_assign rfl) rfl ?_
  refine K.GL.nil ?_
  refine K.GQ.go ?_
  refine K.GC.seq ?_
  refine K.GC.region ?_
  refine K.GL.det (K.e_move rfl) rfl ?_
  refine K.GL.det (K.e_call1 Try.call68 rfl (fun w hT => nan_con _)) rfl ?_
  refine K.GL.det (K.e_assign rfl) rfl ?_
  refine K.GL.nil ?_
  refine K.GQ.go ?_
  refine K.GC.seq ?_
  refine K.GC.seq ?_
  refine K.GC.region ?_
  refine K.GL.det (K.e_move rfl) rfl ?_
  refine K.GL.nil ?_
  refine K.GQ.go ?_
  refine K.GC.condB rfl (fun h1 => ?_) (fun h1 => ?_)
  · first
    | exact absurd h1 (by decide)
    | try replace h1 := of_decide_eq_true h1
      refine K.GC.seq ?_
      refine K.GC.seq ?_
      refine K.GC.region ?_
      refine K.GL.det (K.e_move rfl) rfl ?_
      refine K.GL.nil ?_
      refine K.GQ.go ?_
      refine K.GC.condB rfl (fun h2 => ?_) (fun h2 => ?_)
      · first
        | exact absurd h2 (by decide)
        | try replace h2 := of_decide_eq_true h2
          refine K.GC.seq ?_
          refine K.GC.region ?_
          refine K.GL.det (K.e_assign rfl) rfl ?_
          refine K.GL.nil ?_
          refine K.GQ.go ?_
          refine K.GC.ret ?_
          refine K.GQ.then_ret ?_
          refine K.GQ.then_ret ?_
          refine K.GQ.ret1 Try.results57 rfl (fun w hT => ?_)
          first
            | exact ⟨by rw [cmpI_lt (by omega)], hT.nil⟩
            | exact ⟨by rw [cmpI_gt (by omega)], hT.nil⟩
            | exact ⟨by rw [cmpI_eq (by omega) (by omega)], hT.nil⟩
      · first
        | exact absurd h2 (by decide)
        | try replace h2 := of_decide_eq_false h2
          refine K.GC.skip ?_
          refine K.GQ.go ?_
          refine K.GC.seq ?_
          refine K.GC.region ?_
          refine K.GL.det (K.e_assign rfl) rfl ?_
          refine K.GL.nil ?_
          refine K.GQ.go ?_
          refine K.GC.ret ?_
          refine K.GQ.then_ret ?_
          refine K.GQ.ret1 Try.results57 rfl (fun w hT => ?_)
          first
            | exact ⟨by rw [cmpI_lt (by omega)], hT.nil⟩
            | exact ⟨by rw [cmpI_gt (by omega)], hT.nil⟩
            | exact ⟨by rw [cmpI_eq (by omega) (by omega)], hT.nil⟩
  · first
    | exact absurd h1 (by decide)
    | try replace h1 := of_decide_eq_false h1
      refine K.GC.skip ?_
      refine K.GQ.go ?_
      refine K.GC.seq ?_
      refine K.GC.seq ?_
      refine K.GC.region ?_
      refine K.GL.det (K.e_move rfl) rfl ?_
      refine K.GL.nil ?_
      refine K.GQ.go ?_
      refine K.GC.condB rfl (fun h3 => ?_) (fun h3 => ?_)
      · first
        | exact absurd h3 (by decide)
        | try replace h3 := of_decide_eq_true h3
          refine K.GC.seq ?_
          refine K.GC.region ?_
          refine K.GL.det (K.e_assign rfl) rfl ?_
          refine K.GL.nil ?_
          refine K.GQ.go ?_
          refine K.GC.ret ?_
          refine K.GQ.then_ret ?_
          refine K.GQ.ret1 Try.results57 rfl (fun w hT => ?_)
          first
            | exact ⟨by rw [cmpI_lt (by omega)], hT.nil⟩
            | exact ⟨by rw [cmpI_gt (by omega)], hT.nil⟩
            | exact ⟨by rw [cmpI_eq (by omega) (by omega)], hT.nil⟩
      · first
        | exact absurd h3 (by decide)
        | try replace h3 := of_decide_eq_false h3
          refine K.GC.skip ?_
          refine K.GQ.go ?_
          refine K.GC.seq ?_
          refine K.GC.seq ?_
          refine K.GC.region ?_
          refine K.GL.det (K.e_move rfl) rfl ?_
          refine K.GL.det (K.e_move rfl) rfl ?_
          first | refine K.GL.det ((K.e_lt rfl rfl).yes (by omega)) rfl ?_ | refine K.GL.det ((K.e_lt rfl rfl).no (by omega)) rfl ?_ | refine K.GL.det (K.e_lt rfl rfl) rfl ?_
          refine K.GL.nil ?_
          refine K.GQ.go ?_
          refine K.GC.condB rfl (fun h4 => ?_) (fun h4 => ?_)
          · first
            | exact absurd h4 (by decide)
            | try replace h4 := of_decide_eq_true h4
              refine K.GC.seq ?_
              refine K.GC.region ?_
              refine K.GL.det (K.e_assign rfl) rfl ?_
              refine K.GL.nil ?_
              refine K.GQ.go ?_
              refine K.GC.ret ?_
              refine K.GQ.then_ret ?_
              refine K.GQ.ret1 Try.results57 rfl (fun w hT => ?_)
              first
                | exact ⟨by rw [cmpI_lt (by omega)], hT.nil⟩
                | exact ⟨by rw [cmpI_gt (by omega)], hT.nil⟩
                | exact ⟨by rw [cmpI_eq (by omega) (by omega)], hT.nil⟩
          · first
            | exact absurd h4 (by decide)
            | try replace h4 := of_decide_eq_false h4
              refine K.GC.skip ?_
              refine K.GQ.go ?_
              refine K.GC.seq ?_
              refine K.GC.seq ?_
              refine K.GC.region ?_
              refine K.GL.det (K.e_move rfl) rfl ?_
              refine K.GL.det (K.e_move rfl) rfl ?_
              first | refine K.GL.det ((K.e_gt rfl rfl).yes (by omega)) rfl ?_ | refine K.GL.det ((K.e_gt rfl rfl).no (by omega)) rfl ?_ | refine K.GL.det (K.e_gt rfl rfl) rfl ?_
              refine K.GL.nil ?_
              refine K.GQ.go ?_
              refine K.GC.condB rfl (fun h5 => ?_) (fun h5 => ?_)
              · first
                | exact absurd h5 (by decide)
                | try replace h5 := of_decide_eq_true h5
                  refine K.GC.seq ?_
                  refine K.GC.region ?_
                  refine K.GL.det (K.e_assign rfl) rfl ?_
                  refine K.GL.nil ?_
                  refine K.GQ.go ?_
                  refine K.GC.ret ?_
                  refine K.GQ.then_ret ?_
                  refine K.GQ.ret1 Try.results57 rfl (fun w hT => ?_)
                  first
                    | exact ⟨by rw [cmpI_lt (by omega)], hT.nil⟩
                    | exact ⟨by rw [cmpI_gt (by omega)], hT.nil⟩
                    | exact ⟨by rw [cmpI_eq (by omega) (by omega)], hT.nil⟩
              · first
                | exact absurd h5 (by decide)
                | try replace h5 := of_decide_eq_false h5
                  refine K.GC.skip ?_
                  refine K.GQ.go ?_
                  refine K.GC.seq ?_
                  refine K.GC.region ?_
                  refine K.GL.det (K.e_assign rfl) rfl ?_
                  refine K.GL.nil ?_
                  refine K.GQ.go ?_
                  refine K.GC.ret ?_
                  refine K.GQ.ret1 Try.results57 rfl (fun w hT => ?_)
                  first
                    | exact ⟨by rw [cmpI_lt (by omega)], hT.nil⟩
                    | exact ⟨by rw [cmpI_gt (by omega)], hT.nil⟩
                    | exact ⟨by rw [cmpI_eq (by omega) (by omega)], hT.nil⟩
theorem sl50 : K.slOf Try.prog 50 = some (2, 1) := by kernel_rfl
/- slices.Compare[[]int64,int64] -/
set_option maxHeartbeats 4000000 in
set_option maxRecDepth 100000 in
theorem cmp2_con {a b : Option Addr} {c1 c2 : Nat} {p1 p2 q1 q2 : Int} {w : World} (hA : Sl w 1 a 2 [.int .i64 p1, .int .i64 p2]) (hB : Sl w 1 b 2 [.int .i64 q1, .int .i64 q2]) :
    Calls Try.prog 52 #[.slice a 2 c1, .slice b 2 c2] w fun e w' => e = .returned (.int .i64 (lexC p1 p2 q1 q2)) ∧ Tr w [] w' [] := by
  refine K.enter0 (args := [_, _]) Try.func52 rfl Try.ntmps52 rfl ?_
  refine K.GC.seq ?_
  refine K.GC.region ?_
  refine K.GL.det (K.e_assign rfl) rfl ?_
  refine K.GL.nil ?_
  refine K.GQ.go ?_
  refine K.GC.seq ?_
  refine K.GC.seq ?_
  refine K.GC.region ?_
  refine K.GL.det (K.e_move rfl) rfl ?_
  refine K.GL.det (K.e_len Try.underlying50 rfl) rfl ?_
  refine K.GL.det (K.e_move rfl) rfl ?_
  refine K.GL.nil ?_
  refine K.GQ.go ?_
  refine K.GC.block ?_
  refine K.GC.rounds 3 ?_
  refine K.GR.keep [0, 1, 4, 5, 6, 7, 8, 9, 10, 11, 12, 13, 14, 15, 16, 17, 18, 19, 20, 21, 22, 23, 24, 25, 26, 27, 28, 29, 30, 31, 32, 33, 34, 35] rfl ?_
  refine K.GR.succ ?_
  refine K.GC.seq ?_
  refine K.GC.region ?_
  first | refine K.GL.det ((K.e_lt rfl rfl).yes (by omega)) rfl ?_ | refine K.GL.det ((K.e_lt rfl rfl).no (by omega)) rfl ?_ | refine K.GL.det (K.e_lt rfl rfl) rfl ?_
  refine K.GL.nil ?_
  refine K.GQ.go ?_
  refine K.GC.seq ?_
  refine K.GC.condB rfl (fun h1 => ?_) (fun h1 => ?_)
  · first
    | exact absurd h1 (by decide)
    | try replace h1 := of_decide_eq_true h1
      refine K.GC.skip ?_
      refine K.GQ.go ?_
      refine K.GC.seq ?_
      refine K.GC.block ?_
      refine K.GC.seq ?_
      refine K.GC.region ?_
      refine K.GL.det (K.e_move rfl) rfl ?_
      refine K.GL.det (K.e_indexAddrS sl50 rfl rfl hA (by omega) (by omega)) rfl ?_
      first | refine K.GL.det (K.e_load_old Try.isAgg2 rfl (hA.cell 0 _ rfl)) rfl ?_ | refine K.GL.det (K.e_load_old Try.isAgg2 rfl (hA.cell 1 _ rfl)) rfl ?_
      refine K.GL.det (K.e_assign rfl) rfl ?_
      refine K.GL.det (K.e_assign rfl) rfl ?_
      refine K.GL.nil ?_
      refine K.GQ.go ?_
      refine K.GC.seq ?_
      refine K.GC.seq ?_
      refine K.GC.region ?_
      refine K.GL.det (K.e_move rfl) rfl ?_
      refine K.GL.det (K.e_move rfl) rfl ?_
      refine K.GL.det (K.e_len Try.underlying50 rfl) rfl ?_
      first | refine K.GL.det ((K.e_ge rfl rfl).yes (by omega)) rfl ?_ | refine K.GL.det ((K.e_ge rfl rfl).no (by omega)) rfl ?_ | refine K.GL.det (K.e_ge rfl rfl) rfl ?_
      refine K.GL.nil ?_
      refine K.GQ.go ?_
      refine K.GC.condB rfl (fun h2 => ?_) (fun h2 => ?_)
      · first
        | exact absurd h2 (by decide)
        | try replace h2 := of_decide_eq_true h2
          refine K.GC.seq ?_
          refine K.GC.region ?_
          refine K.GL.det (K.e_assign rfl) rfl ?_
          refine K.GL.nil ?_
          refine K.GQ.go ?_
          refine K.GC.ret ?_
          refine K.GQ.then_ret ?_
          refine K.GQ.block_ret ?_
          refine K.GQ.then_ret ?_
          refine K.GQ.then_ret ?_
          refine K.GQ.block_ret ?_
          refine K.GQ.then_ret ?_
          refine K.GQ.ret1 Try.results52 rfl (fun w hT => ?_)
          first
            | exact ⟨by rw [lexC_1 (by omega)], hT.nil⟩
            | exact ⟨by rw [lexC_z (by omega) (by omega)], hT.nil⟩
            | exact ⟨by rw [lexC_2 (by omega)], hT.nil⟩
      · first
        | exact absurd h2 (by decide)
        | try replace h2 := of_decide_eq_false h2
          refine K.GC.skip ?_
          refine K.GQ.go ?_
          refine K.GC.seq ?_
          refine K.GC.region ?_
          refine K.GL.det (K.e_move rfl) rfl ?_
          refine K.GL.det (K.e_move rfl) rfl ?_
          refine K.GL.det (K.e_indexAddrS sl50 rfl rfl hB (by omega) (by omega)) rfl ?_
          first | refine K.GL.det (K.e_load_old Try.isAgg2 rfl (hB.cell 0 _ rfl)) rfl ?_ | refine K.GL.det (K.e_load_old Try.isAgg2 rfl (hB.cell 1 _ rfl)) rfl ?_
          refine K.GL.det (K.e_assign rfl) rfl ?_
          refine K.GL.nil ?_
          refine K.GQ.go ?_
          refine K.GC.seq ?_
          refine K.GC.region ?_
          refine K.GL.det (K.e_move rfl) rfl ?_
          refine K.GL.det (K.e_move rfl) rfl ?_
          refine K.GL.det (K.e_call1 Try.call57 rfl (fun w hT => cmp1_con _ _)) rfl ?_
          refine K.GL.det (K.e_assign rfl) rfl ?_
          refine K.GL.nil ?_
          refine K.GQ.go ?_
          refine K.GC.seq ?_
          refine K.GC.region ?_
          refine K.GL.det (K.e_move rfl) rfl ?_
          first | refine K.GL.det ((K.e_ne rfl rfl).yes (by omega)) rfl ?_ | refine K.GL.det ((K.e_ne rfl rfl).no (by omega)) rfl ?_ | refine K.GL.det (K.e_ne rfl rfl) rfl ?_
          refine K.GL.nil ?_
          refine K.GQ.go ?_
          refine K.GC.condB rfl (fun h3 => ?_) (fun h3 => ?_)
          · first
            | exact absurd h3 (by decide)
            | try replace h3 := of_decide_eq_true h3
              refine K.GC.seq ?_
              refine K.GC.region ?_
              refine K.GL.det (K.e_move rfl) rfl ?_
              refine K.GL.det (K.e_assign rfl) rfl ?_
              refine K.GL.nil ?_
              refine K.GQ.go ?_
              refine K.GC.ret ?_
              refine K.GQ.block_ret ?_
              refine K.GQ.then_ret ?_
              refine K.GQ.then_ret ?_
              refine K.GQ.block_ret ?_
              refine K.GQ.then_ret ?_
              refine K.GQ.ret1 Try.results52 rfl (fun w hT => ?_)
              first
                | exact ⟨by rw [lexC_1 (by omega)], hT.nil⟩
                | exact ⟨by rw [lexC_z (by omega) (by omega)], hT.nil⟩
                | exact ⟨by rw [lexC_2 (by omega)], hT.nil⟩
          · first
            | exact absurd h3 (by decide)
            | try replace h3 := of_decide_eq_false h3
              refine K.GC.skip ?_
              refine K.GQ.block_normal ?_
              refine K.GQ.go ?_
              refine K.GC.region ?_
              first | refine K.GL.det (K.e_add rfl rfl ⟨by omega, by omega⟩) rfl ?_ | refine K.GL.det (K.e_addw rfl rfl) rfl ?_
              refine K.GL.det (K.e_move rfl) rfl ?_
              refine K.GL.nil ?_
              refine K.GQ.again ?_
              refine K.GR.keep [0, 1, 4, 5, 6, 7, 8, 9, 10, 11, 12, 13, 14, 15, 16, 17, 18, 19, 20, 21, 22, 23, 24, 25, 26, 27, 28, 29, 30, 31, 32, 33, 34, 35] rfl ?_
              refine K.GR.succ ?_
              refine K.GC.seq ?_
              refine K.GC.region ?_
              first | refine K.GL.det ((K.e_lt rfl rfl).yes (by omega)) rfl ?_ | refine K.GL.det ((K.e_lt rfl rfl).no (by omega)) rfl ?_ | refine K.GL.det (K.e_lt rfl rfl) rfl ?_
              refine K.GL.nil ?_
              refine K.GQ.go ?_
              refine K.GC.seq ?_
              refine K.GC.condB rfl (fun h4 => ?_) (fun h4 => ?_)
              · first
                | exact absurd h4 (by decide)
                | try replace h4 := of_decide_eq_true h4
                  refine K.GC.skip ?_
                  refine K.GQ.go ?_
                  refine K.GC.seq ?_
                  refine K.GC.block ?_
                  refine K.GC.seq ?_
                  refine K.GC.region ?_
                  refine K.GL.det (K.e_move rfl) rfl ?_
                  refine K.GL.det (K.e_indexAddrS sl50 rfl rfl hA (by omega) (by omega)) rfl ?_
                  first | refine K.GL.det (K.e_load_old Try.isAgg2 rfl (hA.cell 0 _ rfl)) rfl ?_ | refine K.GL.det (K.e_load_old Try.isAgg2 rfl (hA.cell 1 _ rfl)) rfl ?_
                  refine K.GL.det (K.e_assign rfl) rfl ?_
                  refine K.GL.det (K.e_assign rfl) rfl ?_
                  refine K.GL.nil ?_
                  refine K.GQ.go ?_
                  refine K.GC.seq ?_
                  refine K.GC.seq ?_
                  refine K.GC.region ?_
                  refine K.GL.det (K.e_move rfl) rfl ?_
                  refine K.GL.det (K.e_move rfl) rfl ?_
                  refine K.GL.det (K.e_len Try.underlying50 rfl) rfl ?_
                  first | refine K.GL.det ((K.e_ge rfl rfl).yes (by omega)) rfl ?_ | refine K.GL.det ((K.e_ge rfl rfl).no (by omega)) rfl ?_ | refine K.GL.det (K.e_ge rfl rfl) rfl ?_
                  refine K.GL.nil ?_
                  refine K.GQ.go ?_
                  refine K.GC.condB rfl (fun h5 => ?_) (fun h5 => ?_)
                  · first
                    | exact absurd h5 (by decide)
                    | try replace h5 := of_decide_eq_true h5
                      refine K.GC.seq ?_
                      refine K.GC.region ?_
                      refine K.GL.det (K.e_assign rfl) rfl ?_
                      refine K.GL.nil ?_
                      refine K.GQ.go ?_
                      refine K.GC.ret ?_
                      refine K.GQ.then_ret ?_
                      refine K.GQ.block_ret ?_
                      refine K.GQ.then_ret ?_
                      refine K.GQ.then_ret ?_
                      refine K.GQ.block_ret ?_
                      refine K.GQ.then_ret ?_
                      refine K.GQ.ret1 Try.results52 rfl (fun w hT => ?_)
                      first
                        | exact ⟨by rw [lexC_1 (by omega)], hT.nil⟩
                        | exact ⟨by rw [lexC_z (by omega) (by omega)], hT.nil⟩
                        | exact ⟨by rw [lexC_2 (by omega)], hT.nil⟩
                  · first
                    | exact absurd h5 (by decide)
                    | try replace h5 := of_decide_eq_false h5
                      refine K.GC.skip ?_
                      refine K.GQ.go ?_
                      refine K.GC.seq ?_
                      refine K.GC.region ?_
                      refine K.GL.det (K.e_move rfl) rfl ?_
                      refine K.GL.det (K.e_move rfl) rfl ?_
                      refine K.GL.det (K.e_indexAddrS sl50 rfl rfl hB (by omega) (by omega)) rfl ?_
                      first | refine K.GL.det (K.e_load_old Try.isAgg2 rfl (hB.cell 0 _ rfl)) rfl ?_ | refine K.GL.det (K.e_load_old Try.isAgg2 rfl (hB.cell 1 _ rfl)) rfl ?_
                      refine K.GL.det (K.e_assign rfl) rfl ?_
                      refine K.GL.nil ?_
                      refine K.GQ.go ?_
                      refine K.GC.seq ?_
                      refine K.GC.region ?_
                      refine K.GL.det (K.e_move rfl) rfl ?_
                      refine K.GL.det (K.e_move rfl) rfl ?_
                      refine K.GL.det (K.e_call1 Try.call57 rfl (fun w hT => cmp1_con _ _)) rfl ?_
                      refine K.GL.det (K.e_assign rfl) rfl ?_
                      refine K.GL.nil ?_
                      refine K.GQ.go ?_
                      refine K.GC.seq ?_
                      refine K.GC.region ?_
                      refine K.GL.det (K.e_move rfl) rfl ?_
                      first | refine K.GL.det ((K.e_ne rfl rfl).yes (by omega)) rfl ?_ | refine K.GL.det ((K.e_ne rfl rfl).no (by omega)) rfl ?_ | refine K.GL.det (K.e_ne rfl rfl) rfl ?_
                      refine K.GL.nil ?_
                      refine K.GQ.go ?_
                      refine K.GC.condB rfl (fun h6 => ?_) (fun h6 => ?_)
                      · first
                        | exact absurd h6 (by decide)
                        | try replace h6 := of_decide_eq_true h6
                          refine K.GC.seq ?_
                          refine K.GC.region ?_
                          refine K.GL.det (K.e_move rfl) rfl ?_
                          refine K.GL.det (K.e_assign rfl) rfl ?_
                          refine K.GL.nil ?_
                          refine K.GQ.go ?_
                          refine K.GC.ret ?_
                          refine K.GQ.block_ret ?_
                          refine K.GQ.then_ret ?_
                          refine K.GQ.then_ret ?_
                          refine K.GQ.block_ret ?_
                          refine K.GQ.then_ret ?_
                          refine K.GQ.ret1 Try.results52 rfl (fun w hT => ?_)
                          first
                            | exact ⟨by rw [lexC_1 (by omega)], hT.nil⟩
                            | exact ⟨by rw [lexC_z (by omega) (by omega)], hT.nil⟩
                            | exact ⟨by rw [lexC_2 (by omega)], hT.nil⟩
                      · first
                        | exact absurd h6 (by decide)
                        | try replace h6 := of_decide_eq_false h6
                          refine K.GC.skip ?_
                          refine K.GQ.block_normal ?_
                          refine K.GQ.go ?_
                          refine K.GC.region ?_
                          first | refine K.GL.det (K.e_add rfl rfl ⟨by omega, by omega⟩) rfl ?_ | refine K.GL.det (K.e_addw rfl rfl) rfl ?_
                          refine K.GL.det (K.e_move rfl) rfl ?_
                          refine K.GL.nil ?_
                          refine K.GQ.again ?_
                          refine K.GR.keep [0, 1, 4, 5, 6, 7, 8, 9, 10, 11, 12, 13, 14, 15, 16, 17, 18, 19, 20, 21, 22, 23, 24, 25, 26, 27, 28, 29, 30, 31, 32, 33, 34, 35] rfl ?_
                          refine K.GR.succ ?_
                          refine K.GC.seq ?_
                          refine K.GC.region ?_
                          first | refine K.GL.det ((K.e_lt rfl rfl).yes (by omega)) rfl ?_ | refine K.GL.det ((K.e_lt rfl rfl).no (by omega)) rfl ?_ | refine K.GL.det (K.e_lt rfl rfl) rfl ?_
                          refine K.GL.nil ?_
                          refine K.GQ.go ?_
                          refine K.GC.seq ?_
                          refine K.GC.condB rfl (fun h7 => ?_) (fun h7 => ?_)
                          · first
                            | exact absurd h7 (by decide)
                            | try replace h7 := of_decide_eq_true h7
                              refine K.GC.skip ?_
                              refine K.GQ.go ?_
                              refine K.GC.seq ?_
                              refine K.GC.block ?_
                              refine K.GC.seq ?_
                              refine K.GC.region ?_
                              refine K.GL.det (K.e_move rfl) rfl ?_
                              refine K.GL.det (K.e_indexAddrS sl50 rfl rfl hA (by omega) (by omega)) rfl ?_
                              first | refine K.GL.det (K.e_load_old Try.isAgg2 rfl (hA.cell 0 _ rfl)) rfl ?_ | refine K.GL.det (K.e_load_old Try.isAgg2 rfl (hA.cell 1 _ rfl)) rfl ?_
                              refine K.GL.det (K.e_assign rfl) rfl ?_
                              refine K.GL.det (K.e_assign rfl) rfl ?_
                              refine K.GL.nil ?_
                              refine K.GQ.go ?_
                              refine K.GC.seq ?_
                              refine K.GC.seq ?_
                              refine K.GC.region ?_
                              refine K.GL.det (K.e_move rfl) rfl ?_
                              refine K.GL.det (K.e_move rfl) rfl ?_
                              refine K.GL.det (K.e_len Try.underlying50 rfl) rfl ?_
                              first | refine K.GL.det ((K.e_ge rfl rfl).yes (by omega)) rfl ?_ | refine K.GL.det ((K.e_ge rfl rfl).no (by omega)) rfl ?_ | refine K.GL.det (K.e_ge rfl rfl) rfl ?_
                              refine K.GL.nil ?_
                              refine K.GQ.go ?_
                              refine K.GC.condB rfl (fun h8 => ?_) (fun h8 => ?_)
                              · first
                                | exact absurd h8 (by decide)
                                | try replace h8 := of_decide_eq_true h8
                                  refine K.GC.seq ?_
                                  refine K.GC.region ?_
                                  refine K.GL.det (K.e_assign rfl) rfl ?_
                                  refine K.GL.nil ?_
                                  refine K.GQ.go ?_
                                  refine K.GC.ret ?_
                                  refine K.GQ.then_ret ?_
                                  refine K.GQ.block_ret ?_
                                  refine K.GQ.then_ret ?_
                                  refine K.GQ.then_ret ?_
                                  refine K.GQ.block_ret ?_
                                  refine K.GQ.then_ret ?_
                                  refine K.GQ.ret1 Try.results52 rfl (fun w hT => ?_)
                                  first
                                    | exact ⟨by rw [lexC_1 (by omega)], hT.nil⟩
                                    | exact ⟨by rw [lexC_z (by omega) (by omega)], hT.nil⟩
                                    | exact ⟨by rw [lexC_2 (by omega)], hT.nil⟩
                              · first
                                | exact absurd h8 (by decide)
                                | try replace h8 := of_decide_eq_false h8
                                  refine K.GC.skip ?_
                                  refine K.GQ.go ?_
                                  refine K.GC.seq ?_
                                  refine K.GC.region ?_
                                  refine K.GL.det (K.e_move rfl) rfl ?_
                                  refine K.GL.det (K.e_move rfl) rfl ?_
                                  refine K.GL.det (K.e_indexAddrS sl50 rfl rfl hB (by omega) (by omega)) rfl ?_
                                  first | refine K.GL.det (K.e_load_old Try.isAgg2 rfl (hB.cell 0 _ rfl)) rfl ?_ | refine K.GL.det (K.e_load_old Try.isAgg2 rfl (hB.cell 1 _ rfl)) rfl ?_
                                  refine K.GL.det (K.e_assign rfl) rfl ?_
                                  refine K.GL.nil ?_
                                  refine K.GQ.go ?_
                                  refine K.GC.seq ?_
                                  refine K.GC.region ?_
                                  refine K.GL.det (K.e_move rfl) rfl ?_
                                  refine K.GL.det (K.e_move rfl) rfl ?_
                                  refine K.GL.det (K.e_call1 Try.call57 rfl (fun w hT => cmp1_con _ _)) rfl ?_
                                  refine K.GL.det (K.e_assign rfl) rfl ?_
                                  refine K.GL.nil ?_
                                  refine K.GQ.go ?_
                                  refine K.GC.seq ?_
                                  refine K.GC.region ?_
                                  refine K.GL.det (K.e_move rfl) rfl ?_
                                  first | refine K.GL.det ((K.e_ne rfl rfl).yes (by omega)) rfl ?_ | refine K.GL.det ((K.e_ne rfl rfl).no (by omega)) rfl ?_ | refine K.GL.det (K.e_ne rfl rfl) rfl ?_
                                  refine K.GL.nil ?_
                                  refine K.GQ.go ?_
                                  refine K.GC.condB rfl (fun h9 => ?_) (fun h9 => ?_)
                                  · first
                                    | exact absurd h9 (by decide)
                                    | try replace h9 := of_decide_eq_true h9
                                      refine K.GC.seq ?_
                                      refine K.GC.region ?_
                                      refine K.GL.det (K.e_move rfl) rfl ?_
                                      refine K.GL.det (K.e_assign rfl) rfl ?_
                                      refine K.GL.nil ?_
                                      refine K.GQ.go ?_
                                      refine K.GC.ret ?_
                                      refine K.GQ.block_ret ?_
                                      refine K.GQ.then_ret ?_
                                      refine K.GQ.then_ret ?_
                                      refine K.GQ.block_ret ?_
                                      refine K.GQ.then_ret ?_
                                      refine K.GQ.ret1 Try.results52 rfl (fun w hT => ?_)
                                      first
                                        | exact ⟨by rw [lexC_1 (by omega)], hT.nil⟩
                                        | exact ⟨by rw [lexC_z (by omega) (by omega)], hT.nil⟩
                                        | exact ⟨by rw [lexC_2 (by omega)], hT.nil⟩
                                  · first
                                    | exact absurd h9 (by decide)
                                    | try replace h9 := of_decide_eq_false h9
                                      refine K.GC.skip ?_
                                      refine K.GQ.block_normal ?_
                                      refine K.GQ.go ?_
                                      refine K.GC.region ?_
                                      first | refine K.GL.det (K.e_add rfl rfl ⟨by omega, by omega⟩) rfl ?_ | refine K.GL.det (K.e_addw rfl rfl) rfl ?_
                                      refine K.GL.det (K.e_move rfl) rfl ?_
                                      refine K.GL.nil ?_
                                      refine K.GQ.again ?_
                                      exfalso; omega
                          · first
                            | exact absurd h7 (by decide)
                            | try replace h7 := of_decide_eq_false h7
                              refine K.GC.exit ?_
                              refine K.GQ.then_exit ?_
                              refine K.GQ.then_exit ?_
                              refine K.GQ.block_hit ?_
                              refine K.GQ.go ?_
                              refine K.GC.seq ?_
                              refine K.GC.seq ?_
                              refine K.GC.region ?_
                              refine K.GL.det (K.e_move rfl) rfl ?_
                              refine K.GL.det (K.e_len Try.underlying50 rfl) rfl ?_
                              refine K.GL.det (K.e_move rfl) rfl ?_
                              refine K.GL.det (K.e_len Try.underlying50 rfl) rfl ?_
                              first | refine K.GL.det ((K.e_lt rfl rfl).yes (by omega)) rfl ?_ | refine K.GL.det ((K.e_lt rfl rfl).no (by omega)) rfl ?_ | refine K.GL.det (K.e_lt rfl rfl) rfl ?_
                              refine K.GL.nil ?_
                              refine K.GQ.go ?_
                              refine K.GC.condB rfl (fun h10 => ?_) (fun h10 => ?_)
                              · first
                                | exact absurd h10 (by decide)
                                | try replace h10 := of_decide_eq_true h10
                                  refine K.GC.seq ?_
                                  refine K.GC.region ?_
                                  refine K.GL.det (K.e_assign rfl) rfl ?_
                                  refine K.GL.nil ?_
                                  refine K.GQ.go ?_
                                  refine K.GC.ret ?_
                                  refine K.GQ.then_ret ?_
                                  refine K.GQ.ret1 Try.results52 rfl (fun w hT => ?_)
                                  first
                                    | exact ⟨by rw [lexC_1 (by omega)], hT.nil⟩
                                    | exact ⟨by rw [lexC_z (by omega) (by omega)], hT.nil⟩
                                    | exact ⟨by rw [lexC_2 (by omega)], hT.nil⟩
                              · first
                                | exact absurd h10 (by decide)
                                | try replace h10 := of_decide_eq_false h10
                                  refine K.GC.skip ?_
                                  refine K.GQ.go ?_
                                  refine K.GC.seq ?_
                                  refine K.GC.region ?_
                                  refine K.GL.det (K.e_assign rfl) rfl ?_
                                  refine K.GL.nil ?_
                                  refine K.GQ.go ?_
                                  refine K.GC.ret ?_
                                  refine K.GQ.ret1 Try.results52 rfl (fun w hT => ?_)
                                  first
                                    | exact ⟨by rw [lexC_1 (by omega)], hT.nil⟩
                                    | exact ⟨by rw [lexC_z (by omega) (by omega)], hT.nil⟩
                                    | exact ⟨by rw [lexC_2 (by omega)], hT.nil⟩
              · first
                | exact absurd h4 (by decide)
                | try replace h4 := of_decide_eq_false h4
                  refine K.GC.exit ?_
                  refine K.GQ.then_exit ?_
                  refine K.GQ.then_exit ?_
                  refine K.GQ.block_hit ?_
                  refine K.GQ.go ?_
                  refine K.GC.seq ?_
                  refine K.GC.seq ?_
                  refine K.GC.region ?_
                  refine K.GL.det (K.e_move rfl) rfl ?_
                  refine K.GL.det (K.e_len Try.underlying50 rfl) rfl ?_
                  refine K.GL.det (K.e_move rfl) rfl ?_
                  refine K.GL.det (K.e_len Try.underlying50 rfl) rfl ?_
                  first | refine K.GL.det ((K.e_lt rfl rfl).yes (by omega)) rfl ?_ | refine K.GL.det ((K.e_lt rfl rfl).no (by omega)) rfl ?_ | refine K.GL.det (K.e_lt rfl rfl) rfl ?_
                  refine K.GL.nil ?_
                  refine K.GQ.go ?_
                  refine K.GC.condB rfl (fun h11 => ?_) (fun h11 => ?_)
                  · first
                    | exact absurd h11 (by decide)
                    | try replace h11 := of_decide_eq_true h11
                      refine K.GC.seq ?_
                      refine K.GC.region ?_
                      refine K.GL.det (K.e_assign rfl) rfl ?_
                      refine K.GL.nil ?_
                      refine K.GQ.go ?_
                      refine K.GC.ret ?_
                      refine K.GQ.then_ret ?_
                      refine K.GQ.ret1 Try.results52 rfl (fun w hT => ?_)
                      first
                        | exact ⟨by rw [lexC_1 (by omega)], hT.nil⟩
                        | exact ⟨by rw [lexC_z (by omega) (by omega)], hT.nil⟩
                        | exact ⟨by rw [lexC_2 (by omega)], hT.nil⟩
                  · first
                    | exact absurd h11 (by decide)
                    | try replace h11 := of_decide_eq_false h11
                      refine K.GC.skip ?_
                      refine K.GQ.go ?_
                      refine K.GC.seq ?_
                      refine K.GC.region ?_
                      refine K.GL.det (K.e_assign rfl) rfl ?_
                      refine K.GL.nil ?_
                      refine K.GQ.go ?_
                      refine K.GC.ret ?_
                      refine K.GQ.ret1 Try.results52 rfl (fun w hT => ?_)
                      first
                        | exact ⟨by rw [lexC_1 (by omega)], hT.nil⟩
                        | exact ⟨by rw [lexC_z (by omega) (by omega)], hT.nil⟩
                        | exact ⟨by rw [lexC_2 (by omega)], hT.nil⟩
  · first
    | exact absurd h1 (by decide)
    | try replace h1 := of_decide_eq_false h1
      refine K.GC.exit ?_
      refine K.GQ.then_exit ?_
      refine K.GQ.then_exit ?_
      refine K.GQ.block_hit ?_
      refine K.GQ.go ?_
      refine K.GC.seq ?_
      refine K.GC.seq ?_
      refine K.GC.region ?_
      refine K.GL.det (K.e_move rfl) rfl ?_
      refine K.GL.det (K.e_len Try.underlying50 rfl) rfl ?_
      refine K.GL.det (K.e_move rfl) rfl ?_
      refine K.GL.det (K.e_len Try.underlying50 rfl) rfl ?_
      first | refine K.GL.det ((K.e_lt rfl rfl).yes (by omega)) rfl ?_ | refine K.GL.det ((K.e_lt rfl rfl).no (by omega)) rfl ?_ | refine K.GL.det (K.e_lt rfl rfl) rfl ?_
      refine K.GL.nil ?_
      refine K.GQ.go ?_
      refine K.GC.condB rfl (fun h12 => ?_) (fun h12 => ?_)
      · first
        | exact absurd h12 (by decide)
        | try replace h12 := of_decide_eq_true h12
          refine K.GC.seq ?_
          refine K.GC.region ?_
          refine K.GL.det (K.e_assign rfl) rfl ?_
          refine K.GL.nil ?_
          refine K.GQ.go ?_
          refine K.GC.ret ?_
          refine K.GQ.then_ret ?_
          refine K.GQ.ret1 Try.results52 rfl (fun w hT => ?_)
          first
            | exact ⟨by rw [lexC_1 (by omega)], hT.nil⟩
            | exact ⟨by rw [lexC_z (by omega) (by omega)], hT.nil⟩
            | exact ⟨by rw [lexC_2 (by omega)], hT.nil⟩
      · first
        | exact absurd h12 (by decide)
        | try replace h12 := of_decide_eq_false h12
          refine K.GC.skip ?_
          refine K.GQ.go ?_
          refine K.GC.seq ?_
          refine K.GC.region ?_
          refine K.GL.det (K.e_assign rfl) rfl ?_
          refine K.GL.nil ?_
          refine K.GQ.go ?_
          refine K.GC.ret ?_
          refine K.GQ.ret1 Try.results52 rfl (fun w hT => ?_)
          first
            | exact ⟨by rw [lexC_1 (by omega)], hT.nil⟩
            | exact ⟨by rw [lexC_z (by omega) (by omega)], hT.nil⟩
            | exact ⟨by rw [lexC_2 (by omega)], hT.nil⟩
/- (*turntable/entry.Index).all$1 -/
set_option maxHeartbeats 1000000 in
set_option maxRecDepth 100000 in
theorem all1_con (b : Nat) {w : World} :
    Calls Try.prog 53 #[ptrE b] w fun e w' => e = .returned (.bool true) ∧ Tr w [] w' [] := by
  refine K.enter0 (args := [_]) Try.func53 rfl Try.ntmps53 rfl ?_
  refine K.GC.seq ?_
  refine K.GC.region ?_
  refine K.GL.det (K.e_assign rfl) rfl ?_
  refine K.GL.nil ?_
  refine K.GQ.go ?_
  refine K.GC.seq ?_
  refine K.GC.region ?_
  refine K.GL.det (K.e_assign rfl) rfl ?_
  refine K.GL.nil ?_
  refine K.GQ.go ?_
  refine K.GC.ret ?_
  refine K.GQ.ret1 Try.results53 rfl (fun w hT => ?_)
  exact ⟨rfl, hT.nil⟩
/- (*turntable/entry.Index).In$1 -/
set_option maxHeartbeats 1000000 in
set_option maxRecDepth 100000 in
theorem in1_con {x : EX} {b c : Nat} {a : Option Addr} {w : World} (hc : Cells w b x a c) {sb : Nat} {seq : Int} (hs : w.cell? ⟨sb, 0, none⟩ = some (.int .i64 seq)) :
    Calls Try.prog 44 #[ptrE b, ptrE sb] w fun e w' => e = .returned (.bool (decide (x.seq = seq))) ∧ Tr w [] w' [] := by
  refine K.enter0 (args := [_, _]) Try.func44 rfl Try.ntmps44 rfl ?_
  refine K.GC.seq ?_
  refine K.GC.region ?_
  refine K.GL.det (K.e_assign rfl) rfl ?_
  refine K.GL.nil ?_
  refine K.GQ.go ?_
  refine K.GC.seq ?_
  refine K.GC.drawn 7 [[], [0], [0, 1], [0, 1, 2], [], [0, 1, 2, 3, 4], [0, 1, 2, 3, 4, 5]] [[], [0], [1], [2], [], [3, 4], [5]] [0, 1] (by kernel_rfl) (by kernel_rfl) rfl ?_
  refine K.DW.det rfl (fun vs => K.e_move rfl) ?_
  refine K.DW.det rfl (fun vs => K.e_nilCheck rfl) ?_
  refine K.DW.det rfl (fun vs => K.e_fieldAddr fo33_2 rfl) ?_
  refine K.DW.det rfl (fun vs => K.e_load_old Try.isAgg2 rfl (hc 10 _ rfl)) ?_
  refine K.DW.det rfl (fun vs => K.e_load_old Try.isAgg2 rfl hs) ?_
  refine K.DW.det rfl (fun vs => K.e_eq rfl rfl) ?_
  refine K.DW.det rfl (fun vs => K.e_assign rfl) ?_
  refine K.DW.fin0 rfl (fun vs => ?_)
  refine K.GL.keep [3] rfl ?_
  clear vs
  refine K.GL.nil ?_
  refine K.GQ.go ?_
  refine K.GC.ret ?_
  refine K.GQ.ret1 Try.results44 rfl (fun w hT => ?_)
  exact ⟨rfl, hT.nil⟩
theorem fo28_2 : K.fieldOff Try.prog 28 2 = some (2, 2, 1) := by kernel_rfl
theorem mk50 : K.mkOf Try.prog 50 = some (2, [.int .i64 0], 8) := by kernel_rfl
/- (*turntable/entry.Index).all$2 -/
set_option maxHeartbeats 1000000 in
set_option maxRecDepth 100000 in
theorem all2_con {x : EX} {b c : Nat} {a : Option Addr} {w : World} (hc : Cells w b x a c) :
    Calls Try.prog 54 #[ptrE b] w fun e w' => ∃ b', e = .returned (.slice (some ⟨b', 0, none⟩) 2 2) ∧ Tr w [] w' [cl b' 2 [.int .i64 x.tick, .int .i64 x.id]] := by
  refine K.enter0 (args := [_]) Try.func54 rfl Try.ntmps54 rfl ?_
  refine K.GC.seq ?_
  refine K.GC.region ?_
  refine K.GL.det (K.e_assign rfl) rfl ?_
  refine K.GL.nil ?_
  refine K.GQ.go ?_
  refine K.GC.seq ?_
  refine K.GC.drawn 10 [[], [0], [0, 1], [0, 1, 2], [0, 1, 2, 3], [], [5], [5, 6], [5, 6, 7], [5, 6, 7, 8], [0, 1, 2, 3, 4, 5, 6, 7, 8, 9], [0, 1, 2, 3, 4, 5, 6, 7, 8, 9, 10]] [[], [0], [1], [2], [3], [], [5], [6], [7], [8]] [0, 2, 13] (by kernel_rfl) (by kernel_rfl) rfl ?_
  refine K.DW.det rfl (fun vs => K.e_move rfl) ?_
  refine K.DW.det rfl (fun vs => K.e_nilCheck rfl) ?_
  refine K.DW.det rfl (fun vs => K.e_fieldAddr fo33_0 rfl) ?_
  refine K.DW.det rfl (fun vs => K.e_fieldAddr fo28_2 rfl) ?_
  refine K.DW.det rfl (fun vs => K.e_load_old Try.isAgg2 rfl (hc 2 _ rfl)) ?_
  refine K.DW.det rfl (fun vs => K.e_move rfl) ?_
  refine K.DW.det rfl (fun vs => K.e_nilCheck rfl) ?_
  refine K.DW.det rfl (fun vs => K.e_fieldAddr fo33_0 rfl) ?_
  refine K.DW.det rfl (fun vs => K.e_fieldAddr fo28_0 rfl) ?_
  refine K.DW.det rfl (fun vs => K.e_load_old Try.isAgg2 rfl (hc 0 _ rfl)) ?_
  refine K.DW.fin0 rfl (fun vs => ?_)
  refine K.GL.keep [2, 7, 12, 13] rfl ?_
  clear vs
  refine K.GL.buildSlice mk50 rfl rfl rfl (fun b13 => ?_)
  refine K.GL.det (K.e_assign rfl) rfl ?_
  refine K.GL.nil ?_
  refine K.GQ.go ?_
  refine K.GC.ret ?_
  refine K.GQ.ret1 Try.results54 rfl (fun w hT => ?_)
  exact ⟨_, rfl, hT⟩
/- (*turntable/entry.Index).In$2 -/
set_option maxHeartbeats 1000000 in
set_option maxRecDepth 100000 in
theorem in2_con {x : EX} {b c : Nat} {a : Option Addr} {w : World} (hc : Cells w b x a c) :
    Calls Try.prog 45 #[ptrE b] w fun e w' => ∃ b', e = .returned (.slice (some ⟨b', 0, none⟩) 2 2) ∧ Tr w [] w' [cl b' 2 [.int .i64 x.at_, .int .i64 x.id]] := by
  refine K.enter0 (args := [_]) Try.func45 rfl Try.ntmps45 rfl ?_
  refine K.GC.seq ?_
  refine K.GC.region ?_
  refine K.GL.det (K.e_assign rfl) rfl ?_
  refine K.GL.nil ?_
  refine K.GQ.go ?_
  refine K.GC.seq ?_
  refine K.GC.drawn 9 [[], [0], [0, 1], [0, 1, 2], [], [4], [4, 5], [4, 5, 6], [4, 5, 6, 7], [0, 1, 2, 3, 4, 5, 6, 7, 8], [0, 1, 2, 3, 4, 5, 6, 7, 8, 9]] [[], [0], [1], [2], [], [4], [5], [6], [7]] [0, 2, 12] (by kernel_rfl) (by kernel_rfl) rfl ?_
  refine K.DW.det rfl (fun vs => K.e_move rfl) ?_
  refine K.DW.det rfl (fun vs => K.e_nilCheck rfl) ?_
  refine K.DW.det rfl (fun vs => K.e_fieldAddr fo33_3 rfl) ?_
  refine K.DW.det rfl (fun vs => K.e_load_old Try.isAgg3 rfl (hc 11 _ rfl)) ?_
  refine K.DW.det rfl (fun vs => K.e_move rfl) ?_
  refine K.DW.det rfl (fun vs => K.e_nilCheck rfl) ?_
  refine K.DW.det rfl (fun vs => K.e_fieldAddr fo33_0 rfl) ?_
  refine K.DW.det rfl (fun vs => K.e_fieldAddr fo28_0 rfl) ?_
  refine K.DW.det rfl (fun vs => K.e_load_old Try.isAgg2 rfl (hc 0 _ rfl)) ?_
  refine K.DW.fin0 rfl (fun vs => ?_)
  refine K.GL.keep [2, 6, 11, 12] rfl ?_
  clear vs
  refine K.GL.buildSlice mk50 rfl rfl rfl (fun b12 => ?_)
  refine K.GL.det (K.e_assign rfl) rfl ?_
  refine K.GL.nil ?_
  refine K.GQ.go ?_
  refine K.GC.ret ?_
  refine K.GQ.ret1 Try.results45 rfl (fun w hT => ?_)
  exact ⟨_, rfl, hT⟩
/- (*turntable/entry.Index).sorted$1 -/
set_option maxHeartbeats 4000000 in
set_option maxRecDepth 100000 in
theorem cmpf_con {gk kb : Nat} {k1 k2 : EX → Int} (hfk : ∀ args w, (callFunc gk args).run Try.prog w = .ok (.enter gk args) w) (hkey : KeyOk gk k1 k2) {x y : EX} {bx by_ cx cy : Nat} {ax ay : Option Addr} {w : World} (hkb : w.cell? ⟨kb, 0, none⟩ = some (.func (.func gk) #[] #[])) (hx : Cells w bx x ax cx) (hy : Cells w by_ y ay cy) :
    Calls Try.prog 51 #[ptrE bx, ptrE by_, ptrE kb] w fun e w' => e = .returned (.int .i64 (lexC (k1 x) (k2 x) (k1 y) (k2 y))) ∧ Tr w [] w' [] := by
  refine K.enter0 (args := [_, _, _]) Try.func51 rfl Try.ntmps51 rfl ?_
  refine K.GC.seq ?_
  refine K.GC.region ?_
  refine K.GL.det (K.e_assign rfl) rfl ?_
  refine K.GL.nil ?_
  refine K.GQ.go ?_
  refine K.GC.seq ?_
  refine K.GC.drawn 8 [[], [], [0, 1], [], [], [0, 1, 2, 3, 4], [0, 1, 2, 3, 4, 5], [0, 1, 2, 3, 4, 5, 6]] [[], [], [0, 1], [], [], [3, 4], [2, 5], [6]] [0, 1, 2] (by kernel_rfl) (by kernel_rfl) rfl ?_
  refine K.DW.det rfl (fun vs => K.e_load_old Try.isAgg74 rfl hkb) ?_
  refine K.DW.det rfl (fun vs => K.e_move rfl) ?_
  refine K.DW.evO (fun vs hf => K.e_callV (Pv := fun u => ∃ b, u = .slice (some ⟨b, 0, none⟩) 2 2) (R := atPtr fun b => cl b 2 [.int .i64 (k1 x), .int .i64 (k2 x)]) hfk rfl rfl (fun w hT => (hkey w bx x ax cx (fun j v hj => hT.cell0 (hx j v hj))).mono fun e w' ⟨b', h1, h2⟩ => ⟨_, h1, ⟨b', rfl⟩, h2⟩)) ?_
  refine K.DW.det rfl (fun vs => K.e_load_old Try.isAgg74 rfl hkb) ?_
  refine K.DW.det rfl (fun vs => K.e_move rfl) ?_
  refine K.DW.evO (fun vs hf => K.e_callV (Pv := fun u => ∃ b, u = .slice (some ⟨b, 0, none⟩) 2 2) (R := atPtr fun b => cl b 2 [.int .i64 (k1 y), .int .i64 (k2 y)]) hfk rfl rfl (fun w hT => (hkey w by_ y ay cy (fun j v hj => hT.cell0 (hy j v hj))).mono fun e w' ⟨b', h1, h2⟩ => ⟨_, h1, ⟨b', rfl⟩, h2⟩)) ?_
  refine K.DW.detO (fun vs hf => by
        obtain ⟨⟨b1, e1⟩, ⟨b2, e2⟩, _⟩ := hf
        refine K.e_call1 Try.call52 (x := .int .i64 (lexC (k1 x) (k2 x) (k1 y) (k2 y))) (vs := [.slice (some ⟨b1, 0, none⟩) 2 2, .slice (some ⟨b2, 0, none⟩) 2 2]) (by rw [← e1, ← e2]; rfl) (fun w hT => ?_)
        have r1 := hT.ok _ (List.mem_of_getElem? (i := 0) rfl)
        have r2 := hT.ok _ (List.mem_of_getElem? (i := 1) rfl)
        rw [e1] at r1
        rw [e2] at r2
        exact cmp2_con (Sl.of_block r1 rfl) (Sl.of_block r2 rfl)) ?_
  refine K.DW.det rfl (fun vs => K.e_assign rfl) ?_
  refine K.DW.fin (fun vs hf => ?_)
  refine K.GL.keep [5] rfl ?_
  skip
  refine K.GL.nil ?_
  refine K.GQ.go ?_
  refine K.GC.ret ?_
  refine K.GQ.ret1 Try.results51 rfl (fun w hT => ?_)
  exact ⟨rfl, hT.nil⟩
end Go.Proofs.Ytcphpcjcbmennaa
