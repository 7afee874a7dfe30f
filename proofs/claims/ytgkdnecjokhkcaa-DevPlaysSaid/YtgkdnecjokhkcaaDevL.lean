/- What the functions give that the laws of a device are said with. -/
import Derived.Test.YtgkdnecjokhkcaaDevB
namespace Go.Proofs.Ytgkdnecjokhkcaa
open Go Go.K
set_option linter.unusedVariables false
set_option linter.unusedSimpArgs false
attribute [local irreducible] Calls Ev GL GC GQ GR Code.wp

def fillS (c : UInt8) : Nat → Sec
  | 0 => secOf 0
  | x + 1 => setB (fillS c x) x c
theorem fillS_get (c : UInt8) : ∀ (x j : Nat), j < 64 → (fillS c x).1[j]? = some (if j < x then c else 0)
  | 0, j, h => by
    show (List.replicate 64 (0 : UInt8))[j]? = _
    rw [List.getElem?_replicate, if_pos h, if_neg (by omega)]
  | x + 1, j, h => by
    simp only [fillS, setB]
    by_cases hj : j = x
    · subst hj
      rw [List.getElem?_set_self (by rw [(fillS c j).2]; exact h), if_pos (by omega)]
    · rw [List.getElem?_set_ne (by omega), fillS_get c x j h]
      by_cases h2 : j < x
      · rw [if_pos h2, if_pos (by omega)]
      · rw [if_neg h2, if_neg (by omega)]
theorem fillS_all (c : UInt8) : fillS c 64 = secOf c := by
  apply Subtype.ext
  refine List.ext_getElem? fun j => ?_
  by_cases h : j < 64
  · rw [fillS_get c 64 j h, if_pos h]
    show _ = (List.replicate 64 c)[j]?
    rw [List.getElem?_replicate, if_pos h]
  · rw [List.getElem?_eq_none (by rw [(fillS c 64).2]; omega), List.getElem?_eq_none (by rw [(secOf c).2]; omega)]
theorem st_one {y : Sec} {j : Nat} {b : UInt8} (hj : j < 64) : spliceO (sv y) j [.int .u8 (b.toNat : Int)] = some (sv (setB y j b)) := by
  have := st_byte (l := [y]) (i := 0) (y := y) (b := b) (by simp) hj
  simpa using this
theorem same_next {l k : List Nat} {x p q : Nat} (h : l.take x = k.take x) (hp : l[x]? = some p) (hq : k[x]? = some q) (e : (p : Int) = q) : l.take (x + 1) = k.take (x + 1) := by
  have : p = q := by omega
  subst this
  exact take_next h hp hq
theorem idx0 (x : Nat) : 0 + (x : Int).toNat * 1 = x := by omega

theorem mk29 : K.mkOf Try.prog 29 = some (5, [.int .u8 0], 1) := by kernel_rfl
theorem sl29 : K.slOf Try.prog 29 = some (5, 1) := by kernel_rfl
/- turntable/turntablelaw07.full -/
set_option maxHeartbeats 1000000 in
set_option maxRecDepth 100000 in
theorem full_con (c : UInt8) {w : World} :
    Calls Try.prog 23 #[.int .u8 (c.toNat : Int)] w fun e w' => ∃ b, e = .returned (.slice (some ⟨b, 0, none⟩) 64 64) ∧ Tr w [] w' [cl b 5 (sv (secOf c))] := by
  refine K.enter0 (args := [_]) Try.func23 rfl Try.ntmps23 rfl ?_
  refine K.GC.seq ?_
  refine K.GC.region ?_
  refine K.GL.det (K.e_assign rfl) rfl ?_
  refine K.GL.nil ?_
  refine K.GQ.go ?_
  refine K.GC.seq ?_
  refine K.GC.region ?_
  refine K.GL.make mk29 rfl rfl (by omega) (by omega) (by omega) (by omega) rfl (fun b5 => ?_)
  refine K.GL.det (K.e_assign rfl) rfl ?_
  refine K.GL.nil ?_
  refine K.GQ.go ?_
  refine K.GC.seq ?_
  refine K.GC.seq ?_
  refine K.GC.region ?_
  refine K.GL.det (K.e_assign rfl) rfl ?_
  refine K.GL.nil ?_
  refine K.GQ.go ?_
  refine K.GC.block ?_
  refine K.GC.loopk (α := Nat) [0, 2, 3, 14] rfl (fun x => [(4, .int .i64 (x : Int))]) (fun x => [cl b5 5 (sv (fillS c x))]) (fun x => x ≤ 64) (fun x => (64 - x)) 0 (by omega) (by (repeat refine ⟨rfl, ?_⟩); exact trivial) (K.Sub.refl _) (fun x hI => ?_)
  refine K.GC.seq ?_
  refine K.GC.seq ?_
  refine K.GC.region ?_
  refine K.GL.det (K.e_move rfl) rfl ?_
  first | refine K.GL.det ((K.e_lt rfl rfl).yes (by first | omega | assumption | decide +kernel)) rfl ?_ | refine K.GL.det ((K.e_lt rfl rfl).no (by first | omega | assumption | decide +kernel)) rfl ?_ | refine K.GL.det (K.e_lt rfl rfl) rfl ?_
  refine K.GL.nil ?_
  refine K.GQ.go ?_
  refine K.GC.condB rfl (fun h1 => ?_) (fun h1 => ?_)
  · first
    | exact absurd h1 (by decide)
    | try replace h1 := of_decide_eq_true h1
      refine K.GC.skip ?_
      refine K.GQ.go ?_
      refine K.GC.seq ?_
      refine K.GC.block ?_
      refine K.GC.region ?_
      refine K.GL.det (K.e_move rfl) rfl ?_
      refine K.GL.det (K.e_move rfl) rfl ?_
      refine K.GL.det (K.e_move rfl) rfl ?_
      first | refine K.GL.det (K.e_indexAddrS sl29 rfl rfl (by assumption) (by omega) (by omega)) rfl ?_ | refine K.GL.det (K.e_indexAddr sl29 rfl rfl (by omega) (by omega)) rfl ?_
      refine K.GL.storeP (cs' := sv (fillS c (x + 1))) rfl rfl rfl Try.sizeOf5 rfl rfl (by rw [idx0]; exact st_one (by omega)) ?_
      refine K.GL.nil ?_
      refine K.GQ.block_normal ?_
      refine K.GQ.go ?_
      refine K.GC.region ?_
      refine K.GL.det (K.e_move rfl) rfl ?_
      first | refine K.GL.det (K.e_add rfl rfl ⟨by omega, by omega⟩) rfl ?_ | refine K.GL.det (K.e_addw rfl rfl) rfl ?_
      refine K.GL.det (K.e_assign rfl) rfl ?_
      refine K.GL.nil ?_
      exact K.GQ.round (x + 1) (by omega) (by omega) (by (repeat refine ⟨rfl, ?_⟩); exact trivial) K.sub
  · first
    | exact absurd h1 (by decide)
    | try replace h1 := of_decide_eq_false h1
      refine K.GC.exit ?_
      refine K.GQ.then_exit ?_
      refine K.GQ.then_exit ?_
      refine K.GQ.block_hit ?_
      refine K.GQ.go ?_
      refine K.GC.seq ?_
      refine K.GC.region ?_
      refine K.GL.det (K.e_move rfl) rfl ?_
      refine K.GL.det (K.e_assign rfl) rfl ?_
      refine K.GL.nil ?_
      refine K.GQ.go ?_
      refine K.GC.ret ?_
      refine K.GQ.ret1 Try.results23 rfl (fun w hT => ?_)
      obtain rfl : x = 64 := by omega
      rw [fillS_all] at hT
      exact ⟨_, rfl, hT⟩
/- turntable/turntableref07.SameInts -/
set_option maxHeartbeats 1000000 in
set_option maxRecDepth 100000 in
theorem same_con {a b : Option Addr} {n m ca cb : Nat} {l k : List Nat} {w : World} (hA : Sl w 1 a n (ints l)) (hB : Sl w 1 b m (ints k)) (hn : n < 9223372036854775807) :
    Calls Try.prog 24 #[.slice a n ca, .slice b m cb] w fun e w' => e = .returned (.bool (decide (l = k))) ∧ Tr w [] w' [] := by
  have hla : l.length = n := by have := hA.len; simp [ints] at this; omega
  have hlb : k.length = m := by have := hB.len; simp [ints] at this; omega
  refine K.enter0 (args := [_, _]) Try.func24 rfl Try.ntmps24 rfl ?_
  refine K.GC.seq ?_
  refine K.GC.region ?_
  refine K.GL.det (K.e_assign rfl) rfl ?_
  refine K.GL.nil ?_
  refine K.GQ.go ?_
  refine K.GC.seq ?_
  refine K.GC.seq ?_
  refine K.GC.region ?_
  refine K.GL.det (K.e_move rfl) rfl ?_
  refine K.GL.det (K.e_len Try.underlying43 rfl) rfl ?_
  refine K.GL.det (K.e_move rfl) rfl ?_
  refine K.GL.det (K.e_len Try.underlying43 rfl) rfl ?_
  first | refine K.GL.det ((K.e_ne rfl rfl).yes (by first | omega | assumption | decide +kernel)) rfl ?_ | refine K.GL.det ((K.e_ne rfl rfl).no (by first | omega | assumption | decide +kernel)) rfl ?_ | refine K.GL.det (K.e_ne rfl rfl) rfl ?_
  refine K.GL.nil ?_
  refine K.GQ.go ?_
  refine K.GC.condB rfl (fun h1 => ?_) (fun h1 => ?_)
  · first
    | exact absurd h1 (by decide)
    | try replace h1 := of_decide_eq_true h1
      refine K.GC.seq ?_
      refine K.GC.region ?_
      refine K.GL.det (K.e_assign rfl) rfl ?_
      refine K.GL.nil ?_
      refine K.GQ.go ?_
      refine K.GC.ret ?_
      refine K.GQ.then_ret ?_
      refine K.GQ.ret1 Try.results24 rfl (fun w hT => ?_)
      first
        | exact ⟨ret_no (fun he => by have h0 := congrArg List.length he; omega), hT⟩
        | exact ⟨ret_no (fun he => by subst he; rw [hp] at hq; have := Option.some.inj hq; omega), hT⟩
        | (obtain rfl : x = l.length := by omega
           exact ⟨ret_yes (by have h2 := hI.2; rw [List.take_length, List.take_of_length_le (by omega)] at h2; exact h2), hT⟩)
  · first
    | exact absurd h1 (by decide)
    | try replace h1 := of_decide_eq_false h1
      refine K.GC.skip ?_
      refine K.GQ.go ?_
      refine K.GC.seq ?_
      refine K.GC.seq ?_
      refine K.GC.region ?_
      refine K.GL.det (K.e_assign rfl) rfl ?_
      refine K.GL.nil ?_
      refine K.GQ.go ?_
      refine K.GC.block ?_
      refine K.GC.loopk (α := Nat) [0, 1] rfl (fun x => [(5, .int .i64 (x : Int))]) (fun x => []) (fun x => x ≤ l.length ∧ l.take x = k.take x) (fun x => (l.length - x)) 0 ⟨by omega, rfl⟩ (by (repeat refine ⟨rfl, ?_⟩); exact trivial) (K.Sub.refl _) (fun x hI => ?_)
      refine K.GC.seq ?_
      refine K.GC.seq ?_
      refine K.GC.region ?_
      refine K.GL.det (K.e_move rfl) rfl ?_
      refine K.GL.det (K.e_move rfl) rfl ?_
      refine K.GL.det (K.e_len Try.underlying43 rfl) rfl ?_
      first | refine K.GL.det ((K.e_lt rfl rfl).yes (by first | omega | assumption | decide +kernel)) rfl ?_ | refine K.GL.det ((K.e_lt rfl rfl).no (by first | omega | assumption | decide +kernel)) rfl ?_ | refine K.GL.det (K.e_lt rfl rfl) rfl ?_
      refine K.GL.nil ?_
      refine K.GQ.go ?_
      refine K.GC.condB rfl (fun h2 => ?_) (fun h2 => ?_)
      · first
        | exact absurd h2 (by decide)
        | try replace h2 := of_decide_eq_true h2
          refine K.GC.skip ?_
          refine K.GQ.go ?_
          refine K.GC.seq ?_
          refine K.GC.block ?_
          refine K.GC.seq ?_
          obtain ⟨p, hp⟩ : ∃ p, l[x]? = some p := get_ex (by omega)
          obtain ⟨q, hq⟩ : ∃ q, k[x]? = some q := get_ex (by omega)
          refine K.GC.drawn 9 [[], [], [0, 1], [0, 1, 2], [], [], [4, 5], [4, 5, 6], [0, 1, 2, 3, 4, 5, 6, 7]] [[], [], [0, 1], [2], [], [], [4, 5], [6], [3, 7]] [0, 1, 4, 5, 11, 12, 13, 14, 15, 16] (by kernel_rfl) (by kernel_rfl) rfl ?_
          refine K.DW.det rfl (fun vs => K.e_move rfl) ?_
          refine K.DW.det rfl (fun vs => K.e_move rfl) ?_
          refine K.DW.det rfl (fun vs => K.e_indexAddrS sl43 rfl rfl hA (by omega) (by omega)) ?_
          refine K.DW.det rfl (fun vs => K.e_load_old Try.isAgg3 rfl (hA.cell _ _ (get_ints hp (by omega)))) ?_
          refine K.DW.det rfl (fun vs => K.e_move rfl) ?_
          refine K.DW.det rfl (fun vs => K.e_move rfl) ?_
          refine K.DW.det rfl (fun vs => K.e_indexAddrS sl43 rfl rfl hB (by omega) (by omega)) ?_
          refine K.DW.det rfl (fun vs => K.e_load_old Try.isAgg3 rfl (hB.cell _ _ (get_ints hq (by omega)))) ?_
          refine K.DW.det rfl (fun vs => K.e_ne rfl rfl) ?_
          refine K.DW.fin0 rfl (fun vs => ?_)
          refine K.GL.keep [0, 1, 4, 5, 11, 12, 13, 14, 15, 16, 17, 18, 19, 20, 21, 22, 23, 24, 25] rfl ?_
          clear vs
          refine K.GL.nil ?_
          refine K.GQ.go ?_
          refine K.GC.condB rfl (fun h3 => ?_) (fun h3 => ?_)
          · first
            | exact absurd h3 (by decide)
            | try replace h3 := of_decide_eq_true h3
              refine K.GC.seq ?_
              refine K.GC.region ?_
              refine K.GL.det (K.e_assign rfl) rfl ?_
              refine K.GL.nil ?_
              refine K.GQ.go ?_
              refine K.GC.ret ?_
              refine K.GQ.block_ret ?_
              refine K.GQ.then_ret ?_
              refine K.GQ.then_ret ?_
              refine K.GQ.block_ret ?_
              refine K.GQ.then_ret ?_
              refine K.GQ.ret1 Try.results24 rfl (fun w hT => ?_)
              first
                | exact ⟨ret_no (fun he => by have h0 := congrArg List.length he; omega), hT⟩
                | exact ⟨ret_no (fun he => by subst he; rw [hp] at hq; have := Option.some.inj hq; omega), hT⟩
                | (obtain rfl : x = l.length := by omega
                   exact ⟨ret_yes (by have h2 := hI.2; rw [List.take_length, List.take_of_length_le (by omega)] at h2; exact h2), hT⟩)
          · first
            | exact absurd h3 (by decide)
            | try replace h3 := of_decide_eq_false h3
              refine K.GC.skip ?_
              refine K.GQ.block_normal ?_
              refine K.GQ.go ?_
              refine K.GC.region ?_
              refine K.GL.det (K.e_move rfl) rfl ?_
              first | refine K.GL.det (K.e_add rfl rfl ⟨by omega, by omega⟩) rfl ?_ | refine K.GL.det (K.e_addw rfl rfl) rfl ?_
              refine K.GL.det (K.e_assign rfl) rfl ?_
              refine K.GL.nil ?_
              exact K.GQ.round (x + 1) ⟨by omega, same_next hI.2 hp hq (by omega)⟩ (by omega) (by (repeat refine ⟨rfl, ?_⟩); exact trivial) K.sub
      · first
        | exact absurd h2 (by decide)
        | try replace h2 := of_decide_eq_false h2
          refine K.GC.exit ?_
          refine K.GQ.then_exit ?_
          refine K.GQ.then_exit ?_
          refine K.GQ.block_hit ?_
          refine K.GQ.go ?_
          refine K.GC.seq ?_
          refine K.GC.region ?_
          refine K.GL.det (K.e_assign rfl) rfl ?_
          refine K.GL.nil ?_
          refine K.GQ.go ?_
          refine K.GC.ret ?_
          refine K.GQ.ret1 Try.results24 rfl (fun w hT => ?_)
          first
            | exact ⟨ret_no (fun he => by have h0 := congrArg List.length he; omega), hT⟩
            | exact ⟨ret_no (fun he => by subst he; rw [hp] at hq; have := Option.some.inj hq; omega), hT⟩
            | (obtain rfl : x = l.length := by omega
               exact ⟨ret_yes (by have h2 := hI.2; rw [List.take_length, List.take_of_length_le (by omega)] at h2; exact h2), hT⟩)

/-! ### Calls as they are handed in -/
structure OX where
  what : Int
  at_ : Int
  c : UInt8
  ba : Option Addr
  bn : Nat
  bc : Nat
  ka : Option Addr
  kn : Nat
  kc : Nat
  ha : Option Addr
  hn : Nat
  hc : Nat
def encO (x : OX) : List Value := [.int .i64 x.what, .int .i64 x.at_, .int .u8 (x.c.toNat : Int), .slice x.ba x.bn x.bc, .slice x.ka x.kn x.kc, .slice x.ha x.hn x.hc]
theorem encO_len (x : OX) : (encO x).length = 6 := rfl
theorem great_end {p : Prop} [Decidable p] {n : Nat} (h : ¬ p → n ≤ 200) : decide p = false → n ≤ 200 := fun hd => h (of_decide_eq_false hd)

theorem fo33_3 : K.fieldOff Try.prog 33 3 = some (29, 3, 1) := by kernel_rfl
theorem fo33_4 : K.fieldOff Try.prog 33 4 = some (30, 4, 1) := by kernel_rfl
theorem fo33_5 : K.fieldOff Try.prog 33 5 = some (31, 5, 1) := by kernel_rfl
theorem sl22 : K.slOf Try.prog 22 = some (33, 6) := by kernel_rfl
/- turntable/turntablelaw07.Great -/
set_option maxHeartbeats 1000000 in
set_option maxRecDepth 100000 in
theorem great_con {a : Option Addr} {n c : Nat} {l : List OX} {w : World} (hL : Sl w 6 a n (l.flatMap encO)) (hn : n ≤ 9223372036854775807) :
    Calls Try.prog 10 #[.slice a n c] w fun e w' => ∃ gr : Bool, e = .returned (.bool gr) ∧ (gr = false → n ≤ 200) ∧ Tr w [] w' [] := by
  have hln : l.length = n := hL.count (by omega) encO_len
  refine K.enter0 (args := [_]) Try.func10 rfl Try.ntmps10 rfl ?_
  refine K.GC.seq ?_
  refine K.GC.region ?_
  refine K.GL.det (K.e_assign rfl) rfl ?_
  refine K.GL.nil ?_
  refine K.GQ.go ?_
  refine K.GC.seq ?_
  refine K.GC.region ?_
  refine K.GL.det (K.e_assign rfl) rfl ?_
  refine K.GL.nil ?_
  refine K.GQ.go ?_
  refine K.GC.seq ?_
  refine K.GC.seq ?_
  refine K.GC.region ?_
  refine K.GL.det (K.e_assign rfl) rfl ?_
  refine K.GL.nil ?_
  refine K.GQ.go ?_
  refine K.GC.block ?_
  refine K.GC.loopk (α := Nat × Int) [0, 2, 38, 39, 40, 41, 42, 43, 44] rfl (fun x => [(3, .int .i64 x.2), (4, .int .i64 (x.1 : Int))]) (fun x => []) (fun x => x.1 ≤ n) (fun x => (n - x.1)) (0, 0) (by simp only; omega) (by (repeat refine ⟨rfl, ?_⟩); exact trivial) (K.Sub.refl _) (fun x hI => ?_)
  obtain ⟨x, s⟩ := x
  simp only at hI ⊢
  refine K.GC.seq ?_
  refine K.GC.seq ?_
  refine K.GC.region ?_
  refine K.GL.det (K.e_move rfl) rfl ?_
  refine K.GL.det (K.e_move rfl) rfl ?_
  refine K.GL.det (K.e_len Try.underlying22 rfl) rfl ?_
  first | refine K.GL.det ((K.e_lt rfl rfl).yes (by first | omega | assumption | decide +kernel)) rfl ?_ | refine K.GL.det ((K.e_lt rfl rfl).no (by first | omega | assumption | decide +kernel)) rfl ?_ | refine K.GL.det (K.e_lt rfl rfl) rfl ?_
  refine K.GL.det (K.e_move rfl) rfl ?_
  first | refine K.GL.splitB 9 rfl (fun h1 => ?_) (fun h1 => ?_) | skip
  all_goals first | exact absurd h1 (by decide) | replace h1 := of_decide_eq_true h1 | replace h1 := of_decide_eq_false h1 | skip
  all_goals
    first | (refine K.GL.want 9 rfl rfl rfl ?_; first | refine K.GL.det (K.e_move rfl) rfl ?_) | refine K.GL.skip 9 rfl rfl rfl rfl ?_ | refine K.GL.skipU 9 rfl rfl rfl rfl ?_
    first | (refine K.GL.want 9 rfl rfl rfl ?_; first | refine K.GL.det ((K.e_lt rfl rfl).yes (by first | omega | assumption | decide +kernel)) rfl ?_ | refine K.GL.det ((K.e_lt rfl rfl).no (by first | omega | assumption | decide +kernel)) rfl ?_ | refine K.GL.det (K.e_lt rfl rfl) rfl ?_) | refine K.GL.skip 9 rfl rfl rfl rfl ?_ | refine K.GL.skipU 9 rfl rfl rfl rfl ?_
    first | refine K.GL.det (K.e_pick_t rfl rfl) rfl ?_ | refine K.GL.det (K.e_pick_f rfl rfl) rfl ?_
    refine K.GL.nil ?_
    refine K.GQ.go ?_
    refine K.GC.condB rfl (fun h2 => ?_) (fun h2 => ?_)
    · first
      | exact absurd h2 (by decide)
      | try replace h2 := of_decide_eq_true h2
        refine K.GC.skip ?_
        refine K.GQ.go ?_
        refine K.GC.seq ?_
        refine K.GC.block ?_
        obtain ⟨q, hq⟩ : ∃ q, l[x]? = some q := get_ex (by omega)
        refine K.GC.drawn 23 [[], [], [], [1, 2], [1, 2, 3], [1, 2, 3, 4], [1, 2, 3, 4, 5], [], [], [7, 8], [7, 8, 9], [7, 8, 9, 10], [7, 8, 9, 10, 11], [1, 2, 3, 4, 5, 6, 7, 8, 9, 10, 11, 12], [], [], [14, 15], [14, 15, 16], [14, 15, 16, 17], [14, 15, 16, 17, 18], [1, 2, 3, 4, 5, 6, 7, 8, 9, 10, 11, 12, 13, 14, 15, 16, 17, 18, 19], [1, 2, 3, 4, 5, 6, 7, 8, 9, 10, 11, 12, 13, 14, 15, 16, 17, 18, 19, 20], [0, 1, 2, 3, 4, 5, 6, 7, 8, 9, 10, 11, 12, 13, 14, 15, 16, 17, 18, 19, 20, 21], [0, 1, 2, 3, 4, 5, 6, 7, 8, 9, 10, 11, 12, 13, 14, 15, 16, 17, 18, 19, 20, 21, 22]] [[], [], [], [1, 2], [3], [4], [5], [], [], [7, 8], [9], [10], [11], [6, 12], [], [], [14, 15], [16], [17], [18], [13, 19], [20], [0, 21]] [0, 2, 3, 4, 5, 6, 7, 8, 9, 10, 11, 12, 13, 14, 38, 39, 40, 41, 42, 43, 44] (by kernel_rfl) (by kernel_rfl) rfl ?_
        refine K.DW.det rfl (fun vs => K.e_move rfl) ?_
        refine K.DW.det rfl (fun vs => K.e_move rfl) ?_
        refine K.DW.det rfl (fun vs => K.e_move rfl) ?_
        refine K.DW.det rfl (fun vs => K.e_indexAddrS sl22 rfl rfl hL (by omega) (by omega)) ?_
        refine K.DW.det rfl (fun vs => K.e_fieldAddr fo33_3 rfl) ?_
        refine K.DW.det rfl (fun vs => K.e_load_old Try.isAgg29 rfl (by exact (hL.item encO_len hq) 3 _ rfl)) ?_
        refine K.DW.det rfl (fun vs => K.e_len Try.underlying29 rfl) ?_
        refine K.DW.det rfl (fun vs => K.e_move rfl) ?_
        refine K.DW.det rfl (fun vs => K.e_move rfl) ?_
        refine K.DW.det rfl (fun vs => K.e_indexAddrS sl22 rfl rfl hL (by omega) (by omega)) ?_
        refine K.DW.det rfl (fun vs => K.e_fieldAddr fo33_4 rfl) ?_
        refine K.DW.det rfl (fun vs => K.e_load_old Try.isAgg30 rfl (by exact (hL.item encO_len hq) 4 _ rfl)) ?_
        refine K.DW.det rfl (fun vs => K.e_len Try.underlying30 rfl) ?_
        refine K.DW.det rfl (fun vs => K.e_addw rfl rfl) ?_
        refine K.DW.det rfl (fun vs => K.e_move rfl) ?_
        refine K.DW.det rfl (fun vs => K.e_move rfl) ?_
        refine K.DW.det rfl (fun vs => K.e_indexAddrS sl22 rfl rfl hL (by omega) (by omega)) ?_
        refine K.DW.det rfl (fun vs => K.e_fieldAddr fo33_5 rfl) ?_
        refine K.DW.det rfl (fun vs => K.e_load_old Try.isAgg31 rfl (by exact (hL.item encO_len hq) 5 _ rfl)) ?_
        refine K.DW.det rfl (fun vs => K.e_len Try.underlying31 rfl) ?_
        refine K.DW.det rfl (fun vs => K.e_addw rfl rfl) ?_
        refine K.DW.det rfl (fun vs => K.e_min rfl rfl) ?_
        refine K.DW.det rfl (fun vs => K.e_addw rfl rfl) ?_
        refine K.DW.fin0 rfl (fun vs => ?_)
        refine K.GL.keep [0, 2, 3, 4, 5, 6, 7, 8, 9, 10, 11, 12, 13, 14, 15, 16, 17, 18, 19, 20, 21, 22, 23, 24, 25, 26, 27, 28, 29, 30, 31, 32, 33, 34, 35, 36, 37, 38, 39, 40, 41, 42, 43, 44] rfl ?_
        clear vs
        refine K.GL.det (K.e_assign rfl) rfl ?_
        refine K.GL.nil ?_
        refine K.GQ.block_normal ?_
        refine K.GQ.go ?_
        refine K.GC.region ?_
        refine K.GL.det (K.e_move rfl) rfl ?_
        refine K.GL.det (K.e_add rfl rfl ⟨by omega, by omega⟩) rfl ?_
        refine K.GL.det (K.e_assign rfl) rfl ?_
        refine K.GL.nil ?_
        exact K.GQ.round (x + 1, _) (by simp only; omega) (by simp only; omega) (by (repeat refine ⟨rfl, ?_⟩); exact trivial) K.sub
    · first
      | exact absurd h2 (by decide)
      | try replace h2 := of_decide_eq_false h2
        refine K.GC.exit ?_
        refine K.GQ.then_exit ?_
        refine K.GQ.then_exit ?_
        refine K.GQ.block_hit ?_
        refine K.GQ.go ?_
        refine K.GC.seq ?_
        refine K.GC.region ?_
        refine K.GL.det (K.e_move rfl) rfl ?_
        first | refine K.GL.det ((K.e_ge rfl rfl).yes (by first | omega | assumption | decide +kernel)) rfl ?_ | refine K.GL.det ((K.e_ge rfl rfl).no (by first | omega | assumption | decide +kernel)) rfl ?_ | refine K.GL.det (K.e_ge rfl rfl) rfl ?_
        refine K.GL.det (K.e_move rfl) rfl ?_
        first | refine K.GL.splitB 40 rfl (fun h3 => ?_) (fun h3 => ?_) | skip
        all_goals first | exact absurd h3 (by decide) | replace h3 := of_decide_eq_true h3 | replace h3 := of_decide_eq_false h3 | skip
        all_goals
          first | (refine K.GL.want 40 rfl rfl rfl ?_; first | refine K.GL.det (K.e_move rfl) rfl ?_) | refine K.GL.skip 40 rfl rfl rfl rfl ?_ | refine K.GL.skipU 40 rfl rfl rfl rfl ?_
          first | (refine K.GL.want 40 rfl rfl rfl ?_; first | refine K.GL.det (K.e_len Try.underlying22 rfl) rfl ?_) | refine K.GL.skip 40 rfl rfl rfl rfl ?_ | refine K.GL.skipU 40 rfl rfl rfl rfl ?_
          first | (refine K.GL.want 40 rfl rfl rfl ?_; first | refine K.GL.det ((K.e_gt rfl rfl).yes (by first | omega | assumption | decide +kernel)) rfl ?_ | refine K.GL.det ((K.e_gt rfl rfl).no (by first | omega | assumption | decide +kernel)) rfl ?_ | refine K.GL.det (K.e_gt rfl rfl) rfl ?_) | refine K.GL.skip 40 rfl rfl rfl rfl ?_ | refine K.GL.skipU 40 rfl rfl rfl rfl ?_
          first | refine K.GL.det (K.e_pick_t rfl rfl) rfl ?_ | refine K.GL.det (K.e_pick_f rfl rfl) rfl ?_
          refine K.GL.det (K.e_assign rfl) rfl ?_
          refine K.GL.nil ?_
          refine K.GQ.go ?_
          refine K.GC.ret ?_
          refine K.GQ.ret1 Try.results10 rfl (fun w hT => ?_)
          first
            | exact ⟨true, rfl, fun h => absurd h (by decide), hT⟩
            | exact ⟨_, rfl, great_end (fun h => by omega), hT⟩
            | exact ⟨false, rfl, fun _ => by omega, hT⟩

/-! ### The calls of a device, as a caller meets them -/
section
variable {ops : Array Oper} {Q : Exit → Act → World → Prop} {N : Nat} {U : Env} {w0 : World} {L0 L F : List Res} {ty : TypeId} {rest : List Oper} {pos : String} {after : Array Edge} {d : Nat} {g : DG} {xs : List Operand} {tys : Array TypeId} {t : Tmp}
theorem gl_new {n : Int} (hf : ∀ args w, (callFunc 11 args).run Try.prog w = .ok (.enter 11 args) w) (hx : opvs U xs = some [.int .i64 n]) (hn : 1 ≤ n ∧ n ≤ 4096) (hd : Nat.ble (t + 1) N = true)
    (hr : ∀ d g, g.Ok → g.v = DS.new n.toNat → GL Try.prog ops Q rest N ((t, .pointer (some ⟨d, 0, none⟩)) :: U) w0 L0 (DevR d g :: L)) : GL Try.prog ops Q (⟨some t, .call ⟨.value (.func 11), xs.toArray, tys⟩, ty, pos, after, Option.none⟩ :: rest) N U w0 L0 L :=
  GL.callM (α := Nat × DG) (l := []) (Pv := fun x v => v = .pointer (some ⟨x.1, 0, none⟩) ∧ x.2.Ok ∧ x.2.v = DS.new n.toNat) (l' := fun x => [DevR x.1 x.2]) hf hx (Sub.refl _)
    (fun w hT => (new_con n).mono fun e w' h => by
      rcases h with ⟨h1, _⟩ | ⟨d, x, _, h2, h3, h4, h5⟩
      · exact absurd hn h1
      · exact ⟨(d, x), _, h2, ⟨rfl, h3, h4⟩, h5⟩) hd fun x v hv => by obtain ⟨rfl, h1, h2⟩ := hv; exact hr x.1 x.2 h1 h2
theorem gl_new0 {n : Int} (hf : ∀ args w, (callFunc 11 args).run Try.prog w = .ok (.enter 11 args) w) (hx : opvs U xs = some [.int .i64 n]) (hn : ¬ (1 ≤ n ∧ n ≤ 4096)) (hd : Nat.ble (t + 1) N = true)
    (hr : GL Try.prog ops Q rest N ((t, .pointer none) :: U) w0 L0 L) : GL Try.prog ops Q (⟨some t, .call ⟨.value (.func 11), xs.toArray, tys⟩, ty, pos, after, Option.none⟩ :: rest) N U w0 L0 L :=
  GL.callM (α := Unit) (l := []) (Pv := fun _ v => v = .pointer none) (l' := fun _ => []) hf hx (Sub.refl _)
    (fun w hT => (new_con n).mono fun e w' h => by
      rcases h with ⟨_, h2, h3⟩ | ⟨d, x, h1, _⟩
      · exact ⟨(), _, h2, rfl, h3⟩
      · exact absurd h1 hn) hd fun x v hv => by subst hv; exact hr
theorem gl_write {i : Int} {a : Option Addr} {n c : Nat} {bs : Bytes} (hf : ∀ args w, (callFunc 13 args).run Try.prog w = .ok (.enter 13 args) w) (hx : opvs U xs = some [.pointer (some ⟨d, 0, none⟩), .int .i64 i, .slice a n c]) [hp : Pick L d g F] (hk : g.Ok)
    (hS : ∀ w, Tr w0 L0 w L → Sl w 1 a n (bv bs) ∧ (0 < n → ¬ (DevR d g).fp (bk a))) (hd : Nat.ble (t + 1) N = true)
    (hr : ∀ x, x.Ok → x.v = (g.v.write i bs).1 → GL Try.prog ops Q rest N ((t, .int .i64 (g.v.write i bs).2) :: U) w0 L0 (DevR d x :: F)) : GL Try.prog ops Q (⟨some t, .call ⟨.value (.func 13), xs.toArray, tys⟩, ty, pos, after, Option.none⟩ :: rest) N U w0 L0 L :=
  GL.callM (α := DG) (Pv := fun x v => v = .int .i64 (g.v.write i bs).2 ∧ x.Ok ∧ x.v = (g.v.write i bs).1) (l' := fun x => [DevR d x]) hf hx hp.sub
    (fun w hT => (write_con hk i (hT.ok _ hp.mem) (hS w hT).1 (hS w hT).2).mono fun e w' ⟨x, h1, h2, h3, h4⟩ => ⟨x, _, h1, ⟨rfl, h2, h3⟩, h4⟩) hd fun x v hv => by obtain ⟨rfl, h1, h2⟩ := hv; exact hr x h1 h2
theorem gl_flush (hf : ∀ args w, (callFunc 15 args).run Try.prog w = .ok (.enter 15 args) w) (hx : opvs U xs = some [.pointer (some ⟨d, 0, none⟩)]) [hp : Pick L d g F] (hk : g.Ok) (hd : Nat.ble (t + 1) N = true)
    (hr : ∀ x, x.Ok → x.v = g.v.flush.1 → GL Try.prog ops Q rest N ((t, .int .i64 g.v.flush.2) :: U) w0 L0 (DevR d x :: F)) : GL Try.prog ops Q (⟨some t, .call ⟨.value (.func 15), xs.toArray, tys⟩, ty, pos, after, Option.none⟩ :: rest) N U w0 L0 L :=
  GL.callM (α := DG) (Pv := fun x v => v = .int .i64 g.v.flush.2 ∧ x.Ok ∧ x.v = g.v.flush.1) (l' := fun x => [DevR d x]) hf hx hp.sub
    (fun w hT => (flush_con hk (hT.ok _ hp.mem)).mono fun e w' ⟨x, h1, h2, h3, h4⟩ => ⟨x, _, h1, ⟨rfl, h2, h3⟩, h4⟩) hd fun x v hv => by obtain ⟨rfl, h1, h2⟩ := hv; exact hr x h1 h2
theorem gl_cut {i : Int} (hf : ∀ args w, (callFunc 19 args).run Try.prog w = .ok (.enter 19 args) w) (hx : opvs U xs = some [.pointer (some ⟨d, 0, none⟩), .int .i64 i]) [hp : Pick L d g F] (hk : g.Ok) (hi : I64 i) (hd : Nat.ble (t + 1) N = true)
    (hr : ∀ x, x.Ok → x.v = g.v.setCut i → ∀ u, GL Try.prog ops Q rest N ((t, u) :: U) w0 L0 (DevR d x :: F)) : GL Try.prog ops Q (⟨some t, .call ⟨.value (.func 19), xs.toArray, tys⟩, ty, pos, after, Option.none⟩ :: rest) N U w0 L0 L :=
  GL.callM (α := Unit) (Pv := fun _ _ => True) (l' := fun _ => [DevR d (g.setCut i)]) hf hx hp.sub
    (fun w hT => (cut_con i (hT.ok _ hp.mem)).mono fun e w' ⟨h1, h2⟩ => ⟨(), _, h1, trivial, h2⟩) hd fun _ v _ => hr _ (DG.setCut_ok hk hi) (DG.v_setCut g i) v
theorem gl_read {i : Int} (hf : ∀ args w, (callFunc 17 args).run Try.prog w = .ok (.enter 17 args) w) (hx : opvs U xs = some [.pointer (some ⟨d, 0, none⟩), .int .i64 i]) [hp : Pick L d g F] (hk : g.Ok) (hd : Nat.ble (t + 1) N = true)
    (hr : ∀ a c, GL Try.prog ops Q rest N ((t, .tuple [.slice a (g.v.read i).1.length c, .int .i64 (g.v.read i).2].toArray) :: U) w0 L0 (row a c 1 66 (bv (g.v.read i).1) :: L)) : GL Try.prog ops Q (⟨some t, .call ⟨.value (.func 17), xs.toArray, tys⟩, ty, pos, after, Option.none⟩ :: rest) N U w0 L0 L :=
  GL.callM (α := Option Addr × Nat) (l := []) (Pv := fun x v => v = .tuple [.slice x.1 (g.v.read i).1.length x.2, .int .i64 (g.v.read i).2].toArray) (l' := fun x => [row x.1 x.2 1 66 (bv (g.v.read i).1)]) hf hx (Sub.refl _)
    (fun w hT => (read_con hk i (hT.ok _ hp.mem)).mono fun e w' ⟨a, c, h1, h2⟩ => ⟨(a, c), _, h1, rfl, h2⟩) hd fun x v hv => by subst hv; exact hr x.1 x.2
theorem gl_full {c : UInt8} (hf : ∀ args w, (callFunc 23 args).run Try.prog w = .ok (.enter 23 args) w) (hx : opvs U xs = some [.int .u8 (c.toNat : Int)]) (hd : Nat.ble (t + 1) N = true)
    (hr : ∀ b, GL Try.prog ops Q rest N ((t, .slice (some ⟨b, 0, none⟩) 64 64) :: U) w0 L0 (cl b 5 (sv (secOf c)) :: L)) : GL Try.prog ops Q (⟨some t, .call ⟨.value (.func 23), xs.toArray, tys⟩, ty, pos, after, Option.none⟩ :: rest) N U w0 L0 L :=
  GL.callM (α := Nat) (l := []) (Pv := fun b v => v = .slice (some ⟨b, 0, none⟩) 64 64) (l' := fun b => [cl b 5 (sv (secOf c))]) hf hx (Sub.refl _)
    (fun w hT => (full_con c).mono fun e w' ⟨b, h1, h2⟩ => ⟨b, _, h1, rfl, h2⟩) hd fun b v hv => by subst hv; exact hr b
theorem gl_boot {ak ah : Option Addr} {nk ck nh ch : Nat} {ks : List Bool} {hs : List HX} (hf : ∀ args w, (callFunc 21 args).run Try.prog w = .ok (.enter 21 args) w) (hx : opvs U xs = some [.pointer (some ⟨d, 0, none⟩), .slice ak nk ck, .slice ah nh ch]) [hp : Pick L d g F] (hk : g.Ok)
    (hS : ∀ w, Tr w0 L0 w L → (Sl w 1 ak nk (ks.map .bool) ∧ (0 < nk → ¬ (DevR d g).fp (bk ak))) ∧ Sl w 3 ah nh (hs.flatMap encH) ∧ (0 < nh → ¬ (DevR d g).fp (bk ah))) (hb : ∀ h ∈ hs, h.bits < 4294967296) (hnh : nh ≤ 9223372036854775807) (hd : Nat.ble (t + 1) N = true)
    (hr : ∀ x, x.Ok → x.v = g.v.boot ks hs → ∀ u, GL Try.prog ops Q rest N ((t, u) :: U) w0 L0 (DevR d x :: F)) : GL Try.prog ops Q (⟨some t, .call ⟨.value (.func 21), xs.toArray, tys⟩, ty, pos, after, Option.none⟩ :: rest) N U w0 L0 L :=
  GL.callM (α := DG) (Pv := fun x _ => x.Ok ∧ x.v = g.v.boot ks hs) (l' := fun x => [DevR d x]) hf hx hp.sub
    (fun w hT => (boot_con hk (hT.ok _ hp.mem) (hS w hT).1.1 (hS w hT).1.2 (hS w hT).2.1 (hS w hT).2.2 hb hnh).mono fun e w' ⟨x, h1, h2, h3, h4⟩ => ⟨x, _, h1, ⟨h2, h3⟩, h4⟩) hd fun x v hv => hr x hv.1 hv.2 v
end

end Go.Proofs.Ytgkdnecjokhkcaa
