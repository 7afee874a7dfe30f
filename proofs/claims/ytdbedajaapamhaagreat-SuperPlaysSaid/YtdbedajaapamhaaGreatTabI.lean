/- Sums, sectors and numbers by the reference. -/
import Derived.Test.YtdbedajaapamhaaGreatTabH
namespace Go.Proofs.YtdbedajaapamhaaGreat
open Go Go.K
set_option linter.unusedVariables false
set_option linter.unusedSimpArgs false
attribute [local irreducible] Calls Ev GL GC GQ GR Code.wp

theorem low_cases (r : BitVec 32) : r &&& 1#32 = 0#32 ∨ r &&& 1#32 = 1#32 := by
  have h : (r &&& 1#32).toNat ≤ 1 := by rw [BitVec.toNat_and]; exact Nat.and_le_right
  rcases Nat.le_one_iff_eq_zero_or_eq_one.1 h with h | h
  · left; exact BitVec.eq_of_toNat_eq h
  · right; exact BitVec.eq_of_toNat_eq h

theorem S1_def (r : BitVec 32) : S1 r = (r >>> 1) ^^^ (if r &&& 1#32 = 1#32 then poly else 0#32) := by
  unfold S1
  have e1 : BitVec.ofInt 32 1 = 1#32 := rfl
  have e2 : BitVec.ofInt 32 2197175160 = poly := rfl
  rw [e1, e2]
  split
  · rfl
  · rw [BitVec.xor_zero]

theorem S1_xor (a b : BitVec 32) : S1 (a ^^^ b) = S1 a ^^^ S1 b := by
  rw [S1_def, S1_def, S1_def, BitVec.ushiftRight_xor_distrib]
  have h : (a ^^^ b) &&& 1#32 = (a &&& 1#32) ^^^ (b &&& 1#32) := by ext i; simp [Bool.and_xor_distrib_right]
  rw [h]
  rcases low_cases a with ha | ha <;> rcases low_cases b with hb | hb <;> rw [ha, hb] <;> (ext i hi; simp; try (cases (a >>> 1)[i] <;> cases (b >>> 1)[i] <;> cases poly[i] <;> simp_all; done))

theorem Sn_xor : ∀ (n : Nat) (a b : BitVec 32), Sn n (a ^^^ b) = Sn n a ^^^ Sn n b
  | 0, _, _ => rfl
  | n + 1, a, b => by rw [Sn, Sn_xor n, S1_xor]; rfl

theorem S1_even {z : BitVec 32} (h : z &&& 1#32 = 0#32) : S1 z = z >>> 1 := by
  rw [S1_def, h, if_neg (by decide), BitVec.xor_zero]

/-- A bit comes in, a bit falls out. -/

def stepb (r b : BitVec 32) : BitVec 32 := if r &&& 1#32 = b then r >>> 1 else (r >>> 1) ^^^ poly

theorem stepb_eq (r b : BitVec 32) (hb : b = 0#32 ∨ b = 1#32) : stepb r b = S1 (r ^^^ b) := by
  rw [S1_xor, S1_def, S1_def]
  unfold stepb
  rcases low_cases r with hr | hr <;> rcases hb with rfl | rfl <;> rw [hr] <;> (try simp) <;> (try rw [BitVec.xor_assoc, BitVec.xor_self, BitVec.xor_zero])

def bitq (q : BitVec 32) (j : Nat) : BitVec 32 := (q >>> j) &&& 1#32

def steps (q r : BitVec 32) : Nat → BitVec 32
  | 0 => r
  | j + 1 => stepb (steps q r j) (bitq q j)

theorem S1_double {x : BitVec 32} (h : x.toNat < 2147483648) : S1 (x <<< 1) = x := by
  have h1 : (x <<< 1).toNat = 2 * x.toNat := by rw [BitVec.toNat_shiftLeft, Nat.shiftLeft_eq]; omega
  rw [S1_even]
  · apply BitVec.eq_of_toNat_eq
    rw [BitVec.toNat_ushiftRight, h1, Nat.shiftRight_eq_div_pow]; omega
  · apply BitVec.eq_of_toNat_eq
    rw [BitVec.toNat_and, h1]
    show 2 * x.toNat &&& 1 = 0
    rw [Nat.and_one_is_mod]; omega

theorem bits1 : ∀ i < 32, (1#32).getLsbD i = decide (i < 1) := by decide

theorem low_split (z : BitVec 32) : z = (z &&& 1#32) ^^^ ((z >>> 1) <<< 1) := by
  apply BitVec.eq_of_getLsbD_eq
  intro i hi
  have := bits1 i hi
  simp only [BitVec.getLsbD_xor, BitVec.getLsbD_and, this, BitVec.getLsbD_shiftLeft, BitVec.getLsbD_ushiftRight]
  by_cases h4 : i < 1
  · simp [h4]
  · simp [h4, hi]; congr 1; omega

theorem steps_eq (q r : BitVec 32) : ∀ j, steps q r j ^^^ (q >>> j) = Sn j (r ^^^ q)
  | 0 => by simp [steps, Sn]
  | j + 1 => by
    rw [Sn, ← steps_eq q r j]
    have h := low_split (q >>> j)
    have hz : (q >>> j >>> 1).toNat < 2147483648 := by rw [BitVec.toNat_ushiftRight, Nat.shiftRight_eq_div_pow]; omega
    conv => rhs; rw [h]
    rw [← BitVec.xor_assoc, S1_xor, S1_double hz, steps, show bitq q j = (q >>> j) &&& 1#32 from rfl, stepb_eq _ _ (low_cases _), show q >>> j >>> 1 = q >>> (j + 1) from BitVec.eq_of_toNat_eq (by rw [BitVec.toNat_ushiftRight, BitVec.toNat_ushiftRight, BitVec.toNat_ushiftRight, Nat.shiftRight_add])]

theorem bits15 : ∀ i < 32, (15#32).getLsbD i = decide (i < 4) := by decide

theorem N4_eq (r : BitVec 32) : N4 r = Sn 4 r := by
  have e1 : BitVec.ofInt 32 15 = 15#32 := rfl
  have h : r = (r &&& 15#32) ^^^ ((((r >>> 4) <<< 1) <<< 1) <<< 1) <<< 1 := by
    rw [← BitVec.shiftLeft_add, ← BitVec.shiftLeft_add, ← BitVec.shiftLeft_add]
    apply BitVec.eq_of_getLsbD_eq
    intro i hi
    have := bits15 i hi
    simp only [BitVec.getLsbD_xor, BitVec.getLsbD_and, this, BitVec.getLsbD_shiftLeft, BitVec.getLsbD_ushiftRight]
    by_cases h4 : i < 4
    · simp [h4]
    · simp [h4, hi]; congr 1; omega
  unfold N4
  rw [e1]
  conv => rhs; rw [h]
  rw [Sn_xor, BitVec.xor_comm]
  congr 1
  have hz : (r >>> 4).toNat < 268435456 := by rw [BitVec.toNat_ushiftRight, Nat.shiftRight_eq_div_pow]; omega
  have h1 : ((r >>> 4) <<< 1).toNat = 2 * (r >>> 4).toNat := by rw [BitVec.toNat_shiftLeft, Nat.shiftLeft_eq]; omega
  have h2 : (((r >>> 4) <<< 1) <<< 1).toNat = 4 * (r >>> 4).toNat := by rw [BitVec.toNat_shiftLeft, Nat.shiftLeft_eq, h1]; omega
  have h3 : ((((r >>> 4) <<< 1) <<< 1) <<< 1).toNat = 8 * (r >>> 4).toNat := by rw [BitVec.toNat_shiftLeft, Nat.shiftLeft_eq, h2]; omega
  rw [show ∀ x, Sn 4 x = S1 (S1 (S1 (S1 x))) from fun _ => rfl]
  rw [S1_double (by omega), S1_double (by omega), S1_double (by omega), S1_double (by omega)]
  rfl

theorem steps8 (r : BitVec 32) (b : UInt8) : steps (BitVec.ofNat 32 b.toNat) r 8 = crc8 r b := by
  have h := steps_eq (BitVec.ofNat 32 b.toNat) r 8
  have hz : (BitVec.ofNat 32 b.toNat) >>> 8 = 0#32 := by
    apply BitVec.eq_of_toNat_eq
    have := b.toNat_lt
    rw [BitVec.toNat_ushiftRight, BitVec.toNat_ofNat, Nat.shiftRight_eq_div_pow, Nat.mod_eq_of_lt (by omega)]
    show b.toNat / 256 = 0
    omega
  rw [hz, BitVec.xor_zero] at h
  rw [h]
  unfold crc8
  rw [N4_eq, N4_eq]
  rfl

/-- The register after so many bits. -/

def rb (l : Bytes) (r : BitVec 32) : Nat → BitVec 32
  | 0 => r
  | x + 1 => stepb (rb l r x) (bitq (BitVec.ofNat 32 ((l[x / 8]?).getD 0).toNat) (x % 8))

theorem rb_in {l : Bytes} {i : Nat} {q : UInt8} (h : l[i]? = some q) (r : BitVec 32) : ∀ j, j ≤ 8 → rb l r (8 * i + j) = steps (BitVec.ofNat 32 q.toNat) (rb l r (8 * i)) j
  | 0, _ => rfl
  | j + 1, hj => by
    have e1 : (8 * i + j) / 8 = i := by omega
    have e2 : (8 * i + j) % 8 = j := by omega
    rw [← Nat.add_assoc, rb, e1, e2, h, rb_in h r j (by omega)]; rfl

theorem rb_take (l : Bytes) (r : BitVec 32) : ∀ i, i ≤ l.length → rb l r (8 * i) = (l.take i).foldl crc8 r
  | 0, _ => rfl
  | i + 1, hi => by
    obtain ⟨q, hq⟩ : ∃ q, l[i]? = some q := get_ex (by omega)
    rw [Nat.mul_succ, rb_in hq r 8 (by omega), steps8, rb_take l r i (by omega), fold_next hq]

theorem rb_all (l : Bytes) (r : BitVec 32) : rb l r (8 * l.length) = l.foldl crc8 r := by rw [rb_take l r _ (Nat.le_refl _), List.take_length]

section

variable {Q : Program} {U : Env} {w0 : World} {L0 L : List Res} {ty T Y : TypeId} {x y : Operand} {r : BitVec 32}

theorem and1_mod (r : BitVec 32) : (r &&& 1#32).toNat = r.toNat % 2 := by rw [BitVec.toNat_and]; show r.toNat &&& 1 = _; rw [Nat.and_one_is_mod]

theorem e_rem2 (hx : opv U x = some (.int .u32 (r.toNat : Int))) (hy : opv U y = some (.int .u32 2)) : Ev Q U w0 L0 L (.binOp .rem T x y Y) ty (Is (.int .u32 ((r &&& 1#32).toNat : Int))) No :=
  .val fun ρ w dst pos after guard hρ hT => by
    have h5 : ((r.toNat : Int)).tmod 2 = r.toNat % 2 := Int.tmod_eq_emod_of_nonneg (by omega)
    have h6 : IntKind.u32.wrap ((r.toNat : Int) % 2) = ((r &&& 1#32).toNat : Int) := by
      rw [and1_mod, wrap_u32 (by omega) (by omega)]; omega
    simp [execOp, hρ _ _ hx, hρ _ _ hy, go_sem, h5, h6]

theorem e_quo2 (hx : opv U x = some (.int .u32 (r.toNat : Int))) (hy : opv U y = some (.int .u32 2)) : Ev Q U w0 L0 L (.binOp .quo T x y Y) ty (Is (.int .u32 ((r >>> 1).toNat : Int))) No :=
  .val fun ρ w dst pos after guard hρ hT => by
    have hr := r.isLt
    have h5 : ((r.toNat : Int)).tdiv 2 = r.toNat / 2 := Int.tdiv_eq_ediv_of_nonneg (by omega)
    have h6 : IntKind.u32.wrap ((r.toNat : Int) / 2) = ((r >>> 1).toNat : Int) := by
      rw [BitVec.toNat_ushiftRight, Nat.shiftRight_eq_div_pow, wrap_u32 (by omega) (by omega)]; omega
    simp [execOp, hρ _ _ hx, hρ _ _ hy, go_sem, h5, h6]

theorem e_neq32b {s : BitVec 32} (hx : opv U x = some (.int .u32 (r.toNat : Int))) (hy : opv U y = some (.int .u32 (s.toNat : Int))) : Ev Q U w0 L0 L (.binOp .neq T x y Y) ty (Is (.bool (decide (r ≠ s)))) No :=
  (e_ne hx hy).cast_bool (by
    rw [decide_eq_decide]
    constructor
    · intro h e; exact h (by rw [e])
    · intro h e; exact h (BitVec.eq_of_toNat_eq (by omega)))

end

theorem rb_step {l : Bytes} {x : Nat} {q : UInt8} (h : l[x / 8]? = some q) (r : BitVec 32) : rb l r (x + 1) = stepb (rb l r x) (bitq (BitVec.ofNat 32 q.toNat) (x % 8)) := by
  rw [rb, h]; rfl

theorem b8_mod {n : Int} : b8 (n % 256) = b8 n := by
  unfold b8
  congr 1
  omega

/-- The first so many of a number's bytes are put, and this is left. -/

theorem leB_rest (n : Int) : ∀ (k : Nat), n / 256 ^ (k + 1) = n / 256 ^ k / 256
  | k => by rw [Int.pow_succ, Int.ediv_ediv, if_neg (fun h => absurd h.1 (Int.not_lt.2 (Int.pow_nonneg (by decide)))), Int.sub_zero]

/- turntable/turntableref07.SameInts -/
set_option maxHeartbeats 1000000 in
set_option maxRecDepth 100000 in
theorem sint_con {l m : List Int} {a a2 : Option Addr} {c c2 : Nat} {w : World} (hl : l.length < 1000000) (hm : m.length < 1000000) [Old w [] a (I6) (l)] [Old w [] a2 (I6) (m)] :
    Calls Tryz.prog 21 #[.slice a l.length c, .slice a2 m.length c2] w fun e w' => e = .returned (.bool (decide (l = m))) ∧ Tr w [] w' [] := by
  refine K.enter0 (args := [_, _]) Tryz.func21 rfl Tryz.ntmps21 rfl ?_
  refine K.GC.seq ?_
  refine K.GC.region ?_
  refine K.GL.det (K.e_assign rfl) rfl ?_
  refine K.GL.nil ?_
  refine K.GQ.go ?_
  refine K.GC.seq ?_
  refine K.GC.seq ?_
  refine K.GC.region ?_
  refine K.GL.det (K.e_move rfl) rfl ?_
  refine K.GL.det (K.e_len Tryz.underlying51 rfl) rfl ?_
  refine K.GL.det (K.e_move rfl) rfl ?_
  refine K.GL.det (K.e_len Tryz.underlying51 rfl) rfl ?_
  first | refine K.GL.det ((K.e_ne rfl rfl).yes (by first | omega | assumption | decide +kernel)) rfl ?_ | refine K.GL.det ((K.e_ne rfl rfl).no (by first | omega | assumption | decide +kernel)) rfl ?_ | refine K.GL.det (K.e_ne rfl rfl) rfl ?_
  refine K.GL.nil ?_
  refine K.GQ.go ?_
  refine K.GC.condB rfl (fun h1 => ?_) (fun h1 => ?_)
  · first
    | exact absurd h1 (by decide)
    | try replace h1 := of_decide_eq_true h1
      refine K.GC.seq ?_
      refine K.GC.region ?_
      refine K.GL.det (K.e_assign rfl) rfl ?_
      refine K.GL.nil ?_
      refine K.GQ.go ?_
      refine K.GC.ret ?_
      refine K.GQ.then_ret ?_
      refine K.GQ.ret1 Tryz.results21 rfl (fun w hT => ?_)
      by_cases hlm : l = m
      · rw [decide_eq_true hlm]
        first | exact ⟨rfl, hT.nil⟩ | (exfalso; subst hlm; simp_all; done)
      · rw [decide_eq_false hlm]
        first | exact ⟨rfl, hT.nil⟩ | (exfalso; have h := hI.2; rw [List.take_of_length_le (by omega), List.take_of_length_le (by omega)] at h; exact hlm h)
  · first
    | exact absurd h1 (by decide)
    | try replace h1 := of_decide_eq_false h1
      refine K.GC.skip ?_
      refine K.GQ.go ?_
      refine K.GC.seq ?_
      refine K.GC.seq ?_
      refine K.GC.region ?_
      refine K.GL.det (K.e_assign rfl) rfl ?_
      refine K.GL.nil ?_
      refine K.GQ.go ?_
      refine K.GC.block ?_
      refine K.GC.loopk (α := Nat) [0, 1] rfl (fun x => [(5, .int .i64 (x : Int))]) (fun x => []) (fun x => x ≤ l.length ∧ l.take x = m.take x) (fun x => (l.length - x)) 0 ⟨Nat.zero_le _, rfl⟩ (by first | ((repeat refine ⟨rfl, ?_⟩); exact trivial) | (simp only [List.take_zero, List.map_nil, List.flatMap_nil, List.append_nil]; (repeat refine ⟨rfl, ?_⟩); exact trivial)) (by first | exact K.sb | (dsimp only; exact K.sb) | (simp only [List.take_zero, List.map_nil, List.flatMap_nil, List.append_nil]; exact K.sb) | exact K.Sub.refl _) (fun x hI => ?_)
      refine K.GC.seq ?_
      refine K.GC.seq ?_
      refine K.GC.region ?_
      refine K.GL.det (K.e_move rfl) rfl ?_
      refine K.GL.det (K.e_move rfl) rfl ?_
      refine K.GL.det (K.e_len Tryz.underlying51 rfl) rfl ?_
      first | refine K.GL.det ((K.e_lt rfl rfl).yes (by first | omega | assumption | decide +kernel)) rfl ?_ | refine K.GL.det ((K.e_lt rfl rfl).no (by first | omega | assumption | decide +kernel)) rfl ?_ | refine K.GL.det (K.e_lt rfl rfl) rfl ?_
      refine K.GL.nil ?_
      refine K.GQ.go ?_
      refine K.GC.condB rfl (fun h2 => ?_) (fun h2 => ?_)
      · first
        | exact absurd h2 (by decide)
        | try replace h2 := of_decide_eq_true h2
          refine K.GC.skip ?_
          refine K.GQ.go ?_
          refine K.GC.seq ?_
          refine K.GC.block ?_
          refine K.GC.seq ?_
          obtain ⟨ql, hql⟩ : ∃ q, l[x]? = some q := get_ex (by omega)
          obtain ⟨qm, hqm⟩ : ∃ q, m[x]? = some q := get_ex (by omega)
          refine K.D.GC.drawn0 9 [[], [], [0, 1], [0, 1, 2], [], [], [4, 5], [4, 5, 6], [0, 1, 2, 3, 4, 5, 6, 7]] [[], [], [0, 1], [2], [], [], [4, 5], [6], [3, 7]] [[], [], [], [], [], [], [], [], []] [[], [], [], [], [], [], [], [], []] [] [0, 1, 4, 5, 11, 12, 13, 14, 15, 16] (by kernel_rfl) (by kernel_rfl) (by kernel_rfl) rfl ?_
          refine K.D.DW.det (b := []) (u := []) rfl rfl rfl (fun vs hf => K.e_move rfl) ?_
          refine K.D.DW.det (b := []) (u := []) rfl rfl rfl (fun vs hf => K.e_move rfl) ?_
          first | refine K.D.DW.det (b := [0, 1]) (u := []) rfl rfl rfl (fun vs hf => K.e_ixN sl51 rfl rfl rfl rfl (by omega)) ?_ | refine K.D.DW.det (b := [0, 1]) (u := []) rfl rfl rfl (fun vs hf => K.e_ix sl51 rfl rfl rfl rfl (by omega) (by omega)) ?_ | refine K.D.DW.det (b := [0, 1]) (u := []) rfl rfl rfl (fun vs hf => K.e_indexAddrS sl51 rfl rfl (by assumption) (by omega) (by omega)) ?_ | refine K.D.DW.det (b := [0, 1]) (u := []) rfl rfl rfl (fun vs hf => K.e_indexAddr sl51 rfl rfl (by omega) (by omega)) ?_
          first | refine K.D.DW.det (b := [2]) (u := []) rfl rfl rfl (fun vs hf => K.e_ldE Tryz.isAgg3 rfl rfl (by assumption) rfl) ?_ | refine K.D.DW.det (b := [2]) (u := []) rfl rfl rfl (fun vs hf => K.e_ldF Tryz.isAgg3 rfl rfl (by assumption) rfl) ?_ | refine K.D.DW.det (b := [2]) (u := []) rfl rfl rfl (fun vs hf => K.e_load Tryz.isAgg3 rfl rfl) ?_ | refine K.D.DW.det (b := [2]) (u := []) rfl rfl rfl (fun vs hf => K.e_load0 Tryz.isAgg3 rfl (by assumption)) ?_
          refine K.D.DW.det (b := []) (u := []) rfl rfl rfl (fun vs hf => K.e_move rfl) ?_
          refine K.D.DW.det (b := []) (u := []) rfl rfl rfl (fun vs hf => K.e_move rfl) ?_
          first | refine K.D.DW.det (b := [4, 5]) (u := []) rfl rfl rfl (fun vs hf => K.e_ixN sl51 rfl rfl rfl rfl (by omega)) ?_ | refine K.D.DW.det (b := [4, 5]) (u := []) rfl rfl rfl (fun vs hf => K.e_ix sl51 rfl rfl rfl rfl (by omega) (by omega)) ?_ | refine K.D.DW.det (b := [4, 5]) (u := []) rfl rfl rfl (fun vs hf => K.e_indexAddrS sl51 rfl rfl (by assumption) (by omega) (by omega)) ?_ | refine K.D.DW.det (b := [4, 5]) (u := []) rfl rfl rfl (fun vs hf => K.e_indexAddr sl51 rfl rfl (by omega) (by omega)) ?_
          first | refine K.D.DW.det (b := [6]) (u := []) rfl rfl rfl (fun vs hf => K.e_ldE Tryz.isAgg3 rfl rfl (by assumption) rfl) ?_ | refine K.D.DW.det (b := [6]) (u := []) rfl rfl rfl (fun vs hf => K.e_ldF Tryz.isAgg3 rfl rfl (by assumption) rfl) ?_ | refine K.D.DW.det (b := [6]) (u := []) rfl rfl rfl (fun vs hf => K.e_load Tryz.isAgg3 rfl rfl) ?_ | refine K.D.DW.det (b := [6]) (u := []) rfl rfl rfl (fun vs hf => K.e_load0 Tryz.isAgg3 rfl (by assumption)) ?_
          first | refine K.D.DW.det (b := [3, 7]) (u := []) rfl rfl rfl (fun vs hf => (K.e_ne rfl rfl).yes (by first | omega | assumption | decide +kernel)) ?_ | refine K.D.DW.det (b := [3, 7]) (u := []) rfl rfl rfl (fun vs hf => (K.e_ne rfl rfl).no (by first | omega | assumption | decide +kernel)) ?_ | refine K.D.DW.det (b := [3, 7]) (u := []) rfl rfl rfl (fun vs hf => K.e_ne rfl rfl) ?_
          refine K.D.DW.fin (fun vs hf => ?_)
          refine K.GL.keep [0, 1, 4, 5, 11, 12, 13, 14, 15, 16, 17, 18, 19, 20, 21, 22, 23, 24, 25] rfl ?_
          refine K.D.GL.resE (L' := _) rfl ?_
          clear hf
          try clear vs
          refine K.GL.nil ?_
          refine K.GQ.go ?_
          refine K.GC.condB rfl (fun h3 => ?_) (fun h3 => ?_)
          · first
            | exact absurd h3 (by decide)
            | try replace h3 := of_decide_eq_true h3
              refine K.GC.seq ?_
              refine K.GC.region ?_
              refine K.GL.det (K.e_assign rfl) rfl ?_
              refine K.GL.nil ?_
              refine K.GQ.go ?_
              refine K.GC.ret ?_
              refine K.GQ.block_ret ?_
              refine K.GQ.then_ret ?_
              refine K.GQ.then_ret ?_
              refine K.GQ.block_ret ?_
              refine K.GQ.then_ret ?_
              refine K.GQ.ret1 Tryz.results21 rfl (fun w hT => ?_)
              by_cases hlm : l = m
              · rw [decide_eq_true hlm]
                first | exact ⟨rfl, hT.nil⟩ | (exfalso; subst hlm; simp_all; done)
              · rw [decide_eq_false hlm]
                first | exact ⟨rfl, hT.nil⟩ | (exfalso; have h := hI.2; rw [List.take_of_length_le (by omega), List.take_of_length_le (by omega)] at h; exact hlm h)
          · first
            | exact absurd h3 (by decide)
            | try replace h3 := of_decide_eq_false h3
              refine K.GC.skip ?_
              refine K.GQ.block_normal ?_
              refine K.GQ.go ?_
              refine K.GC.region ?_
              refine K.GL.det (K.e_move rfl) rfl ?_
              first | refine K.GL.det (K.e_add rfl rfl ⟨by omega, by omega⟩) rfl ?_ | refine K.GL.det (K.e_addw rfl rfl) rfl ?_
              refine K.GL.det (K.e_assign rfl) rfl ?_
              refine K.GL.nil ?_
              exact K.GQ.round (x + 1) ⟨by omega, by rw [take_one hql, take_one hqm, hI.2]; simp_all⟩ (by omega) (by (repeat refine ⟨rfl, ?_⟩); exact trivial) (by first | exact K.sb | (dsimp only; exact K.sb))
      · first
        | exact absurd h2 (by decide)
        | try replace h2 := of_decide_eq_false h2
          refine K.GC.exit ?_
          refine K.GQ.then_exit ?_
          refine K.GQ.then_exit ?_
          refine K.GQ.block_hit ?_
          refine K.GQ.go ?_
          refine K.GC.seq ?_
          refine K.GC.region ?_
          refine K.GL.det (K.e_assign rfl) rfl ?_
          refine K.GL.nil ?_
          refine K.GQ.go ?_
          refine K.GC.ret ?_
          refine K.GQ.ret1 Tryz.results21 rfl (fun w hT => ?_)
          by_cases hlm : l = m
          · rw [decide_eq_true hlm]
            first | exact ⟨rfl, hT.nil⟩ | (exfalso; subst hlm; simp_all; done)
          · rw [decide_eq_false hlm]
            first | exact ⟨rfl, hT.nil⟩ | (exfalso; have h := hI.2; rw [List.take_of_length_le (by omega), List.take_of_length_le (by omega)] at h; exact hlm h)
section
variable {ops : Array Oper} {Q : Exit → Act → World → Prop} {N : Nat} {U : Env} {w0 : World} {L0 L F : List Res} {ty : TypeId} {rest : List Oper} {pos : String} {after : Array Edge} {xs : List Operand} {tys : Array TypeId} {dT : Tmp}
theorem ev_sint_con {l m : List Int} {a a2 : Option Addr} {c c2 : Nat} (hf : ∀ args w, (callFunc 21 args).run Tryz.prog w = .ok (.enter 21 args) w) (hx : opvs U xs = some [.slice a l.length c, .slice a2 m.length c2]) (hl : l.length < 1000000) (hm : m.length < 1000000) [o0 : RdC w0 L0 [] L a (I6) (l)] [o1 : RdC w0 L0 [] L a2 (I6) (m)] : Ev Tryz.prog U w0 L0 L (.call ⟨.value (.func 21), xs.toArray, tys⟩) ty (Is (.bool (decide (l = m)))) No :=
  K.e_call1 hf hx (fun w hT => by have _o0 := o0.out w hT; have _o1 := o1.out w hT; exact sint_con hl hm)
end
/- turntable/turntableref02.More -/
set_option maxHeartbeats 1000000 in
set_option maxRecDepth 100000 in
theorem rmore_con {s : BitVec 32} {l : Bytes} {a : Option Addr} {c : Nat} {w : World} (hl : l.length < 100000000) [Old w [] a (encB) (l)] :
    Calls Tryz.prog 80 #[.int .u32 ((s).toNat : Int), .slice a l.length c] w fun e w' => e = .returned (.int .u32 ((crcM s l).toNat : Int)) ∧ Tr w [] w' [] := by
  refine K.enter0 (args := [_, _]) Tryz.func80 rfl Tryz.ntmps80 rfl ?_
  refine K.GC.seq ?_
  refine K.GC.region ?_
  refine K.GL.det (K.e_assign rfl) rfl ?_
  refine K.GL.nil ?_
  refine K.GQ.go ?_
  refine K.GC.seq ?_
  refine K.GC.region ?_
  refine K.GL.det (K.e_move rfl) rfl ?_
  refine K.GL.det (K.e_not32 rfl) rfl ?_
  refine K.GL.det (K.e_assign rfl) rfl ?_
  refine K.GL.nil ?_
  refine K.GQ.go ?_
  refine K.GC.seq ?_
  refine K.GC.seq ?_
  refine K.GC.region ?_
  refine K.GL.det (K.e_assign rfl) rfl ?_
  refine K.GL.nil ?_
  refine K.GQ.go ?_
  refine K.GC.block ?_
  refine K.GC.loopk (α := Nat) [1, 4, 37, 38] rfl (fun x => [(5, .int .u32 ((rb l (~~~s) x).toNat : Int)), (6, .int .i64 (x : Int))]) (fun x => []) (fun x => x ≤ 8 * l.length) (fun x => (8 * l.length - x)) 0 (Nat.zero_le _) (by first | ((repeat refine ⟨rfl, ?_⟩); exact trivial) | (simp only [List.take_zero, List.map_nil, List.flatMap_nil, List.append_nil]; (repeat refine ⟨rfl, ?_⟩); exact trivial)) (by first | exact K.sb | (dsimp only; exact K.sb) | (simp only [List.take_zero, List.map_nil, List.flatMap_nil, List.append_nil]; exact K.sb) | exact K.Sub.refl _) (fun x hI => ?_)
  refine K.GC.seq ?_
  refine K.GC.seq ?_
  refine K.GC.region ?_
  refine K.GL.det (K.e_move rfl) rfl ?_
  refine K.GL.det (K.e_move rfl) rfl ?_
  refine K.GL.det (K.e_len Tryz.underlying32 rfl) rfl ?_
  first | refine K.GL.det (K.e_mul rfl rfl ⟨by omega, by omega⟩) rfl ?_ | refine K.GL.det (K.e_mulw rfl rfl) rfl ?_
  first | refine K.GL.det ((K.e_lt rfl rfl).yes (by first | omega | assumption | decide +kernel)) rfl ?_ | refine K.GL.det ((K.e_lt rfl rfl).no (by first | omega | assumption | decide +kernel)) rfl ?_ | refine K.GL.det (K.e_lt rfl rfl) rfl ?_
  refine K.GL.nil ?_
  refine K.GQ.go ?_
  refine K.GC.condB rfl (fun h1 => ?_) (fun h1 => ?_)
  · first
    | exact absurd h1 (by decide)
    | try replace h1 := of_decide_eq_true h1
      refine K.GC.skip ?_
      refine K.GQ.go ?_
      refine K.GC.seq ?_
      refine K.GC.block ?_
      refine K.GC.seq ?_
      obtain ⟨q, hq⟩ : ∃ q, l[x / 8]? = some q := get_ex (by omega)
      refine K.GC.region ?_
      refine K.GL.det (K.e_move rfl) rfl ?_
      refine K.GL.det (K.e_move rfl) rfl ?_
      refine K.GL.det ((K.e_quo rfl rfl (by omega) (by omega) (by omega)).cast_int (b := ((x / 8 : Nat) : Int)) (by omega)) rfl ?_
      first | refine K.GL.ixK sl32 rfl rfl rfl rfl (by assumption) rfl ?_ | refine K.GL.ix sl32 rfl rfl rfl rfl (by omega) rfl (fun q21 hq21 => ?_) | refine K.GL.ixI sl32 rfl rfl rfl rfl (by omega) (by omega) rfl (fun q21 hq21 => ?_) | refine K.GL.det (K.e_indexAddrS sl32 rfl rfl (by assumption) (by omega) (by omega)) rfl ?_ | refine K.GL.det (K.e_indexAddr sl32 rfl rfl (by omega) (by omega)) rfl ?_
      first | refine K.GL.det (K.e_ldE Tryz.isAgg5 rfl rfl (by assumption) rfl) rfl ?_ | refine K.GL.det (K.e_ldF Tryz.isAgg5 rfl rfl (by assumption) rfl) rfl ?_ | refine K.GL.det (K.e_load Tryz.isAgg5 rfl rfl) rfl ?_ | refine K.GL.det (K.e_load0 Tryz.isAgg5 rfl (by assumption)) rfl ?_
      refine K.GL.det (K.e_c32_8 Tryz.underlying5 Tryz.underlying71 rfl) rfl ?_
      refine K.GL.det (K.e_move rfl) rfl ?_
      refine K.GL.det ((K.e_rem rfl rfl (by omega) (by omega) (by omega)).cast_int (b := ((x % 8 : Nat) : Int)) (by omega)) rfl ?_
      first | refine K.GL.det (K.e_shr32 rfl rfl) rfl ?_ | refine K.GL.det (K.e_shr rfl rfl (by omega)) rfl ?_
      refine K.GL.det (e_rem2 rfl rfl) rfl ?_
      refine K.GL.det (K.e_assign rfl) rfl ?_
      refine K.GL.nil ?_
      refine K.GQ.go ?_
      refine K.GC.seq ?_
      refine K.GC.region ?_
      refine K.GL.det (K.e_move rfl) rfl ?_
      refine K.GL.det (e_rem2 rfl rfl) rfl ?_
      refine K.GL.det (K.e_move rfl) rfl ?_
      refine K.GL.det (e_neq32b rfl rfl) rfl ?_
      refine K.GL.det (K.e_assign rfl) rfl ?_
      refine K.GL.nil ?_
      refine K.GQ.go ?_
      refine K.GC.seq ?_
      refine K.GC.region ?_
      refine K.GL.det (K.e_move rfl) rfl ?_
      refine K.GL.det (e_quo2 rfl rfl) rfl ?_
      refine K.GL.det (K.e_assign rfl) rfl ?_
      refine K.GL.nil ?_
      refine K.GQ.go ?_
      refine K.GC.seq ?_
      refine K.GC.region ?_
      refine K.GL.det (K.e_move rfl) rfl ?_
      refine K.GL.nil ?_
      refine K.GQ.go ?_
      refine K.GC.condB rfl (fun h2 => ?_) (fun h2 => ?_)
      · first
        | exact absurd h2 (by decide)
        | try replace h2 := of_decide_eq_true h2
          refine K.GC.region ?_
          refine K.GL.det (K.e_move rfl) rfl ?_
          first | refine K.GL.det (K.e_xor32 rfl rfl) rfl ?_ | refine K.GL.det (K.e_xor32c rfl rfl) rfl ?_ | refine K.GL.det (K.e_xor rfl rfl) rfl ?_
          refine K.GL.det (K.e_assign rfl) rfl ?_
          refine K.GL.nil ?_
          refine K.GQ.block_normal ?_
          refine K.GQ.go ?_
          refine K.GC.region ?_
          refine K.GL.det (K.e_move rfl) rfl ?_
          first | refine K.GL.det (K.e_add rfl rfl ⟨by omega, by omega⟩) rfl ?_ | refine K.GL.det (K.e_addw rfl rfl) rfl ?_
          refine K.GL.det (K.e_assign rfl) rfl ?_
          refine K.GL.nil ?_
          have hs := rb_step hq (~~~s)
          unfold stepb bitq at hs
          simp only [Int.toNat_natCast] at *
          first
            | (rw [if_pos (by simp_all; done)] at hs; exact K.GQ.round (x + 1) (by omega) (by omega) (by rw [hs]; (repeat refine ⟨rfl, ?_⟩); exact trivial) K.sb)
            | (rw [if_neg (by simp_all; done)] at hs; exact K.GQ.round (x + 1) (by omega) (by omega) (by rw [hs]; (repeat refine ⟨rfl, ?_⟩); exact trivial) K.sb)
      · first
        | exact absurd h2 (by decide)
        | try replace h2 := of_decide_eq_false h2
          refine K.GC.skip ?_
          refine K.GQ.block_normal ?_
          refine K.GQ.go ?_
          refine K.GC.region ?_
          refine K.GL.det (K.e_move rfl) rfl ?_
          first | refine K.GL.det (K.e_add rfl rfl ⟨by omega, by omega⟩) rfl ?_ | refine K.GL.det (K.e_addw rfl rfl) rfl ?_
          refine K.GL.det (K.e_assign rfl) rfl ?_
          refine K.GL.nil ?_
          have hs := rb_step hq (~~~s)
          unfold stepb bitq at hs
          simp only [Int.toNat_natCast] at *
          first
            | (rw [if_pos (by simp_all; done)] at hs; exact K.GQ.round (x + 1) (by omega) (by omega) (by rw [hs]; (repeat refine ⟨rfl, ?_⟩); exact trivial) K.sb)
            | (rw [if_neg (by simp_all; done)] at hs; exact K.GQ.round (x + 1) (by omega) (by omega) (by rw [hs]; (repeat refine ⟨rfl, ?_⟩); exact trivial) K.sb)
  · first
    | exact absurd h1 (by decide)
    | try replace h1 := of_decide_eq_false h1
      refine K.GC.exit ?_
      refine K.GQ.then_exit ?_
      refine K.GQ.then_exit ?_
      refine K.GQ.block_hit ?_
      refine K.GQ.go ?_
      refine K.GC.seq ?_
      refine K.GC.region ?_
      refine K.GL.det (K.e_move rfl) rfl ?_
      refine K.GL.det (K.e_not32 rfl) rfl ?_
      refine K.GL.det (K.e_assign rfl) rfl ?_
      refine K.GL.nil ?_
      refine K.GQ.go ?_
      refine K.GC.ret ?_
      refine K.GQ.ret1 Tryz.results80 rfl (fun w hT => ?_)
      obtain rfl : x = 8 * l.length := by omega
      exact ⟨by rw [rb_all]; rfl, hT.nil⟩
section
variable {ops : Array Oper} {Q : Exit → Act → World → Prop} {N : Nat} {U : Env} {w0 : World} {L0 L F : List Res} {ty : TypeId} {rest : List Oper} {pos : String} {after : Array Edge} {xs : List Operand} {tys : Array TypeId} {dT : Tmp}
theorem ev_rmore_con {s : BitVec 32} {l : Bytes} {a : Option Addr} {c : Nat} (hf : ∀ args w, (callFunc 80 args).run Tryz.prog w = .ok (.enter 80 args) w) (hx : opvs U xs = some [.int .u32 ((s).toNat : Int), .slice a l.length c]) (hl : l.length < 100000000) [o0 : RdC w0 L0 [] L a (encB) (l)] : Ev Tryz.prog U w0 L0 L (.call ⟨.value (.func 80), xs.toArray, tys⟩) ty (Is (.int .u32 ((crcM s l).toNat : Int))) No :=
  K.e_call1 hf hx (fun w hT => by have _o0 := o0.out w hT; exact rmore_con hl)
end
/- turntable/turntableref02.Of -/
set_option maxHeartbeats 1000000 in
set_option maxRecDepth 100000 in
theorem rof_con {l : Bytes} {a : Option Addr} {c : Nat} {w : World} (hl : l.length < 100000000) [Old w [] a (encB) (l)] :
    Calls Tryz.prog 68 #[.slice a l.length c] w fun e w' => e = .returned (.int .u32 ((crcM 0#32 l).toNat : Int)) ∧ Tr w [] w' [] := by
  refine K.enter0 (args := [_]) Tryz.func68 rfl Tryz.ntmps68 rfl ?_
  refine K.GC.seq ?_
  refine K.GC.region ?_
  refine K.GL.det (K.e_assign rfl) rfl ?_
  refine K.GL.nil ?_
  refine K.GQ.go ?_
  refine K.GC.seq ?_
  refine K.GC.region ?_
  refine K.GL.det (K.e_move rfl) rfl ?_
  refine K.GL.det (ev_rmore_con (s := 0#32) Tryz.call80 rfl (by first | assumption | omega | rfl | decide)) rfl ?_
  refine K.GL.det (K.e_assign rfl) rfl ?_
  refine K.GL.nil ?_
  refine K.GQ.go ?_
  refine K.GC.ret ?_
  refine K.GQ.ret1 Tryz.results68 rfl (fun w hT => ?_)
  exact ⟨rfl, hT.nil⟩
section
variable {ops : Array Oper} {Q : Exit → Act → World → Prop} {N : Nat} {U : Env} {w0 : World} {L0 L F : List Res} {ty : TypeId} {rest : List Oper} {pos : String} {after : Array Edge} {xs : List Operand} {tys : Array TypeId} {dT : Tmp}
theorem ev_rof_con {l : Bytes} {a : Option Addr} {c : Nat} (hf : ∀ args w, (callFunc 68 args).run Tryz.prog w = .ok (.enter 68 args) w) (hx : opvs U xs = some [.slice a l.length c]) (hl : l.length < 100000000) [o0 : RdC w0 L0 [] L a (encB) (l)] : Ev Tryz.prog U w0 L0 L (.call ⟨.value (.func 68), xs.toArray, tys⟩) ty (Is (.int .u32 ((crcM 0#32 l).toNat : Int))) No :=
  K.e_call1 hf hx (fun w hT => by have _o0 := o0.out w hT; exact rof_con hl)
end
/- turntable/turntableref08.four -/
set_option maxHeartbeats 1000000 in
set_option maxRecDepth 100000 in
theorem rfour_con {n : BitVec 32} {w : World} :
    Calls Tryz.prog 69 #[.int .u32 ((n).toNat : Int)] w fun e w' => ∃ a' : Option Addr, ∃ c' : Nat, e = .returned (.slice a' (f4 n).length c') ∧ Tr w [] w' [trow a' c' 5 encB (f4 n)] := by
  refine K.enter0 (args := [_]) Tryz.func69 rfl Tryz.ntmps69 rfl ?_
  refine K.GC.seq ?_
  refine K.GC.region ?_
  refine K.GL.det (K.e_assign rfl) rfl ?_
  refine K.GL.nil ?_
  refine K.GQ.go ?_
  refine K.GC.seq ?_
  refine K.GC.region ?_
  refine K.GL.det (K.e_move rfl) rfl ?_
  first | refine K.GL.det (K.e_c8_32 Tryz.underlying71 Tryz.underlying5 rfl) rfl ?_ | refine K.GL.det (K.e_c8 Tryz.underlying71 Tryz.underlying5 rfl) rfl ?_
  refine K.GL.det (K.e_move rfl) rfl ?_
  first | refine K.GL.det (K.e_shr32 rfl rfl) rfl ?_ | refine K.GL.det (K.e_shr rfl rfl (by omega)) rfl ?_
  first | refine K.GL.det (K.e_c8_32 Tryz.underlying71 Tryz.underlying5 rfl) rfl ?_ | refine K.GL.det (K.e_c8 Tryz.underlying71 Tryz.underlying5 rfl) rfl ?_
  refine K.GL.det (K.e_move rfl) rfl ?_
  first | refine K.GL.det (K.e_shr32 rfl rfl) rfl ?_ | refine K.GL.det (K.e_shr rfl rfl (by omega)) rfl ?_
  first | refine K.GL.det (K.e_c8_32 Tryz.underlying71 Tryz.underlying5 rfl) rfl ?_ | refine K.GL.det (K.e_c8 Tryz.underlying71 Tryz.underlying5 rfl) rfl ?_
  refine K.GL.det (K.e_move rfl) rfl ?_
  first | refine K.GL.det (K.e_shr32 rfl rfl) rfl ?_ | refine K.GL.det (K.e_shr rfl rfl (by omega)) rfl ?_
  first | refine K.GL.det (K.e_c8_32 Tryz.underlying71 Tryz.underlying5 rfl) rfl ?_ | refine K.GL.det (K.e_c8 Tryz.underlying71 Tryz.underlying5 rfl) rfl ?_
  refine K.GL.buildT encB (f4 n) mk32 rfl rfl rfl rfl rfl (fun b14 => ?_)
  refine K.GL.det (K.e_assign rfl) rfl ?_
  refine K.GL.nil ?_
  refine K.GQ.go ?_
  refine K.GC.ret ?_
  refine K.GQ.ret1 Tryz.results69 rfl (fun w hT => ?_)
  exact ⟨_, _, rfl, hT⟩
section
variable {ops : Array Oper} {Q : Exit → Act → World → Prop} {N : Nat} {U : Env} {w0 : World} {L0 L F : List Res} {ty : TypeId} {rest : List Oper} {pos : String} {after : Array Edge} {xs : List Operand} {tys : Array TypeId} {dT : Tmp}
theorem gl_rfour_con {n : BitVec 32} (hf : ∀ args w, (callFunc 69 args).run Tryz.prog w = .ok (.enter 69 args) w) (hx : opvs U xs = some [.int .u32 ((n).toNat : Int)]) (hd : Nat.ble (dT + 1) N = true)
    (hr : ∀ (a' : Option Addr) (c' : Nat), GL Tryz.prog ops Q rest N ((dT, .slice a' (f4 n).length c') :: U) w0 L0 (trow a' c' 5 encB (f4 n) :: L)) : GL Tryz.prog ops Q (⟨some dT, .call ⟨.value (.func 69), xs.toArray, tys⟩, ty, pos, after, Option.none⟩ :: rest) N U w0 L0 L :=
  GL.callM (α := (Option Addr) × (Nat)) (l := []) (Pv := fun y v => v = .slice y.1 (f4 n).length y.2) (l' := fun y => [trow y.1 y.2 5 encB (f4 n)]) hf hx (Sub.refl _)
    (fun w hT => by
      exact (rfour_con ).mono fun e w' ⟨a', c', h1, h2⟩ => ⟨(a', c'), _, h1, rfl, h2⟩) hd fun y v hv => by subst hv; exact hr y.1 y.2 
end
section
variable {ops : Array Oper} {Q : Exit → Act → World → Prop} {N : Nat} {U : Env} {w0 : World} {L0 L F : List Res} {ty : TypeId} {rest : List Oper} {pos : String} {after : Array Edge} {xs : List Operand} {tys : Array TypeId} {dT : Tmp}
end
/- turntable/turntableref08.Right -/
set_option maxHeartbeats 1000000 in
set_option maxRecDepth 100000 in
theorem rcright_con {s p : Int} {w : World} :
    Calls Tryz.prog 67 #[.int .i64 s, .int .i64 p] w fun e w' => e = .returned (.bool (rightC s p)) ∧ Tr w [] w' [] := by
  refine K.enter0 (args := [_, _]) Tryz.func67 rfl Tryz.ntmps67 rfl ?_
  refine K.GC.seq ?_
  refine K.GC.region ?_
  refine K.GL.det (K.e_assign rfl) rfl ?_
  refine K.GL.nil ?_
  refine K.GQ.go ?_
  refine K.GC.seq ?_
  refine K.GC.region ?_
  refine K.GL.det (K.e_move rfl) rfl ?_
  first | refine K.GL.det ((K.e_ge rfl rfl).yes (by fail)) rfl ?_ | refine K.GL.det ((K.e_ge rfl rfl).no (by fail)) rfl ?_ | refine K.GL.det (K.e_ge rfl rfl) rfl ?_
  refine K.GL.det (K.e_move rfl) rfl ?_
  first | refine K.GL.splitB 7 rfl (fun h1 => ?_) (fun h1 => ?_) | skip
  all_goals first | exact absurd h1 (by decide) | replace h1 := of_decide_eq_true h1 | replace h1 := of_decide_eq_false h1 | skip
  all_goals
    first | (refine K.GL.want 7 rfl rfl rfl ?_; first | refine K.GL.det (K.e_move rfl) rfl ?_) | refine K.GL.skip 7 rfl rfl rfl rfl ?_ | refine K.GL.skipU 7 rfl rfl rfl rfl ?_
    first | (refine K.GL.want 7 rfl rfl rfl ?_; first | refine K.GL.det ((K.e_le rfl rfl).yes (by fail)) rfl ?_ | refine K.GL.det ((K.e_le rfl rfl).no (by fail)) rfl ?_ | refine K.GL.det (K.e_le rfl rfl) rfl ?_) | refine K.GL.skip 7 rfl rfl rfl rfl ?_ | refine K.GL.skipU 7 rfl rfl rfl rfl ?_
    first | refine K.GL.det (K.e_pick_t rfl rfl) rfl ?_ | refine K.GL.det (K.e_pick_f rfl rfl) rfl ?_
    refine K.GL.det (K.e_move rfl) rfl ?_
    first | refine K.GL.splitB 11 rfl (fun h2 => ?_) (fun h2 => ?_) | skip
    all_goals first | exact absurd h2 (by decide) | replace h2 := of_decide_eq_true h2 | replace h2 := of_decide_eq_false h2 | skip
    all_goals
      first | (refine K.GL.want 11 rfl rfl rfl ?_; first | refine K.GL.det (K.e_move rfl) rfl ?_) | refine K.GL.skip 11 rfl rfl rfl rfl ?_ | refine K.GL.skipU 11 rfl rfl rfl rfl ?_
      first | (refine K.GL.want 11 rfl rfl rfl ?_; first | refine K.GL.det ((K.e_ge rfl rfl).yes (by fail)) rfl ?_ | refine K.GL.det ((K.e_ge rfl rfl).no (by fail)) rfl ?_ | refine K.GL.det (K.e_ge rfl rfl) rfl ?_) | refine K.GL.skip 11 rfl rfl rfl rfl ?_ | refine K.GL.skipU 11 rfl rfl rfl rfl ?_
      first | refine K.GL.det (K.e_pick_t rfl rfl) rfl ?_ | refine K.GL.det (K.e_pick_f rfl rfl) rfl ?_
      refine K.GL.det (K.e_move rfl) rfl ?_
      first | refine K.GL.splitB 15 rfl (fun h3 => ?_) (fun h3 => ?_) | skip
      all_goals first | exact absurd h3 (by decide) | replace h3 := of_decide_eq_true h3 | replace h3 := of_decide_eq_false h3 | skip
      all_goals
        first | (refine K.GL.want 15 rfl rfl rfl ?_; first | refine K.GL.det (K.e_move rfl) rfl ?_) | refine K.GL.skip 15 rfl rfl rfl rfl ?_ | refine K.GL.skipU 15 rfl rfl rfl rfl ?_
        first | (refine K.GL.want 15 rfl rfl rfl ?_; first | refine K.GL.det ((K.e_le rfl rfl).yes (by fail)) rfl ?_ | refine K.GL.det ((K.e_le rfl rfl).no (by fail)) rfl ?_ | refine K.GL.det (K.e_le rfl rfl) rfl ?_) | refine K.GL.skip 15 rfl rfl rfl rfl ?_ | refine K.GL.skipU 15 rfl rfl rfl rfl ?_
        first | refine K.GL.det (K.e_pick_t rfl rfl) rfl ?_ | refine K.GL.det (K.e_pick_f rfl rfl) rfl ?_
        refine K.GL.det (K.e_assign rfl) rfl ?_
        refine K.GL.nil ?_
        refine K.GQ.go ?_
        refine K.GC.ret ?_
        refine K.GQ.ret1 Tryz.results67 rfl (fun w hT => ?_)
        exact ⟨by unfold rightC; simp only [Ending.returned.injEq, Value.bool.injEq]; first | (symm; exact decide_eq_true (by omega)) | (symm; exact decide_eq_false (by omega)) | (rw [decide_eq_decide]; omega), hT.nil⟩
section
variable {ops : Array Oper} {Q : Exit → Act → World → Prop} {N : Nat} {U : Env} {w0 : World} {L0 L F : List Res} {ty : TypeId} {rest : List Oper} {pos : String} {after : Array Edge} {xs : List Operand} {tys : Array TypeId} {dT : Tmp}
theorem ev_rcright_con {s p : Int} (hf : ∀ args w, (callFunc 67 args).run Tryz.prog w = .ok (.enter 67 args) w) (hx : opvs U xs = some [.int .i64 s, .int .i64 p]) : Ev Tryz.prog U w0 L0 L (.call ⟨.value (.func 67), xs.toArray, tys⟩) ty (Is (.bool (rightC s p))) No :=
  K.e_call1 hf hx (fun w hT => by exact rcright_con )
end
/- turntable/turntableref09.put -/
set_option maxHeartbeats 1000000 in
set_option maxRecDepth 100000 in
theorem rput_con {bl : Bytes} {n : Int} {wd : Nat} {a : Option Addr} {c : Nat} {w : World} (hb : bl.length < 1000000) (hw : wd < 1000000) (hn : 0 ≤ n ∧ n < 9223372036854775807) (hd : Disj [trow a c 5 encB bl]) (ho : ∀ r ∈ ([trow a c 5 encB bl] : List Res), r.ok w.heap) :
    Calls Tryz.prog 50 #[.slice a bl.length c, .int .i64 n, .int .i64 (wd : Int)] w fun e w' => ∃ a' : Option Addr, ∃ c' : Nat, e = .returned (.slice a' (bl ++ leB wd n).length c') ∧ Tr w [trow a c 5 encB bl] w' [trow a' c' 5 encB (bl ++ leB wd n)] := by
  refine K.enter (args := [_, _, _]) Tryz.func50 rfl Tryz.ntmps50 rfl hd ho ?_
  refine K.GC.seq ?_
  refine K.GC.region ?_
  refine K.GL.det (K.e_assign rfl) rfl ?_
  refine K.GL.nil ?_
  refine K.GQ.go ?_
  refine K.GC.seq ?_
  refine K.GC.seq ?_
  refine K.GC.region ?_
  refine K.GL.det (K.e_assign rfl) rfl ?_
  refine K.GL.nil ?_
  refine K.GQ.go ?_
  refine K.GC.block ?_
  refine K.GC.loopk (α := Nat × Option Addr × Nat) [2, 6, 21] rfl (fun x => [(0, .slice x.2.1 (bl ++ leB x.1 n).length x.2.2), (1, .int .i64 (n / 256 ^ x.1)), (7, .int .i64 (x.1 : Int))]) (fun x => [trow x.2.1 x.2.2 5 encB (bl ++ leB x.1 n)]) (fun x => x.1 ≤ wd) (fun x => (wd - x.1)) (0, a, c) (Nat.zero_le _) (by simp only [leB, List.append_nil, Int.pow_zero, Int.ediv_one]; (repeat refine ⟨rfl, ?_⟩); exact trivial) (by simp only [leB, List.append_nil]; exact K.sb) (fun x hI => ?_)
  obtain ⟨x, a1, c1⟩ := x
  simp only at hI ⊢
  have hl2 := leB_len x n
  have hn0 : 0 ≤ n / 256 ^ x := Int.ediv_nonneg hn.1 (Int.pow_nonneg (by decide))
  have hn1 : n / 256 ^ x ≤ n := Int.ediv_le_self _ hn.1
  refine K.GC.seq ?_
  refine K.GC.seq ?_
  refine K.GC.region ?_
  refine K.GL.det (K.e_move rfl) rfl ?_
  refine K.GL.det (K.e_move rfl) rfl ?_
  first | refine K.GL.det ((K.e_lt rfl rfl).yes (by first | omega | assumption | decide +kernel)) rfl ?_ | refine K.GL.det ((K.e_lt rfl rfl).no (by first | omega | assumption | decide +kernel)) rfl ?_ | refine K.GL.det (K.e_lt rfl rfl) rfl ?_
  refine K.GL.nil ?_
  refine K.GQ.go ?_
  refine K.GC.condB rfl (fun h1 => ?_) (fun h1 => ?_)
  · first
    | exact absurd h1 (by decide)
    | try replace h1 := of_decide_eq_true h1
      refine K.GC.skip ?_
      refine K.GQ.go ?_
      refine K.GC.seq ?_
      refine K.GC.block ?_
      refine K.GC.seq ?_
      refine K.GC.region ?_
      refine K.GL.det (K.e_move rfl) rfl ?_
      refine K.GL.det (K.e_move rfl) rfl ?_
      refine K.GL.det (K.e_rem rfl rfl (by omega) (by omega) (by omega)) rfl ?_
      refine K.GL.det (K.e_c8 Tryz.underlying2 Tryz.underlying5 rfl) rfl ?_
      refine K.GL.buildT encB [_] mk32 rfl rfl rfl rfl rfl (fun b17 => ?_)
      first | refine K.GL.appendT mk32 rfl rfl rfl rfl rfl (by first | omega | (simp only [List.length_cons, List.length_nil, List.length_append]; omega)) (by first | omega | (simp only [List.length_cons, List.length_nil, List.length_append]; omega)) rfl (fun a18 c18 => ?_) | (refine K.GL.trow0 5 encB ?_; refine K.GL.appendT mk32 rfl rfl rfl rfl rfl (by first | omega | (simp only [List.length_cons, List.length_nil, List.length_append]; omega)) (by first | omega | (simp only [List.length_cons, List.length_nil, List.length_append]; omega)) rfl (fun a18 c18 => ?_))
      refine K.GL.det (K.e_assign rfl) rfl ?_
      refine K.GL.nil ?_
      refine K.GQ.go ?_
      refine K.GC.region ?_
      refine K.GL.det (K.e_move rfl) rfl ?_
      refine K.GL.det (K.e_quo rfl rfl (by omega) (by omega) (by omega)) rfl ?_
      refine K.GL.det (K.e_assign rfl) rfl ?_
      refine K.GL.nil ?_
      refine K.GQ.block_normal ?_
      refine K.GQ.go ?_
      refine K.GC.region ?_
      refine K.GL.det (K.e_move rfl) rfl ?_
      first | refine K.GL.det (K.e_add rfl rfl ⟨by omega, by omega⟩) rfl ?_ | refine K.GL.det (K.e_addw rfl rfl) rfl ?_
      refine K.GL.det (K.e_assign rfl) rfl ?_
      refine K.GL.nil ?_
      exact K.GQ.round (x + 1, a18, c18) (by simp only; omega) (by simp only; omega) (by simp only [leB_snoc, b8_mod, leB_rest]; rw [← List.append_assoc]; (repeat refine ⟨rfl, ?_⟩); exact trivial) (by simp only [leB_snoc, b8_mod]; rw [← List.append_assoc]; exact K.sb)
  · first
    | exact absurd h1 (by decide)
    | try replace h1 := of_decide_eq_false h1
      refine K.GC.exit ?_
      refine K.GQ.then_exit ?_
      refine K.GQ.then_exit ?_
      refine K.GQ.block_hit ?_
      refine K.GQ.go ?_
      refine K.GC.seq ?_
      refine K.GC.region ?_
      refine K.GL.det (K.e_move rfl) rfl ?_
      refine K.GL.det (K.e_assign rfl) rfl ?_
      refine K.GL.nil ?_
      refine K.GQ.go ?_
      refine K.GC.ret ?_
      refine K.GQ.ret1 Tryz.results50 rfl (fun w hT => ?_)
      obtain rfl : x = wd := by omega
      exact ⟨a1, c1, rfl, hT.sub K.sb⟩
section
variable {ops : Array Oper} {Q : Exit → Act → World → Prop} {N : Nat} {U : Env} {w0 : World} {L0 L F : List Res} {ty : TypeId} {rest : List Oper} {pos : String} {after : Array Edge} {xs : List Operand} {tys : Array TypeId} {dT : Tmp}
end
section
variable {ops : Array Oper} {Q : Exit → Act → World → Prop} {N : Nat} {U : Env} {w0 : World} {L0 L F : List Res} {ty : TypeId} {rest : List Oper} {pos : String} {after : Array Edge} {xs : List Operand} {tys : Array TypeId} {dT : Tmp}
theorem em_rput_con {bl : Bytes} {n : Int} {wd : Nat} {a : Option Addr} {c : Nat}  {F1 : List Res}(hf : ∀ args w, (callFunc 50 args).run Tryz.prog w = .ok (.enter 50 args) w) (hx : opvs U xs = some [.slice a bl.length c, .int .i64 n, .int .i64 (wd : Int)]) [p1 : PkT L a c 5 encB bl F1] (hb : bl.length < 1000000) (hw : wd < 1000000) (hn : 0 ≤ n ∧ n < 9223372036854775807) : K.D.EvM Tryz.prog U w0 L0 L [trow a c 5 encB bl] (.call ⟨.value (.func 50), xs.toArray, tys⟩) ty (fun g => .slice (g 0).1 (bl ++ leB wd n).length (g 0).2) (fun g => True) (fun g => trow (g 0).1 (g 0).2 5 encB (bl ++ leB wd n)) :=
  K.D.em_call hf hx fun w hT => by
    have hT1 : Tr w0 L0 w ([trow a c 5 encB bl] ++ F1) := hT.sub (p1.out); have hd0 := Disj.left hT1.disj; have ho0 := fun r hr => hT1.ok r (List.mem_append_left _ hr); exact (rput_con hb hw hn hd0 ho0).mono fun e w' ⟨a', c', h1, h2⟩ => ⟨fun i => (a', c'), h1, trivial, h2⟩
end
end Go.Proofs.YtdbedajaapamhaaGreat
