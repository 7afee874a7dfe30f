/- TableBursts returns true for all tables, places and runs of bits. -/
import Derived.ProofKit
import Derived.OpenShut
import Derived.SizedLaws
import Derived.Lib.SmallJoins
import Derived.Test.YtdbedajaapamhaaRows
import Derived.Test.YtdbedajaapamhaaTabO
namespace Go.Proofs.Ytdbedajaapamhaa
open Go Go.K Go.ChangeShapes Go.WideShapes Go.ChangeAt Go.RowKit Go.Joins
set_option linter.unusedVariables false
set_option linter.unusedSimpArgs false
attribute [local irreducible] Calls Ev GL GC GQ GR Code.wp
theorem own : ownKnob Try.prog.godebug = none := by kernel_rfl
theorem laidOut : laidOutB Try.prog = true := by kernel_rfl
/-! ### A run of bits turned over -/
def bitl (l : Bytes) (x : Nat) : BitVec 32 := bitq (BitVec.ofNat 32 ((l[x / 8]?).getD 0).toNat) (x % 8)
theorem rb_bitl (l : Bytes) (r : BitVec 32) (x : Nat) : rb l r (x + 1) = stepb (rb l r x) (bitl l x) := rfl
theorem bitq_xor (a b : BitVec 32) (j : Nat) : bitq (a ^^^ b) j = bitq a j ^^^ bitq b j := by
  unfold bitq
  rw [BitVec.ushiftRight_xor_distrib]
  ext i; simp [Bool.and_xor_distrib_right]
theorem bitq_one : ∀ j < 8, ∀ i < 8, bitq (BitVec.ofNat 32 (1 <<< j)) i = if i = j then 1#32 else 0#32 := by decide
theorem sh8_toNat : ∀ j < 8, ((1 : UInt8) <<< (UInt8.ofNat j)).toNat = 1 <<< j := by decide
/-- One bit of a byte turned over. -/
def fl1 (q : UInt8) (j : Nat) : UInt8 := q ^^^ ((1 : UInt8) <<< (UInt8.ofNat j))
theorem fl1_bit (q : UInt8) {i j : Nat} (hi : i < 8) (hj : j < 8) : bitq (BitVec.ofNat 32 (fl1 q j).toNat) i = bitq (BitVec.ofNat 32 q.toNat) i ^^^ (if i = j then 1#32 else 0#32) := by
  unfold fl1
  rw [UInt8.toNat_xor, sh8_toNat j hj, BitVec.ofNat_xor, bitq_xor, bitq_one j hj i hi]
def flip1 (l : Bytes) (k : Nat) : Bytes := l.set (k / 8) (fl1 ((l[k / 8]?).getD 0) (k % 8))
theorem flip1_len (l : Bytes) (k : Nat) : (flip1 l k).length = l.length := List.length_set
theorem flip1_bit {l : Bytes} {k x : Nat} (hk : k / 8 < l.length) : bitl (flip1 l k) x = bitl l x ^^^ (if x = k then 1#32 else 0#32) := by
  unfold bitl flip1
  rcases Nat.decEq (x / 8) (k / 8) with h | h
  · rw [List.getElem?_set_ne (by omega), if_neg (by intro e; subst e; exact h rfl), BitVec.xor_zero]
  · rw [h, List.getElem?_set_self hk, Option.getD_some, fl1_bit _ (Nat.mod_lt _ (by omega)) (Nat.mod_lt _ (by omega))]
    congr 1
    have e : (x % 8 = k % 8) ↔ (x = k) := by omega
    simp only [e]
def flp (l : Bytes) (p : Nat) (w : BitVec 32) : Nat → Bytes
  | 0 => l
  | x + 1 => if (w >>> x) &&& 1#32 = 1#32 then flip1 (flp l p w x) (p + x) else flp l p w x
theorem flp_len (l : Bytes) (p : Nat) (w : BitVec 32) : ∀ x, (flp l p w x).length = l.length
  | 0 => rfl
  | x + 1 => by
    unfold flp
    split
    · rw [flip1_len, flp_len l p w x]
    · exact flp_len l p w x
def inw (p n : Nat) (w : BitVec 32) (x : Nat) : BitVec 32 := if p ≤ x ∧ x < p + n then bitq w (x - p) else 0#32
theorem flp_bit {l : Bytes} {p : Nat} (w : BitVec 32) {x : Nat} : ∀ n, p + n ≤ 8 * l.length → bitl (flp l p w n) x = bitl l x ^^^ inw p n w x
  | 0, _ => by unfold inw; rw [if_neg (by omega), BitVec.xor_zero]; rfl
  | n + 1, hn => by
    have ih := flp_bit (l := l) (p := p) (x := x) w n (by omega)
    have hb : bitq w n = 1#32 ∨ bitq w n = 0#32 := (low_cases (w >>> n)).symm
    have key : inw p (n + 1) w x = inw p n w x ^^^ (if x = p + n then bitq w n else 0#32) := by
      unfold inw
      by_cases h1 : x = p + n
      · subst h1
        rw [if_pos (by omega), if_neg (by omega), if_pos rfl, Nat.add_sub_cancel_left, BitVec.zero_xor]
      · rw [if_neg h1, BitVec.xor_zero]
        by_cases h2 : p ≤ x ∧ x < p + n
        · rw [if_pos h2, if_pos (by omega)]
        · rw [if_neg h2, if_neg (by omega)]
    rw [key, ← BitVec.xor_assoc, ← ih, show flp l p w (n + 1) = if (w >>> n) &&& 1#32 = 1#32 then flip1 (flp l p w n) (p + n) else flp l p w n from rfl]
    split
    · rename_i h
      rw [flip1_bit (by rw [flp_len]; omega)]
      have h2 : bitq w n = 1#32 := h
      rw [h2]
    · rename_i h
      have h2 : bitq w n = 0#32 := hb.resolve_left h
      rw [h2]; simp
/-- What two registers differ in. -/
def dif (p : Nat) (w : BitVec 32) : Nat → BitVec 32
  | 0 => 0#32
  | x + 1 => S1 (dif p w x ^^^ inw p 32 w x)
theorem bitl_01 (l : Bytes) (x : Nat) : bitl l x = 0#32 ∨ bitl l x = 1#32 := low_cases _
theorem rb_dif {l m : Bytes} {p : Nat} {w : BitVec 32} (h : ∀ x, bitl m x = bitl l x ^^^ inw p 32 w x) (r : BitVec 32) : ∀ x, rb m r x = rb l r x ^^^ dif p w x
  | 0 => by rw [dif, BitVec.xor_zero]; rfl
  | x + 1 => by
    rw [rb_bitl, rb_bitl, stepb_eq _ _ (bitl_01 m x), stepb_eq _ _ (bitl_01 l x), rb_dif h r x, h x, dif, ← S1_xor]
    congr 1
    generalize rb l r x = A; generalize dif p w x = B; generalize bitl l x = C; generalize inw p 32 w x = D
    ext i; simp; cases A[i] <;> cases B[i] <;> cases C[i] <;> cases D[i] <;> rfl
theorem S1_zero : S1 0#32 = 0#32 := by decide
theorem dif_before (p : Nat) (w : BitVec 32) : ∀ x, x ≤ p → dif p w x = 0#32
  | 0, _ => rfl
  | x + 1, hx => by
    rw [dif, dif_before p w x (by omega)]
    unfold inw
    rw [if_neg (by omega), BitVec.xor_zero, S1_zero]
theorem dif_in (p : Nat) (w : BitVec 32) : ∀ j, j ≤ 32 → dif p w (p + j) = steps w 0#32 j
  | 0, _ => dif_before p w p (Nat.le_refl _)
  | j + 1, hj => by
    rw [← Nat.add_assoc, dif, dif_in p w j (by omega), steps]
    unfold inw
    rw [if_pos (by omega), Nat.add_sub_cancel_left, show bitq w j = (w >>> j) &&& 1#32 from rfl, stepb_eq _ _ (low_cases _)]
theorem dif_after (p : Nat) (w : BitVec 32) : ∀ k, dif p w (p + 32 + k) = Sn k (dif p w (p + 32))
  | 0 => rfl
  | k + 1 => by
    rw [← Nat.add_assoc, dif, dif_after p w k, Sn]
    unfold inw
    rw [if_neg (by omega), BitVec.xor_zero]
theorem dif_window (p : Nat) (w : BitVec 32) : dif p w (p + 32) = Sn 32 w := by
  have h := steps_eq w 0#32 32
  have hz : w >>> 32 = 0#32 := by
    apply BitVec.eq_of_toNat_eq
    have := w.isLt
    rw [BitVec.toNat_ushiftRight, Nat.shiftRight_eq_div_pow, Nat.div_eq_of_lt (by omega)]; rfl
  rw [hz, BitVec.xor_zero, BitVec.zero_xor] at h
  rw [dif_in p w 32 (Nat.le_refl _), h]
theorem S1_inj {r : BitVec 32} (h : S1 r = 0#32) : r = 0#32 := by
  rw [S1_def] at h
  rcases low_cases r with hr | hr
  · rw [if_neg (by rw [hr]; decide), BitVec.xor_zero] at h
    have h2 := low_split r
    rw [hr, h] at h2
    rw [h2]; decide
  · rw [if_pos hr] at h
    exfalso
    have h2 : ((r >>> 1) ^^^ poly).getLsbD 31 = false := by rw [h]; decide
    rw [BitVec.getLsbD_xor, BitVec.getLsbD_ushiftRight] at h2
    have h3 : r.getLsbD (1 + 31) = false := BitVec.getLsbD_of_ge r 32 (by omega)
    rw [h3] at h2
    exact absurd h2 (by decide)
theorem Sn_inj : ∀ (k : Nat) {r : BitVec 32}, Sn k r = 0#32 → r = 0#32
  | 0, _, h => h
  | k + 1, _, h => Sn_inj k (S1_inj h)
theorem dif_end {p : Nat} {w : BitVec 32} (hp : p + 32 ≤ 512) (h : dif p w 512 = 0#32) : w = 0#32 := by
  obtain ⟨k, hk⟩ : ∃ k, 512 = p + 32 + k := ⟨480 - p, by omega⟩
  rw [hk, dif_after, dif_window] at h
  exact Sn_inj 32 (Sn_inj k h)
/-! ### The register behind a whole sector -/
theorem crc8_low (r n : BitVec 32) (b : UInt8) (hb : ∀ j < 8, bitq n j = bitq (BitVec.ofNat 32 b.toNat) j) : crc8 r b ^^^ (n >>> 8) = Sn 8 (r ^^^ n) := by
  rw [← steps8, ← steps_eq n r 8]
  have : ∀ j ≤ 8, steps (BitVec.ofNat 32 b.toNat) r j = steps n r j := by
    intro j
    induction j with
    | zero => intro _; rfl
    | succ j ih => intro hj; rw [steps, steps, ih (by omega), hb j (by omega)]
  rw [this 8 (Nat.le_refl _)]
theorem low_bits (n : BitVec 32) : ∀ j < 8, bitq n j = bitq (BitVec.ofNat 32 (UInt8.ofNat n.toNat).toNat) j := by
  intro j hj
  unfold bitq
  apply BitVec.eq_of_toNat_eq
  have h1 : 1 % 2 ^ 32 = 1 := by decide
  rw [BitVec.toNat_and, BitVec.toNat_and, BitVec.toNat_ushiftRight, BitVec.toNat_ushiftRight, UInt8.toNat_ofNat']
  simp only [BitVec.toNat_ofNat]
  rw [h1, Nat.and_one_is_mod, Nat.and_one_is_mod, Nat.shiftRight_eq_div_pow, Nat.shiftRight_eq_div_pow]
  have h2 : n.toNat % 2 ^ 8 % 2 ^ 32 = n.toNat % 2 ^ 8 := by have := n.isLt; omega
  rw [h2]
  have h3 : ∀ i < 8, ∀ m : Nat, m / 2 ^ i % 2 = m % 2 ^ 8 / 2 ^ i % 2 := by
    intro i hi m
    rcases (by omega : i = 0 ∨ i = 1 ∨ i = 2 ∨ i = 3 ∨ i = 4 ∨ i = 5 ∨ i = 6 ∨ i = 7) with h | h | h | h | h | h | h | h <;> subst h <;> omega
  exact h3 j hj _
theorem f4_end (R n : BitVec 32) : (f4 n).foldl crc8 R = Sn 32 (R ^^^ n) := by
  have e : ∀ x, Sn 32 x = Sn 8 (Sn 8 (Sn 8 (Sn 8 x))) := fun _ => rfl
  have hs : ∀ a b : Nat, n >>> a >>> b = n >>> (a + b) := fun a b => BitVec.eq_of_toNat_eq (by rw [BitVec.toNat_ushiftRight, BitVec.toNat_ushiftRight, BitVec.toNat_ushiftRight, Nat.shiftRight_add])
  have hz : n >>> 32 = 0#32 := by
    apply BitVec.eq_of_toNat_eq
    have := n.isLt
    rw [BitVec.toNat_ushiftRight, Nat.shiftRight_eq_div_pow, Nat.div_eq_of_lt (by omega)]; rfl
  rw [e, ← crc8_low R n _ (low_bits n), ← crc8_low _ (n >>> 8) _ (low_bits (n >>> 8)), hs, ← crc8_low _ (n >>> 16) _ (low_bits (n >>> 16)), hs, ← crc8_low _ (n >>> 24) _ (low_bits (n >>> 24)), hs, hz, BitVec.xor_zero]
  rfl
def reg0 (g : Int) : BitVec 32 := (f4 (seq32 g) ++ [b8 255]).foldl crc8 (~~~0#32)
theorem put_res {t : Tab} (h : RightP t) : rb (putT t) (reg0 t.gen) 512 = Sn 32 (BitVec.allOnes 32) := by
  have hl := putT_len ((right_iff t).2 h)
  have h1 := rb_all (putT t) (reg0 t.gen)
  rw [hl] at h1
  rw [h1, putT_eq h, List.foldl_append, f4_end]
  have h59 : (tbody t).length ≤ 59 := by rw [tbody_len]; have := h.n2; omega
  have e : sumOf t.gen 255 (cbody (tbody t)) = ~~~((cbody (tbody t)).foldl crc8 (reg0 t.gen)) := by
    unfold sumOf crcM reg0
    rw [List.take_of_length_le (by rw [cbody_len h59]; omega), List.foldl_append]
  rw [e]
  congr 1
  generalize (cbody (tbody t)).foldl crc8 (reg0 t.gen) = R
  apply BitVec.eq_of_getLsbD_eq
  intro i hi
  rw [BitVec.getLsbD_xor, BitVec.getLsbD_not, BitVec.getLsbD_allOnes]
  cases R.getLsbD i <;> simp [hi]
theorem burst {t : Tab} (h : RightP t) {p : Nat} (hp : 40 ≤ p) (hp2 : p + 32 ≤ 512) (w : BitVec 32) : getB (flp (putT t) p w 32) = decide (w = BitVec.ofInt 32 0) := by
  have hl := putT_len ((right_iff t).2 h)
  have e0 : BitVec.ofInt 32 0 = 0#32 := rfl
  rw [e0]
  by_cases hw : w = 0#32
  · rw [decide_eq_true hw]
    subst hw
    have : ∀ n, flp (putT t) p 0#32 n = putT t := by
      intro n
      induction n with
      | zero => rfl
      | succ n ih => unfold flp; rw [if_neg (by simp), ih]
    rw [this, getB_put h]
  · rw [decide_eq_false hw]
    cases hb : getB (flp (putT t) p w 32) with
    | false => rfl
    | true =>
      exfalso
      obtain ⟨h1, h2, h3⟩ := getB_right hb
      have hg : (getT (flp (putT t) p w 32)).gen = t.gen := by
        have e1 : (getT (flp (putT t) p w 32)).gen = leN (((flp (putT t) p w 32).drop 1).take 4) := by rw [getT_yes hb]; rfl
        have e2 : t.gen = leN (((putT t).drop 1).take 4) := by
          have := congrArg Tab.gen (get_put h)
          rw [← this]; rfl
        rw [e1, e2]
        congr 1
        have key : ∀ n i, i < 5 → (flp (putT t) p w n)[i]? = (putT t)[i]? := by
          intro n
          induction n with
          | zero => intro i _; rfl
          | succ n ih =>
            intro i hi
            unfold flp
            split
            · unfold flip1; rw [List.getElem?_set_ne (by omega), ih i hi]
            · exact ih i hi
        apply List.ext_getElem?
        intro i
        rw [List.getElem?_take, List.getElem?_take]
        split
        · rw [List.getElem?_drop, List.getElem?_drop, key _ _ (by omega)]
        · rfl
      have h4 := put_res h3
      rw [h2, hg] at h4
      have h5 := rb_dif (fun x => flp_bit (l := putT t) (p := p) (x := x) w 32 (by rw [hl]; omega)) (reg0 t.gen) 512
      rw [h4, put_res h] at h5
      apply hw
      refine dif_end hp2 ?_
      have h6 : ∀ A B : BitVec 32, A = A ^^^ B → B = 0#32 := by
        intro A B e
        have := congrArg (fun z => A ^^^ z) e
        simpa [← BitVec.xor_assoc] using this.symm
      exact h6 _ _ h5

section
variable {R : Program} {U : Env} {w0 : World} {L0 L : List Res} {ty T Y : TypeId} {x y : Operand}
theorem e_xor8 {a b : UInt8} (hx : opv U x = some (.int .u8 (a.toNat : Int))) (hy : opv U y = some (.int .u8 (b.toNat : Int))) : Ev R U w0 L0 L (.binOp .xor T x y Y) ty (Is (.int .u8 ((a ^^^ b).toNat : Int))) No :=
  (e_xor hx hy).cast (by
    have h1 : BitVec.ofInt 8 (a.toNat : Int) = BitVec.ofNat 8 a.toNat := rfl
    have ha := a.toNat_lt
    have hb := b.toNat_lt
    show Value.int .u8 (IntKind.u8.wrap ((BitVec.ofInt 8 (a.toNat : Int) ^^^ BitVec.ofInt 8 (b.toNat : Int)).toNat : Int)) = _
    rw [BitVec.ofInt_natCast, BitVec.ofInt_natCast, BitVec.toNat_xor, BitVec.toNat_ofNat, BitVec.toNat_ofNat, Nat.mod_eq_of_lt (by omega), Nat.mod_eq_of_lt (by omega), UInt8.toNat_xor, wrap_u8 (by omega) (by have := Nat.xor_lt_two_pow (n := 8) ha hb; omega)])
end
theorem shl8 : ∀ j < 8, IntKind.u8.wrap ((1 : Int) * 2 ^ (min ((j : Nat) : Int).toNat IntKind.u8.bits)) = (((1 : UInt8) <<< UInt8.ofNat j).toNat : Int) := by decide
theorem flp_yes {l : Bytes} {p : Nat} {w : BitVec 32} {x : Nat} {q : UInt8} (h : (w >>> x) &&& 1#32 = 1#32) (hq : (flp l p w x)[(p + x) / 8]? = some q) : flp l p w (x + 1) = (flp l p w x).set ((p + x) / 8) (fl1 q ((p + x) % 8)) := by
  rw [show flp l p w (x + 1) = if (w >>> x) &&& 1#32 = 1#32 then flip1 (flp l p w x) (p + x) else flp l p w x from rfl, if_pos h]
  unfold flip1
  rw [hq]; rfl
theorem flp_no {l : Bytes} {p : Nat} {w : BitVec 32} {x : Nat} (h : ¬ (w >>> x) &&& 1#32 = 1#32) : flp l p w (x + 1) = flp l p w x := by
  rw [show flp l p w (x + 1) = if (w >>> x) &&& 1#32 = 1#32 then flip1 (flp l p w x) (p + x) else flp l p w x from rfl, if_neg h]
theorem putT_right {t : Tab} (h : (putT t).length = 64) : RightP t := by
  rcases putT_cases t with ⟨_, h1, _⟩ | ⟨_, h1⟩
  · exact h1
  · omega
theorem burst_eq {t : Tab} (h : RightP t) {p : Nat} (hp : 40 ≤ p) (hp2 : p + 32 ≤ 512) (w : BitVec 32) : decide (getB (flp (putT t) p w 32) = decide (w = BitVec.ofInt 32 0)) = true := by rw [burst h hp hp2 w]; simp
/- turntable/turntablelaw09.TableBursts -/
set_option maxHeartbeats 8000000 in
set_option maxRecDepth 100000 in
theorem bursts_con {t : Tab} {n : Nat} {w1 : BitVec 32} {a : Option Addr} {c : Nat} {w : World} (hl : t.exts.length ≤ 9223372036854775807) (hn16 : n < 65536) [Old w [] a (encX) (t.exts)] :
    Calls Try.prog 10 #[.agg (tabC t a c).toArray, .int .u16 (n : Int), .int .u32 ((w1).toNat : Int)] w fun e w' => e = .returned (.bool true) ∧ Tr w [] w' [] := by
  refine K.enter0 (args := [_, _, _]) Try.func10 rfl Try.ntmps10 rfl ?_
  refine K.GC.seq ?_
  refine K.GC.region ?_
  refine K.GL.box rfl rfl rfl (fun b3 => ?_)
  refine K.GL.det (K.e_assign rfl) rfl ?_
  refine K.GL.nil ?_
  refine K.GQ.go ?_
  refine K.GC.seq ?_
  refine K.GC.region ?_
  refine K.GL.det (ev_head_con Try.call26 rfl ) rfl ?_
  refine K.GL.det (K.e_assign rfl) rfl ?_
  refine K.GL.nil ?_
  refine K.GQ.go ?_
  refine K.GC.seq ?_
  refine K.GC.region ?_
  first | refine K.GL.det (K.e_ldA Try.isAgg29 Try.sizeOf29 rfl rfl (by assumption)) rfl ?_ | refine K.GL.det (K.e_ldAF Try.isAgg29 Try.sizeOf29 rfl rfl (by assumption) rfl) rfl ?_ | refine K.GL.det (K.e_loads Try.isAgg29 Try.sizeOf29 rfl rfl) rfl ?_
  refine gl_tput_con Try.call31 rfl (by first | assumption | omega | rfl | decide) rfl (fun a15 c15 hc15 => ?_)
  refine K.GL.det (K.e_assign rfl) rfl ?_
  refine K.GL.nil ?_
  refine K.GQ.go ?_
  refine K.GC.seq ?_
  refine K.GC.seq ?_
  refine K.GC.region ?_
  refine K.GL.det (K.e_move rfl) rfl ?_
  refine K.GL.det (K.e_len Try.underlying37 rfl) rfl ?_
  first | refine K.GL.det ((K.e_ne rfl rfl).yes (by first | omega | assumption | decide +kernel)) rfl ?_ | refine K.GL.det ((K.e_ne rfl rfl).no (by first | omega | assumption | decide +kernel)) rfl ?_ | refine K.GL.det (K.e_ne rfl rfl) rfl ?_
  refine K.GL.nil ?_
  refine K.GQ.go ?_
  refine K.GC.condB rfl (fun h1 => ?_) (fun h1 => ?_)
  · first
    | exact absurd h1 (by decide)
    | try replace h1 := of_decide_eq_true h1
      refine K.GC.seq ?_
      refine K.GC.region ?_
      refine K.GL.det (K.e_move rfl) rfl ?_
      refine K.GL.det (K.e_assign rfl) rfl ?_
      refine K.GL.nil ?_
      refine K.GQ.go ?_
      refine K.GC.ret ?_
      refine K.GQ.then_ret ?_
      refine K.GQ.ret1 Try.results10 rfl (fun w hT => ?_)
      exact ⟨rfl, hT.nil⟩
  · first
    | exact absurd h1 (by decide)
    | try replace h1 := of_decide_eq_false h1
      refine K.GC.skip ?_
      refine K.GQ.go ?_
      refine K.GC.seq ?_
      have hP : RightP t := putT_right (by omega)
      have hpl : (putT t).length = 64 := by omega
      refine K.GC.region ?_
      refine K.GL.det (K.e_move rfl) rfl ?_
      first | refine K.GL.det (K.e_conv Try.underlying23 Try.underlying3 rfl (K.wrap_i64 (by omega) (by omega))) rfl ?_ | refine K.GL.det (K.e_convw Try.underlying23 Try.underlying3 rfl) rfl ?_
      refine K.GL.det (K.e_rem rfl rfl (by omega) (by omega) (by omega)) rfl ?_
      refine K.GL.det ((K.e_add rfl rfl ⟨by omega, by omega⟩).cast_int (b := ((40 + n % 441 : Nat) : Int)) (by omega)) rfl ?_
      refine K.GL.det (K.e_assign rfl) rfl ?_
      refine K.GL.nil ?_
      refine K.GQ.go ?_
      refine K.GC.seq ?_
      refine K.GC.seq ?_
      have hp40 : 40 ≤ 40 + n % 441 := by omega
      have hp512 : 40 + n % 441 + 32 ≤ 512 := by omega
      generalize 40 + n % 441 = p at hp40 hp512 ⊢
      refine K.GC.region ?_
      refine K.GL.det (K.e_assign rfl) rfl ?_
      refine K.GL.nil ?_
      refine K.GQ.go ?_
      refine K.GC.block ?_
      refine K.GC.loopk (α := Nat) [2, 6, 7, 8, 9, 11, 12, 52, 53, 54, 55, 56, 57, 58, 59, 60, 61, 62, 63] rfl (fun x => [(10, .int .i64 (x : Int))]) (fun x => [trow a15 c15 108 encB (flp (putT t) p w1 x), cl b3 29 (tabC t a c)]) (fun x => x ≤ 32) (fun x => (32 - x)) 0 (Nat.zero_le _) (by first | ((repeat refine ⟨rfl, ?_⟩); exact trivial) | (simp only [List.take_zero, List.map_nil, List.flatMap_nil, List.append_nil]; (repeat refine ⟨rfl, ?_⟩); exact trivial)) (K.Sub.refl _) (fun x hI => ?_)
      refine K.GC.seq ?_
      refine K.GC.seq ?_
      refine K.GC.region ?_
      refine K.GL.det (K.e_move rfl) rfl ?_
      first | refine K.GL.det ((K.e_lt rfl rfl).yes (by first | omega | assumption | decide +kernel)) rfl ?_ | refine K.GL.det ((K.e_lt rfl rfl).no (by first | omega | assumption | decide +kernel)) rfl ?_ | refine K.GL.det (K.e_lt rfl rfl) rfl ?_
      refine K.GL.nil ?_
      refine K.GQ.go ?_
      refine K.GC.condB rfl (fun h2 => ?_) (fun h2 => ?_)
      · first
        | exact absurd h2 (by decide)
        | try replace h2 := of_decide_eq_true h2
          refine K.GC.skip ?_
          refine K.GQ.go ?_
          refine K.GC.seq ?_
          refine K.GC.block ?_
          refine K.GC.seq ?_
          have hfl := flp_len (putT t) p w1 x
          refine K.GC.region ?_
          refine K.GL.det (K.e_move rfl) rfl ?_
          refine K.GL.det (K.e_move rfl) rfl ?_
          refine K.GL.det (K.e_shr32 (r := w1) rfl rfl) rfl ?_
          refine K.GL.det (e_rem2 rfl rfl) rfl ?_
          refine K.GL.det (K.e_eql32 rfl rfl) rfl ?_
          refine K.GL.nil ?_
          refine K.GQ.go ?_
          refine K.GC.condB rfl (fun h3 => ?_) (fun h3 => ?_)
          · first
            | exact absurd h3 (by decide)
            | try replace h3 := of_decide_eq_true h3
              obtain ⟨q, hq⟩ : ∃ q, (flp (putT t) p w1 x)[(p + x) / 8]? = some q := get_ex (by omega)
              refine K.D.GC.drawn0 19 [[], [], [], [1, 2], [1, 2, 3], [], [], [], [6, 7], [6, 7, 8], [5, 6, 7, 8, 9], [5, 6, 7, 8, 9, 10], [], [], [12, 13], [12, 13, 14], [12, 13, 14, 15], [5, 6, 7, 8, 9, 10, 11, 12, 13, 14, 15, 16], [0, 1, 2, 3, 4, 5, 6, 7, 8, 9, 10, 11, 12, 13, 14, 15, 16, 17], [0, 1, 2, 3, 4, 5, 6, 7, 8, 9, 10, 11, 12, 13, 14, 15, 16, 17, 18]] [[], [], [], [1, 2], [3], [], [], [], [6, 7], [8], [5, 9], [10], [], [], [12, 13], [14], [15], [11, 16], [0, 4]] [[], [], [], [], [], [], [], [], [], [], [], [], [], [], [], [], [], [], []] [[], [], [], [], [], [], [], [], [], [], [], [], [], [], [], [], [], [], []] [] [2, 6, 7, 8, 9, 10, 11, 12, 24, 25, 26, 27, 28, 29, 30, 31, 32, 52, 53, 54, 55, 56, 57, 58, 59, 60, 61, 62, 63] (by kernel_rfl) (by kernel_rfl) (by kernel_rfl) rfl ?_
              refine K.D.DW.det (b := []) (u := []) rfl rfl rfl (fun vs hf => K.e_move rfl) ?_
              refine K.D.DW.det (b := []) (u := []) rfl rfl rfl (fun vs hf => K.e_move rfl) ?_
              refine K.D.DW.det (b := []) (u := []) rfl rfl rfl (fun vs hf => K.e_move rfl) ?_
              first | refine K.D.DW.det (b := [1, 2]) (u := []) rfl rfl rfl (fun vs hf => K.e_add rfl rfl ⟨by omega, by omega⟩) ?_ | refine K.D.DW.det (b := [1, 2]) (u := []) rfl rfl rfl (fun vs hf => K.e_addw rfl rfl) ?_
              refine K.D.DW.det (b := [3]) (u := []) rfl rfl rfl (fun vs hf => (K.e_quo rfl rfl (by omega) (by omega) (by omega)).cast_int (b := (((p + x) / 8 : Nat) : Int)) (by omega)) ?_
              refine K.D.DW.det (b := []) (u := []) rfl rfl rfl (fun vs hf => K.e_move rfl) ?_
              refine K.D.DW.det (b := []) (u := []) rfl rfl rfl (fun vs hf => K.e_move rfl) ?_
              refine K.D.DW.det (b := []) (u := []) rfl rfl rfl (fun vs hf => K.e_move rfl) ?_
              first | refine K.D.DW.det (b := [6, 7]) (u := []) rfl rfl rfl (fun vs hf => K.e_add rfl rfl ⟨by omega, by omega⟩) ?_ | refine K.D.DW.det (b := [6, 7]) (u := []) rfl rfl rfl (fun vs hf => K.e_addw rfl rfl) ?_
              refine K.D.DW.det (b := [8]) (u := []) rfl rfl rfl (fun vs hf => (K.e_quo rfl rfl (by omega) (by omega) (by omega)).cast_int (b := (((p + x) / 8 : Nat) : Int)) (by omega)) ?_
              refine K.D.DW.det (b := [5, 9]) (u := []) rfl rfl rfl (fun vs hf => K.e_ixN (l := flp (putT t) p w1 x) (j := (p + x) / 8) sl37 rfl rfl rfl hfl.symm (by omega)) ?_
              first | refine K.D.DW.det (b := [10]) (u := []) rfl rfl rfl (fun vs hf => K.e_ldE Try.isAgg5 rfl rfl (by assumption) rfl) ?_ | refine K.D.DW.det (b := [10]) (u := []) rfl rfl rfl (fun vs hf => K.e_ldF Try.isAgg5 rfl rfl (by assumption) rfl) ?_ | refine K.D.DW.det (b := [10]) (u := []) rfl rfl rfl (fun vs hf => K.e_load Try.isAgg5 rfl rfl) ?_ | refine K.D.DW.det (b := [10]) (u := []) rfl rfl rfl (fun vs hf => K.e_load0 Try.isAgg5 rfl (by assumption)) ?_
              refine K.D.DW.det (b := []) (u := []) rfl rfl rfl (fun vs hf => K.e_move rfl) ?_
              refine K.D.DW.det (b := []) (u := []) rfl rfl rfl (fun vs hf => K.e_move rfl) ?_
              first | refine K.D.DW.det (b := [12, 13]) (u := []) rfl rfl rfl (fun vs hf => K.e_add rfl rfl ⟨by omega, by omega⟩) ?_ | refine K.D.DW.det (b := [12, 13]) (u := []) rfl rfl rfl (fun vs hf => K.e_addw rfl rfl) ?_
              refine K.D.DW.det (b := [14]) (u := []) rfl rfl rfl (fun vs hf => (K.e_rem rfl rfl (by omega) (by omega) (by omega)).cast_int (b := (((p + x) % 8 : Nat) : Int)) (by omega)) ?_
              refine K.D.DW.det (b := [15]) (u := []) rfl rfl rfl (fun vs hf => (K.e_shl rfl rfl (by omega)).cast_int (b := (((1 : UInt8) <<< UInt8.ofNat ((p + x) % 8)).toNat : Int)) (shl8 _ (Nat.mod_lt _ (by omega)))) ?_
              refine K.D.DW.det (b := [11, 16]) (u := []) rfl rfl rfl (fun vs hf => e_xor8 rfl rfl) ?_
              refine K.D.DW.det (b := [0, 4]) (u := []) rfl rfl rfl (fun vs hf => K.e_ixN (l := flp (putT t) p w1 x) (j := (p + x) / 8) sl37 rfl rfl rfl hfl.symm (by omega)) ?_
              refine K.D.DW.fin (fun vs hf => ?_)
              refine K.GL.keep [2, 6, 7, 8, 9, 10, 11, 12, 24, 25, 26, 27, 28, 29, 30, 31, 32, 33, 34, 35, 36, 37, 38, 39, 40, 41, 42, 43, 44, 45, 46, 47, 48, 49, 50, 51, 52, 53, 54, 55, 56, 57, 58, 59, 60, 61, 62, 63] rfl ?_
              refine K.D.GL.res0 rfl ?_
              clear hf
              try clear vs
              refine K.GL.storeT (fl1 q ((p + x) % 8)) rfl rfl rfl Try.sizeOf5 rfl (by omega) ?_
              refine K.GL.nil ?_
              refine K.GQ.block_normal ?_
              refine K.GQ.go ?_
              refine K.GC.region ?_
              refine K.GL.det (K.e_move rfl) rfl ?_
              first | refine K.GL.det (K.e_add rfl rfl ⟨by omega, by omega⟩) rfl ?_ | refine K.GL.det (K.e_addw rfl rfl) rfl ?_
              refine K.GL.det (K.e_assign rfl) rfl ?_
              refine K.GL.nil ?_
              first
                | (have hf := flp_yes (x := x) (by assumption) hq
                   exact K.GQ.round (x + 1) (by omega) (by omega) (by (repeat refine ⟨rfl, ?_⟩); exact trivial) (by rw [hf]; exact K.sb))
                | (have hf := flp_no (l := putT t) (p := p) (x := x) (by assumption)
                   exact K.GQ.round (x + 1) (by omega) (by omega) (by (repeat refine ⟨rfl, ?_⟩); exact trivial) (by rw [hf]; exact K.sb))
          · first
            | exact absurd h3 (by decide)
            | try replace h3 := of_decide_eq_false h3
              refine K.GC.skip ?_
              refine K.GQ.block_normal ?_
              refine K.GQ.go ?_
              refine K.GC.region ?_
              refine K.GL.det (K.e_move rfl) rfl ?_
              first | refine K.GL.det (K.e_add rfl rfl ⟨by omega, by omega⟩) rfl ?_ | refine K.GL.det (K.e_addw rfl rfl) rfl ?_
              refine K.GL.det (K.e_assign rfl) rfl ?_
              refine K.GL.nil ?_
              first
                | (have hf := flp_yes (x := x) (by assumption) hq
                   exact K.GQ.round (x + 1) (by omega) (by omega) (by (repeat refine ⟨rfl, ?_⟩); exact trivial) (by rw [hf]; exact K.sb))
                | (have hf := flp_no (l := putT t) (p := p) (x := x) (by assumption)
                   exact K.GQ.round (x + 1) (by omega) (by omega) (by (repeat refine ⟨rfl, ?_⟩); exact trivial) (by rw [hf]; exact K.sb))
      · first
        | exact absurd h2 (by decide)
        | try replace h2 := of_decide_eq_false h2
          refine K.GC.exit ?_
          refine K.GQ.then_exit ?_
          refine K.GQ.then_exit ?_
          refine K.GQ.block_hit ?_
          refine K.GQ.go ?_
          refine K.GC.seq ?_
          obtain rfl : x = 32 := by omega
          have hfl := flp_len (putT t) p w1 32
          refine K.GC.capT a15 (fun hcap => ?_)
          have e15 : (putT t).length = (flp (putT t) p w1 32).length := hfl.symm
          rw [e15]
          refine K.GC.region ?_
          refine K.GL.det (K.e_move rfl) rfl ?_
          refine gl_tget_con Try.call27 rfl (by first | assumption | omega | rfl | decide) (by first | assumption | omega | rfl | decide) rfl (fun a54 c54 => ?_)
          refine K.GL.det (K.e_move rfl) rfl ?_
          refine K.GL.det (K.e_extract rfl rfl) rfl ?_
          refine K.GL.det (K.e_extract rfl rfl) rfl ?_
          refine K.GL.alloc Try.zeroValue29 rfl rfl (fun b11 => ?_)
          refine K.GL.storeP (vs := tabC (getT (flp (putT t) p w1 32)) a54 c54) (cs' := tabC (getT (flp (putT t) p w1 32)) a54 c54) rfl rfl rfl Try.sizeOf29 rfl rfl (by exact spliceO_all rfl) ?_
          refine K.GL.det (K.e_assign rfl) rfl ?_
          refine K.GL.nil ?_
          refine K.GQ.go ?_
          refine K.GC.seq ?_
          refine K.GC.region ?_
          refine K.GL.det (K.e_move rfl) rfl ?_
          refine K.GL.det (K.e_move rfl) rfl ?_
          first | refine K.GL.splitB 58 rfl (fun h4 => ?_) (fun h4 => ?_) | skip
          all_goals first | exact absurd h4 (by decide) | replace h4 := of_decide_eq_true h4 | replace h4 := of_decide_eq_false h4 | skip
          all_goals
            first | (refine K.GL.want 58 rfl rfl rfl ?_; first | refine K.GL.det (K.e_move rfl) rfl ?_) | refine K.GL.skip 58 rfl rfl rfl rfl ?_ | refine K.GL.skipU 58 rfl rfl rfl rfl ?_
            first | (refine K.GL.want 58 rfl rfl rfl ?_; first | refine K.GL.det (K.e_move rfl) rfl ?_) | refine K.GL.skip 58 rfl rfl rfl rfl ?_ | refine K.GL.skipU 58 rfl rfl rfl rfl ?_
            first | (refine K.GL.want 58 rfl rfl rfl ?_; first | refine K.GL.det (K.e_eql32 (r := w1) rfl rfl) rfl ?_) | refine K.GL.skip 58 rfl rfl rfl rfl ?_ | refine K.GL.skipU 58 rfl rfl rfl rfl ?_
            first | (refine K.GL.want 58 rfl rfl rfl ?_; first | refine K.GL.det ((K.e_eqb Try.underlying4 rfl rfl).cast_bool (b := true) (burst_eq hP hp40 hp512 w1)) rfl ?_) | refine K.GL.skip 58 rfl rfl rfl rfl ?_ | refine K.GL.skipU 58 rfl rfl rfl rfl ?_
            first | refine K.GL.det (K.e_pick_t rfl rfl) rfl ?_ | refine K.GL.det (K.e_pick_f rfl rfl) rfl ?_
            refine K.GL.det (K.e_assign rfl) rfl ?_
            refine K.GL.nil ?_
            refine K.GQ.go ?_
            refine K.GC.ret ?_
            refine K.GQ.ret1 Try.results10 rfl (fun w hT => ?_)
            exact ⟨rfl, hT.nil⟩
section
variable {ops : Array Oper} {Q : Exit → Act → World → Prop} {N : Nat} {U : Env} {w0 : World} {L0 L F : List Res} {ty : TypeId} {rest : List Oper} {pos : String} {after : Array Edge} {xs : List Operand} {tys : Array TypeId} {dT : Tmp}
theorem ev_bursts_con {t : Tab} {n : Nat} {w1 : BitVec 32} {a : Option Addr} {c : Nat} (hf : ∀ args w, (callFunc 10 args).run Try.prog w = .ok (.enter 10 args) w) (hx : opvs U xs = some [.agg (tabC t a c).toArray, .int .u16 (n : Int), .int .u32 ((w1).toNat : Int)]) (hl : t.exts.length ≤ 9223372036854775807) (hn16 : n < 65536) [o0 : RdC w0 L0 [] L a (encX) (t.exts)] : Ev Try.prog U w0 L0 L (.call ⟨.value (.func 10), xs.toArray, tys⟩) ty (Is (.bool true)) No :=
  K.e_call1 hf hx (fun w hT => by have _o0 := o0.out w hT; exact bursts_con hl hn16)
end

set_option maxHeartbeats 1000000 in
set_option maxRecDepth 100000 in
theorem TableBursts_lifted (os : Os) (started : os.Started) (H : Type) (enc : TypeId × Value → H) :
    ReturnsInHanded {} Try.checked os 10 .any (Rows.tableBurstsSpec.pre6 enc Try.prog Try.f10 Rows.tableBurstsRow.domain false) (Rows.tableBurstsSpec.post enc Try.prog Try.f10 false true false false) := by
  refine returnsInHanded_of_change_sized (C := Try.checked) own started (by kernel_rfl) Try.func10
    (ChangeSpec.witness6 (enc := enc) (C := Try.checked) false ⟨#[], #[.agg #[.int .i64 0, .int .i64 0, .slice none 0 0], .int .u16 0, .int .u32 0], []⟩ 8 (by kernel_rfl) (by kernel_rfl) (by kernel_rfl) (by kernel_rfl)) ?_
  intro W base args ds gs before hval0 hW _ hsz0 _
  have hval : ∀ (j : Nat) t v, Try.f10.params[j]? = some t → args[j]? = some v → Value.okWide Try.prog W .any base t v := hval0
  have hsz : (DataW.weightsEach Try.prog (Try.f10.params.toList ++ []) (ds ++ gs)).all (· ≤ reachBytes) = true := hsz0
  have hW' := hW
  obtain ⟨p, q, hA0, hV, hpe, hfz, hnd⟩ := hW
  have hA : DataW.TrodAll enc Try.prog W 0 (fun _ => true) true Try.f10.params.toList args.toList ds p := hA0
  obtain ⟨rfl, rfl⟩ := trodVars_none hV
  rw [Try.params10] at hA hval hsz
  obtain ⟨v0, vs0, d0, ds0, p0, q0, hargs, rfl, rfl, h0, r0⟩ := trodAll_cons hA
  obtain ⟨v1, vs1, d1, ds1, p1, q1, rfl, rfl, rfl, h1, r1⟩ := trodAll_cons r0
  obtain ⟨v2, vs2, d2, ds2, p2, q2, rfl, rfl, rfl, h2, r2⟩ := trodAll_cons r1
  obtain ⟨rfl, rfl, rfl⟩ := trodAll_nil r2
  obtain rfl : args = #[v0, v1, v2] := by cases args; simp_all
  clear hA0 hval0 hsz0 hA hargs
  obtain ⟨csz, rfl, _⟩ := okWide_struct Try.underlying29 (hval 0 29 _ rfl rfl)
  obtain ⟨fuelz, hfz⟩ := h0
  obtain ⟨tz, az, cz, hcsz, hnz, hcz, hoz⟩ := open_tab _ _ _ hfz
  unfold maxLen at hnz
  obtain rfl : csz = (tabC tz az cz).toArray := by
    have : csz.toList = tabC tz az cz := by simpa [Value.cells] using hcsz
    rw [← this]
  obtain ⟨x, rfl, rfl, rfl, wx⟩ := open_int Try.underlying23 (hval 1 23 _ rfl rfl) h1
  have hbx := bounds_u16 wx
  obtain ⟨nx, rfl⟩ := Int.eq_ofNat_of_zero_le hbx.1
  obtain ⟨y, rfl, rfl, rfl, wy⟩ := open_int Try.underlying47 (hval 2 47 _ rfl rfl) h2
  have hby := bounds_u32 wy
  obtain ⟨ny, rfl⟩ := Int.eq_ofNat_of_zero_le hby.1
  have ey : ((ny : Nat) : Int) = ((BitVec.ofNat 32 ny).toNat : Int) := by rw [BitVec.toNat_ofNat, Nat.mod_eq_of_lt (by omega)]
  have core : Calls Try.prog 10 #[.agg (tabC tz az cz).toArray, .int .u16 (nx : Int), .int .u32 (ny : Int)] W fun e W' => e = .returned (.bool true) ∧ Tr W [] W' [] := by
    have h := bursts_con (w := W) (t := tz) (n := nx) (w1 := BitVec.ofNat 32 ny) (a := az) (c := cz) hnz (by omega)
    rw [← ey] at h
    exact h
  exact core.mono fun e W' ⟨he, hT⟩ => ⟨_, he, law_post (tb := 4) hW' rfl rfl Try.underlying4 (fun _ => rfl) laidOut (by kernel_rfl) hT.below⟩
theorem TableBursts_holds : Rows.TableBurstsSaid :=
  OpenClaim.holds_of_wide 10 Try.f10 rfl rfl rfl rfl rfl rfl rfl ⟨rfl, rfl, rfl, rfl, rfl⟩ rfl rfl rfl rfl rfl (by kernel_rfl) Try.func10 (by kernel_rfl)
    (of_decide_eq_true (by kernel_rfl)) (by unfold Func.isWrapper; first | (rw [if_pos (by decide +kernel)]; kernel_rfl) | (rw [if_neg (by decide +kernel)]; exact ⟨rfl, rfl⟩))
    (fun os started H enc _ => TableBursts_lifted os started H enc)

end Go.Proofs.Ytdbedajaapamhaa
