/- A Boot as a caller meets it; what is kept through it, and what is loaded then. -/
import Derived.Test.YtdbedajaapamhaaGreatSuH
import Derived.Test.YtdbedajaapamhaaGreatSuB
namespace Go.Proofs.YtdbedajaapamhaaGreat
open Go Go.K
set_option linter.unusedVariables false
set_option linter.unusedSimpArgs false
attribute [local irreducible] Calls Ev GL GC GQ GR Code.wp

def encHX : Enc HX := ⟨encH, 3, by decide, encH_len, fun _ => rfl⟩

theorem encT_fl : ∀ ks : List Bool, encT.fl ks = ks.map .bool
  | [] => rfl
  | b :: ks => by show _ :: encT.fl ks = _; rw [encT_fl ks]; rfl

def intl (l : List Nat) : List Int := l.map fun (i : Nat) => (i : Int)

theorem intl_length (l : List Nat) : (intl l).length = l.length := List.length_map ..

theorem I6_fl : ∀ l : List Nat, I6.fl (intl l) = ints l
  | [] => rfl
  | i :: l => by show _ :: I6.fl (intl l) = _; rw [I6_fl l]; rfl

theorem Tr.belowW {w w' : World} {L : List Res} (h : Tr w [wildR] w' L) : RowKit.Below w.heap.size w w' := ⟨h.os, h.tape, h.output, h.size, fun b hb => h.frame b hb fun r hr => by
  simp only [List.mem_singleton] at hr
  subst hr
  exact id⟩

theorem disj1W : Disj [wildR] := Disj.one _

theorem ok1W {h : Array Obj} : ∀ r ∈ ([wildR] : List Res), r.ok h := fun r hr => by
  simp only [List.mem_singleton] at hr
  subst hr
  trivial

instance oldW {α : Type} {w : World} {a : Option Addr} {e : Enc α} {l : List α} [h : Old w [] a e l] : Old w [wildR] a e l := ⟨h.sl, fun _ r hr => by
  simp only [List.mem_singleton] at hr
  subst hr
  exact id⟩
/- (*turntable/dev.Dev).Boot -/
theorem dboot_con {d : Nat} {g : DG} {s : DS} {ak ah : Option Addr} {ck ch : Nat} {ks : List Bool} {hs : List HX} {w : World} (hk : g.Ok) (hv : g.v = s) (hb : ∀ h ∈ hs, h.bits < 4294967296) (hnh : hs.length ≤ 9223372036854775807) [Old w [DevR d g, wildR] ak (encT) (ks)] [Old w [DevR d g, wildR] ah (encHX) (hs)] (hd : Disj [DevR d g, wildR]) (ho : ∀ r ∈ ([DevR d g, wildR] : List Res), r.ok w.heap) :
    Calls Tryz.prog 12 #[.pointer (some ⟨d, 0, none⟩), .slice ak ks.length ck, .slice ah hs.length ch] w fun e w' => ∃ g' : DG, e = .returned (.tuple #[]) ∧ g'.Ok ∧ g'.v = s.boot ks hs ∧ Tr w [DevR d g, wildR] w' [DevR d g', wildR] := by
  subst hv
  have hK : Old w [DevR d g, wildR] ak encT ks := inferInstance
  have hH : Old w [DevR d g, wildR] ah encHX hs := inferInstance
  have h1 := hK.sl
  rw [encT_fl] at h1
  refine (boot_con hk (ho _ List.mem_cons_self) h1 (fun h0 => hK.ap (by intro e; subst e; exact absurd h0 (by decide)) _ List.mem_cons_self) hH.sl (fun h0 => hH.ap (by intro e; subst e; exact absurd h0 (by decide)) _ List.mem_cons_self) hb hnh).mono fun e w' ⟨x, h1, h2, h3, h4⟩ => ⟨x, h1, h2, h3, h4⟩
section
variable {ops : Array Oper} {Q : Exit → Act → World → Prop} {N : Nat} {U : Env} {w0 : World} {L0 L F : List Res} {ty : TypeId} {rest : List Oper} {pos : String} {after : Array Edge} {xs : List Operand} {tys : Array TypeId} {dT : Tmp}
theorem gl_dboot_con {d : Nat} {g : DG} {s : DS} {ak ah : Option Addr} {ck ch : Nat} {ks : List Bool} {hs : List HX}  {F1 : List Res} {F2 : List Res}(hf : ∀ args w, (callFunc 12 args).run Tryz.prog w = .ok (.enter 12 args) w) (hx : opvs U xs = some [.pointer (some ⟨d, 0, none⟩), .slice ak ks.length ck, .slice ah hs.length ch]) [p1 : PkD L d g F1] [p2 : Pk F1 wildR F2] (hk : g.Ok) (hv : g.v = s) (hb : ∀ h ∈ hs, h.bits < 4294967296) (hnh : hs.length ≤ 9223372036854775807) [o0 : RdC w0 L0 [DevR d g, wildR] F2 ak (encT) (ks)] [o1 : RdC w0 L0 [DevR d g, wildR] F2 ah (encHX) (hs)] (hd : Nat.ble (dT + 1) N = true)
    (hr : ∀ (g' : DG), g'.Ok → g'.v = s.boot ks hs → GL Tryz.prog ops Q rest N ((dT, .tuple #[]) :: U) w0 L0 (DevR d g' :: wildR :: F2)) : GL Tryz.prog ops Q (⟨some dT, .call ⟨.value (.func 12), xs.toArray, tys⟩, ty, pos, after, Option.none⟩ :: rest) N U w0 L0 L :=
  GL.callM (α := (DG)) (l := [DevR d g, wildR]) (Pv := fun y v => v = .tuple #[] ∧ y.Ok ∧ y.v = s.boot ks hs) (l' := fun y => [DevR d y, wildR]) hf hx (((p2.out).cons _).trans p1.out)
    (fun w hT => by
      have hT1 : Tr w0 L0 w ([DevR d g, wildR] ++ F2) := hT.sub (((p2.out).cons _).trans p1.out); have _o0 := o0.out w hT1; have _o1 := o1.out w hT1; have hd0 := Disj.left hT1.disj; have ho0 := fun r hr => hT1.ok r (List.mem_append_left _ hr); exact (dboot_con hk hv hb hnh hd0 ho0).mono fun e w' ⟨g', h1, g0, g1, h2⟩ => ⟨(g'), _, h1, ⟨rfl, g0, g1⟩, h2⟩) hd fun y v hv => by obtain ⟨rfl, g0, g1⟩ := hv; exact hr y g0 g1
end
/- (*turntable/dev.Dev).Loose -/
theorem dloose_con {d : Nat} {g : DG} {s : DS} {w : World} (hk : g.Ok) (hv : g.v = s) (hd2 : (DevR d g).ok w.heap) (hd : Disj [wildR]) (ho : ∀ r ∈ ([wildR] : List Res), r.ok w.heap) :
    Calls Tryz.prog 22 #[.pointer (some ⟨d, 0, none⟩)] w fun e w' => ∃ a' : Option Addr, ∃ c' : Nat, e = .returned (.slice a' (intl s.list).length c') ∧ Tr w [wildR] w' [wildR, trow a' c' 3 I6 (intl s.list)] := by
  subst hv
  refine (loose_con hk hd2).mono fun e w' ⟨a, c, h1, h2⟩ => ⟨a, c, by rw [h1, intl_length], ?_⟩
  unfold trow
  rw [I6_fl]
  exact h2
section
variable {ops : Array Oper} {Q : Exit → Act → World → Prop} {N : Nat} {U : Env} {w0 : World} {L0 L F : List Res} {ty : TypeId} {rest : List Oper} {pos : String} {after : Array Edge} {xs : List Operand} {tys : Array TypeId} {dT : Tmp}
theorem gl_dloose_con {d : Nat} {g : DG} {s : DS}  {F1 : List Res}(hf : ∀ args w, (callFunc 22 args).run Tryz.prog w = .ok (.enter 22 args) w) (hx : opvs U xs = some [.pointer (some ⟨d, 0, none⟩)]) [p1 : Pk L wildR F1] (hk : g.Ok) (hv : g.v = s) [i0 : InD w0 L0 (wildR :: F1) d g] (hd : Nat.ble (dT + 1) N = true)
    (hr : ∀ (a' : Option Addr) (c' : Nat), GL Tryz.prog ops Q rest N ((dT, .slice a' (intl s.list).length c') :: U) w0 L0 (wildR :: trow a' c' 3 I6 (intl s.list) :: F1)) : GL Tryz.prog ops Q (⟨some dT, .call ⟨.value (.func 22), xs.toArray, tys⟩, ty, pos, after, Option.none⟩ :: rest) N U w0 L0 L :=
  GL.callM (α := (Option Addr) × (Nat)) (l := [wildR]) (Pv := fun y v => v = .slice y.1 (intl s.list).length y.2) (l' := fun y => [wildR, trow y.1 y.2 3 I6 (intl s.list)]) hf hx (p1.out)
    (fun w hT => by
      have hT1 : Tr w0 L0 w ([wildR] ++ F1) := hT.sub (p1.out); have hd0 := Disj.left hT1.disj; have ho0 := fun r hr => hT1.ok r (List.mem_append_left _ hr); exact (dloose_con hk hv (i0.out w hT1) hd0 ho0).mono fun e w' ⟨a', c', h1, h2⟩ => ⟨(a', c'), _, h1, rfl, h2⟩) hd fun y v hv => by subst hv; exact hr y.1 y.2 
end

/-! ### A run of bits turned over -/

def bitl (l : Bytes) (x : Nat) : BitVec 32 := bitq (BitVec.ofNat 32 ((l[x / 8]?).getD 0).toNat) (x % 8)

theorem rb_bitl (l : Bytes) (r : BitVec 32) (x : Nat) : rb l r (x + 1) = stepb (rb l r x) (bitl l x) := rfl

theorem bitq_xor (a b : BitVec 32) (j : Nat) : bitq (a ^^^ b) j = bitq a j ^^^ bitq b j := by
  unfold bitq
  rw [BitVec.ushiftRight_xor_distrib]
  ext i; simp [Bool.and_xor_distrib_right]

theorem bitq_one : ∀ j < 8, ∀ i < 8, bitq (BitVec.ofNat 32 (1 <<< j)) i = if i = j then 1#32 else 0#32 := by decide

theorem sh8_toNat : ∀ j < 8, ((1 : UInt8) <<< (UInt8.ofNat j)).toNat = 1 <<< j := by decide

/-- One bit of a byte turned over. -/

def fl1 (q : UInt8) (j : Nat) : UInt8 := q ^^^ ((1 : UInt8) <<< (UInt8.ofNat j))

theorem fl1_bit (q : UInt8) {i j : Nat} (hi : i < 8) (hj : j < 8) : bitq (BitVec.ofNat 32 (fl1 q j).toNat) i = bitq (BitVec.ofNat 32 q.toNat) i ^^^ (if i = j then 1#32 else 0#32) := by
  unfold fl1
  rw [UInt8.toNat_xor, sh8_toNat j hj, BitVec.ofNat_xor, bitq_xor, bitq_one j hj i hi]

def flip1 (l : Bytes) (k : Nat) : Bytes := l.set (k / 8) (fl1 ((l[k / 8]?).getD 0) (k % 8))

theorem flip1_len (l : Bytes) (k : Nat) : (flip1 l k).length = l.length := List.length_set

theorem flip1_bit {l : Bytes} {k x : Nat} (hk : k / 8 < l.length) : bitl (flip1 l k) x = bitl l x ^^^ (if x = k then 1#32 else 0#32) := by
  unfold bitl flip1
  rcases Nat.decEq (x / 8) (k / 8) with h | h
  · rw [List.getElem?_set_ne (by omega), if_neg (by intro e; subst e; exact h rfl), BitVec.xor_zero]
  · rw [h, List.getElem?_set_self hk, Option.getD_some, fl1_bit _ (Nat.mod_lt _ (by omega)) (Nat.mod_lt _ (by omega))]
    congr 1
    have e : (x % 8 = k % 8) ↔ (x = k) := by omega
    simp only [e]

def flp (l : Bytes) (p : Nat) (w : BitVec 32) : Nat → Bytes
  | 0 => l
  | x + 1 => if (w >>> x) &&& 1#32 = 1#32 then flip1 (flp l p w x) (p + x) else flp l p w x

theorem flp_len (l : Bytes) (p : Nat) (w : BitVec 32) : ∀ x, (flp l p w x).length = l.length
  | 0 => rfl
  | x + 1 => by
    unfold flp
    split
    · rw [flip1_len, flp_len l p w x]
    · exact flp_len l p w x

def inw (p n : Nat) (w : BitVec 32) (x : Nat) : BitVec 32 := if p ≤ x ∧ x < p + n then bitq w (x - p) else 0#32

theorem flp_bit {l : Bytes} {p : Nat} (w : BitVec 32) {x : Nat} : ∀ n, p + n ≤ 8 * l.length → bitl (flp l p w n) x = bitl l x ^^^ inw p n w x
  | 0, _ => by unfold inw; rw [if_neg (by omega), BitVec.xor_zero]; rfl
  | n + 1, hn => by
    have ih := flp_bit (l := l) (p := p) (x := x) w n (by omega)
    have hb : bitq w n = 1#32 ∨ bitq w n = 0#32 := (low_cases (w >>> n)).symm
    have key : inw p (n + 1) w x = inw p n w x ^^^ (if x = p + n then bitq w n else 0#32) := by
      unfold inw
      by_cases h1 : x = p + n
      · subst h1
        rw [if_pos (by omega), if_neg (by omega), if_pos rfl, Nat.add_sub_cancel_left, BitVec.zero_xor]
      · rw [if_neg h1, BitVec.xor_zero]
        by_cases h2 : p ≤ x ∧ x < p + n
        · rw [if_pos h2, if_pos (by omega)]
        · rw [if_neg h2, if_neg (by omega)]
    rw [key, ← BitVec.xor_assoc, ← ih, show flp l p w (n + 1) = if (w >>> n) &&& 1#32 = 1#32 then flip1 (flp l p w n) (p + n) else flp l p w n from rfl]
    split
    · rename_i h
      rw [flip1_bit (by rw [flp_len]; omega)]
      have h2 : bitq w n = 1#32 := h
      rw [h2]
    · rename_i h
      have h2 : bitq w n = 0#32 := hb.resolve_left h
      rw [h2]; simp

/-- What two registers differ in. -/

def dif (p : Nat) (w : BitVec 32) : Nat → BitVec 32
  | 0 => 0#32
  | x + 1 => S1 (dif p w x ^^^ inw p 32 w x)

theorem bitl_01 (l : Bytes) (x : Nat) : bitl l x = 0#32 ∨ bitl l x = 1#32 := low_cases _

theorem rb_dif {l m : Bytes} {p : Nat} {w : BitVec 32} (h : ∀ x, bitl m x = bitl l x ^^^ inw p 32 w x) (r : BitVec 32) : ∀ x, rb m r x = rb l r x ^^^ dif p w x
  | 0 => by rw [dif, BitVec.xor_zero]; rfl
  | x + 1 => by
    rw [rb_bitl, rb_bitl, stepb_eq _ _ (bitl_01 m x), stepb_eq _ _ (bitl_01 l x), rb_dif h r x, h x, dif, ← S1_xor]
    congr 1
    generalize rb l r x = A; generalize dif p w x = B; generalize bitl l x = C; generalize inw p 32 w x = D
    ext i; simp; cases A[i] <;> cases B[i] <;> cases C[i] <;> cases D[i] <;> rfl

theorem S1_zero : S1 0#32 = 0#32 := by decide

theorem dif_before (p : Nat) (w : BitVec 32) : ∀ x, x ≤ p → dif p w x = 0#32
  | 0, _ => rfl
  | x + 1, hx => by
    rw [dif, dif_before p w x (by omega)]
    unfold inw
    rw [if_neg (by omega), BitVec.xor_zero, S1_zero]

theorem dif_in (p : Nat) (w : BitVec 32) : ∀ j, j ≤ 32 → dif p w (p + j) = steps w 0#32 j
  | 0, _ => dif_before p w p (Nat.le_refl _)
  | j + 1, hj => by
    rw [← Nat.add_assoc, dif, dif_in p w j (by omega), steps]
    unfold inw
    rw [if_pos (by omega), Nat.add_sub_cancel_left, show bitq w j = (w >>> j) &&& 1#32 from rfl, stepb_eq _ _ (low_cases _)]

theorem dif_after (p : Nat) (w : BitVec 32) : ∀ k, dif p w (p + 32 + k) = Sn k (dif p w (p + 32))
  | 0 => rfl
  | k + 1 => by
    rw [← Nat.add_assoc, dif, dif_after p w k, Sn]
    unfold inw
    rw [if_neg (by omega), BitVec.xor_zero]

theorem dif_window (p : Nat) (w : BitVec 32) : dif p w (p + 32) = Sn 32 w := by
  have h := steps_eq w 0#32 32
  have hz : w >>> 32 = 0#32 := by
    apply BitVec.eq_of_toNat_eq
    have := w.isLt
    rw [BitVec.toNat_ushiftRight, Nat.shiftRight_eq_div_pow, Nat.div_eq_of_lt (by omega)]; rfl
  rw [hz, BitVec.xor_zero, BitVec.zero_xor] at h
  rw [dif_in p w 32 (Nat.le_refl _), h]

theorem S1_inj {r : BitVec 32} (h : S1 r = 0#32) : r = 0#32 := by
  rw [S1_def] at h
  rcases low_cases r with hr | hr
  · rw [if_neg (by rw [hr]; decide), BitVec.xor_zero] at h
    have h2 := low_split r
    rw [hr, h] at h2
    rw [h2]; decide
  · rw [if_pos hr] at h
    exfalso
    have h2 : ((r >>> 1) ^^^ poly).getLsbD 31 = false := by rw [h]; decide
    rw [BitVec.getLsbD_xor, BitVec.getLsbD_ushiftRight] at h2
    have h3 : r.getLsbD (1 + 31) = false := BitVec.getLsbD_of_ge r 32 (by omega)
    rw [h3] at h2
    exact absurd h2 (by decide)

theorem Sn_inj : ∀ (k : Nat) {r : BitVec 32}, Sn k r = 0#32 → r = 0#32
  | 0, _, h => h
  | k + 1, _, h => Sn_inj k (S1_inj h)

theorem dif_end {p : Nat} {w : BitVec 32} (hp : p + 32 ≤ 512) (h : dif p w 512 = 0#32) : w = 0#32 := by
  obtain ⟨k, hk⟩ : ∃ k, 512 = p + 32 + k := ⟨480 - p, by omega⟩
  rw [hk, dif_after, dif_window] at h
  exact Sn_inj 32 (Sn_inj k h)

/-! ### The register behind a whole sector -/

theorem crc8_low (r n : BitVec 32) (b : UInt8) (hb : ∀ j < 8, bitq n j = bitq (BitVec.ofNat 32 b.toNat) j) : crc8 r b ^^^ (n >>> 8) = Sn 8 (r ^^^ n) := by
  rw [← steps8, ← steps_eq n r 8]
  have : ∀ j ≤ 8, steps (BitVec.ofNat 32 b.toNat) r j = steps n r j := by
    intro j
    induction j with
    | zero => intro _; rfl
    | succ j ih => intro hj; rw [steps, steps, ih (by omega), hb j (by omega)]
  rw [this 8 (Nat.le_refl _)]

theorem low_bits (n : BitVec 32) : ∀ j < 8, bitq n j = bitq (BitVec.ofNat 32 (UInt8.ofNat n.toNat).toNat) j := by
  intro j hj
  unfold bitq
  apply BitVec.eq_of_toNat_eq
  have h1 : 1 % 2 ^ 32 = 1 := by decide
  rw [BitVec.toNat_and, BitVec.toNat_and, BitVec.toNat_ushiftRight, BitVec.toNat_ushiftRight, UInt8.toNat_ofNat']
  simp only [BitVec.toNat_ofNat]
  rw [h1, Nat.and_one_is_mod, Nat.and_one_is_mod, Nat.shiftRight_eq_div_pow, Nat.shiftRight_eq_div_pow]
  have h2 : n.toNat % 2 ^ 8 % 2 ^ 32 = n.toNat % 2 ^ 8 := by have := n.isLt; omega
  rw [h2]
  have h3 : ∀ i < 8, ∀ m : Nat, m / 2 ^ i % 2 = m % 2 ^ 8 / 2 ^ i % 2 := by
    intro i hi m
    rcases (by omega : i = 0 ∨ i = 1 ∨ i = 2 ∨ i = 3 ∨ i = 4 ∨ i = 5 ∨ i = 6 ∨ i = 7) with h | h | h | h | h | h | h | h <;> subst h <;> omega
  exact h3 j hj _

theorem f4_end (R n : BitVec 32) : (f4 n).foldl crc8 R = Sn 32 (R ^^^ n) := by
  have e : ∀ x, Sn 32 x = Sn 8 (Sn 8 (Sn 8 (Sn 8 x))) := fun _ => rfl
  have hs : ∀ a b : Nat, n >>> a >>> b = n >>> (a + b) := fun a b => BitVec.eq_of_toNat_eq (by rw [BitVec.toNat_ushiftRight, BitVec.toNat_ushiftRight, BitVec.toNat_ushiftRight, Nat.shiftRight_add])
  have hz : n >>> 32 = 0#32 := by
    apply BitVec.eq_of_toNat_eq
    have := n.isLt
    rw [BitVec.toNat_ushiftRight, Nat.shiftRight_eq_div_pow, Nat.div_eq_of_lt (by omega)]; rfl
  rw [e, ← crc8_low R n _ (low_bits n), ← crc8_low _ (n >>> 8) _ (low_bits (n >>> 8)), hs, ← crc8_low _ (n >>> 16) _ (low_bits (n >>> 16)), hs, ← crc8_low _ (n >>> 24) _ (low_bits (n >>> 24)), hs, hz, BitVec.xor_zero]
  rfl

def reg0 (g : Int) : BitVec 32 := (f4 (seq32 g) ++ [b8 255]).foldl crc8 (~~~0#32)

theorem put_res {t : Tab} (h : RightP t) : rb (putT t) (reg0 t.gen) 512 = Sn 32 (BitVec.allOnes 32) := by
  have hl := putT_len ((right_iff t).2 h)
  have h1 := rb_all (putT t) (reg0 t.gen)
  rw [hl] at h1
  rw [h1, putT_eq h, List.foldl_append, f4_end]
  have h59 : (tbody t).length ≤ 59 := by rw [tbody_len]; have := h.n2; omega
  have e : sumOf t.gen 255 (cbody (tbody t)) = ~~~((cbody (tbody t)).foldl crc8 (reg0 t.gen)) := by
    unfold sumOf crcM reg0
    rw [List.take_of_length_le (by rw [cbody_len h59]; omega), List.foldl_append]
  rw [e]
  congr 1
  generalize (cbody (tbody t)).foldl crc8 (reg0 t.gen) = R
  apply BitVec.eq_of_getLsbD_eq
  intro i hi
  rw [BitVec.getLsbD_xor, BitVec.getLsbD_not, BitVec.getLsbD_allOnes]
  cases R.getLsbD i <;> simp [hi]

theorem burst {t : Tab} (h : RightP t) {p : Nat} (hp : 40 ≤ p) (hp2 : p + 32 ≤ 512) (w : BitVec 32) : getB (flp (putT t) p w 32) = decide (w = BitVec.ofInt 32 0) := by
  have hl := putT_len ((right_iff t).2 h)
  have e0 : BitVec.ofInt 32 0 = 0#32 := rfl
  rw [e0]
  by_cases hw : w = 0#32
  · rw [decide_eq_true hw]
    subst hw
    have : ∀ n, flp (putT t) p 0#32 n = putT t := by
      intro n
      induction n with
      | zero => rfl
      | succ n ih => unfold flp; rw [if_neg (by simp), ih]
    rw [this, getB_put h]
  · rw [decide_eq_false hw]
    cases hb : getB (flp (putT t) p w 32) with
    | false => rfl
    | true =>
      exfalso
      obtain ⟨h1, h2, h3⟩ := getB_right hb
      have hg : (getT (flp (putT t) p w 32)).gen = t.gen := by
        have e1 : (getT (flp (putT t) p w 32)).gen = leN (((flp (putT t) p w 32).drop 1).take 4) := by rw [getT_yes hb]; rfl
        have e2 : t.gen = leN (((putT t).drop 1).take 4) := by
          have := congrArg Tab.gen (get_put h)
          rw [← this]; rfl
        rw [e1, e2]
        congr 1
        have key : ∀ n i, i < 5 → (flp (putT t) p w n)[i]? = (putT t)[i]? := by
          intro n
          induction n with
          | zero => intro i _; rfl
          | succ n ih =>
            intro i hi
            unfold flp
            split
            · unfold flip1; rw [List.getElem?_set_ne (by omega), ih i hi]
            · exact ih i hi
        apply List.ext_getElem?
        intro i
        rw [List.getElem?_take, List.getElem?_take]
        split
        · rw [List.getElem?_drop, List.getElem?_drop, key _ _ (by omega)]
        · rfl
      have h4 := put_res h3
      rw [h2, hg] at h4
      have h5 := rb_dif (fun x => flp_bit (l := putT t) (p := p) (x := x) w 32 (by rw [hl]; omega)) (reg0 t.gen) 512
      rw [h4, put_res h] at h5
      apply hw
      refine dif_end hp2 ?_
      have h6 : ∀ A B : BitVec 32, A = A ^^^ B → B = 0#32 := by
        intro A B e
        have := congrArg (fun z => A ^^^ z) e
        simpa [← BitVec.xor_assoc] using this.symm
      exact h6 _ _ h5


theorem DS.list_mem {s : DS} {i : Nat} : i ∈ s.list ↔ i < s.kept.length ∧ (s.loose i).isSome = true := by
  unfold DS.list
  rw [List.mem_filter, List.mem_range]

theorem DS.list_len (s : DS) : s.list.length ≤ s.kept.length := by
  unfold DS.list
  exact Nat.le_trans (List.length_filter_le _ _) (by simp)

def DS.kp (s : DS) (ks : List Bool) (m i : Nat) : Prop := ∃ k, k < m ∧ s.list[k]? = some i ∧ ks[k]? = some true

theorem DS.boot_len (s : DS) (ks : List Bool) (hs : List HX) : (s.boot ks hs).kept.length = s.kept.length := hurts_length s ks hs

/-! What turns in a sector that is hurt. -/

/-! ### What is kept of a device, and what a Boot gives -/

structure Dw (n : Nat) (s : DS) (f k : Nat → Bytes) : Prop where
  dv : Dv n s f
  kp : ∀ j, j < n → (s.K j).1 = k j

theorem Dw.new (n : Nat) : Dw n (DS.new n) (fun _ => zer) (fun _ => zer) := ⟨Dv.new n, fun j hj => by
  unfold DS.K DS.new
  simp only
  rw [List.getElem?_replicate, if_pos hj]; rfl⟩

theorem Dw.write {n : Nat} {s : DS} {f k : Nat → Bytes} (h : Dw n s f k) {i : Nat} (hi : i < n) {l : Bytes} (hl : l.length = 64) : (s.write (i : Int) l).2 = 0 ∧ Dw n (s.write (i : Int) l).1 (upd f i l) k := by
  obtain ⟨h1, h2⟩ := h.dv.write hi hl
  refine ⟨h1, h2, fun j hj => ?_⟩
  have h3 := (h.dv.up.write hi ⟨l, hl⟩).2.2.1 j
  show ((s.write (i : Int) l).1.K j).1 = _
  rw [h3]; exact h.kp j hj

theorem Dw.save {n : Nat} {s : DS} {f k : Nat → Bytes} (h : Dw n s f k) (hn : 2 ≤ n) {t : Tab} (hR : RightP t) : (s.save t).2 = 0 ∧ Dw n (s.save t).1 (upd f (t.gen % 2).toNat (putT t)) (upd f (t.gen % 2).toNat (putT t)) ∧ ∀ j, (s.save t).1.loose j = none := by
  obtain ⟨h1, h2⟩ := h.dv.save hn hR
  have hr := (right_iff t).2 hR
  obtain ⟨g1, g2⟩ := h.dv.flush
  have hi : (t.gen % 2).toNat < n := by omega
  have he : (((t.gen % 2).toNat : Nat) : Int) = t.gen % 2 := by omega
  obtain ⟨g3, g4⟩ := g2.write hi (putT_len hr)
  rw [he] at g3 g4
  have e : s.save t = (s.flush.1.write (t.gen % 2) (putT t)).1.flush := by
    unfold DS.save DS.save3
    rw [if_pos hr, if_neg (by rw [g1]; simp), if_neg (by rw [g3]; simp)]
  have g5 := g4.up.flush
  rw [← e] at g5
  refine ⟨h1, ⟨h2, fun j hj => ?_⟩, g5.2.2.2.2⟩
  rw [g5.2.2.1 j hj]
  exact g4.at_ j hj

/-! ### Bits that turn in a table's sector -/

theorem flp_front (w : BitVec 32) (l : Bytes) (p : Nat) : ∀ n, flp l p w (n + 1) = flp (if w &&& 1#32 = 1#32 then flip1 l p else l) (p + 1) (w >>> 1) n
  | 0 => by
    show (if (w >>> 0) &&& 1#32 = 1#32 then flip1 l (p + 0) else l) = _
    rw [BitVec.ushiftRight_zero, Nat.add_zero]; rfl
  | n + 1 => by
    have ih := flp_front w l p n
    show (if (w >>> (n + 1)) &&& 1#32 = 1#32 then flip1 (flp l p w (n + 1)) (p + (n + 1)) else flp l p w (n + 1)) = (if ((w >>> 1) >>> n) &&& 1#32 = 1#32 then flip1 (flp _ (p + 1) (w >>> 1) n) (p + 1 + n) else flp _ (p + 1) (w >>> 1) n)
    rw [ih, ← BitVec.shiftRight_add, Nat.add_comm 1 n, Nat.add_assoc p 1 n, Nat.add_comm 1 n]

theorem flp_zero (l : Bytes) (p : Nat) : ∀ n, flp l p 0#32 n = l
  | 0 => rfl
  | n + 1 => by
    show (if (0#32 >>> n) &&& 1#32 = 1#32 then _ else flp l p 0#32 n) = l
    rw [if_neg (by simp), flp_zero l p n]

theorem flipS_flip (x : Sec) (a w : Nat) (hw : w < 4294967296) : (flipS x a w).1 = if BitVec.ofNat 32 w &&& 1#32 = 1#32 then flip1 x.1 a else x.1 := by
  have hx := x.2
  have hb : (BitVec.ofNat 32 w &&& 1#32 = 1#32) ↔ w % 2 = 1 := by
    rw [← BitVec.toNat_inj, BitVec.toNat_and]
    simp only [BitVec.toNat_ofNat, Nat.reducePow, Nat.reduceMod]
    rw [Nat.and_one_is_mod]; omega
  have hj : a % 8 < 8 := Nat.mod_lt _ (by omega)
  have hv : ∀ v : UInt8, xorB v.toNat (1 * 2 ^ (a % 8) % 256) = fl1 v (a % 8) := by
    intro v
    have hp : ∀ j < 8, BitVec.ofInt 8 ((1 * 2 ^ j % 256 : Nat) : Int) = ((1 : UInt8) <<< (UInt8.ofNat j)).toBitVec := by decide
    unfold xorB fl1
    rw [hp _ hj]
    apply UInt8.toNat_inj.1
    rw [UInt8.toNat_ofNat', UInt8.toNat_xor]
    rw [BitVec.toNat_xor]
    have e1 : (BitVec.ofInt 8 (v.toNat : Int)).toNat = v.toNat := by
      have := v.toNat_lt
      rw [BitVec.toNat_ofInt]; omega
    rw [e1]
    rw [Nat.mod_eq_of_lt]
    · rfl
    · exact Nat.xor_lt_two_pow (n := 8) v.toNat_lt (((1 : UInt8) <<< (UInt8.ofNat (a % 8))).toNat_lt)
  have hv0 : ∀ v : UInt8, xorB v.toNat (0 * 2 ^ (a % 8) % 256) = v := by
    intro v
    have e0 : (0 * 2 ^ (a % 8) % 256 : Nat) = 0 := by rw [Nat.zero_mul]
    unfold xorB
    rw [e0]
    apply UInt8.toNat_inj.1
    have := v.toNat_lt
    rw [UInt8.toNat_ofNat', BitVec.toNat_xor, BitVec.toNat_ofInt, BitVec.toNat_ofInt]
    simp
    omega
  by_cases h : w % 2 = 1
  · rw [if_pos (hb.2 h)]
    show x.1.set (a / 8) (xorB (x.1[a / 8]?.getD 0).toNat ((w % 2) * 2 ^ (a % 8) % 256)) = _
    rw [h, hv]
    rfl
  · rw [if_neg (fun h2 => h (hb.1 h2))]
    show x.1.set (a / 8) (xorB (x.1[a / 8]?.getD 0).toNat ((w % 2) * 2 ^ (a % 8) % 256)) = _
    rw [show w % 2 = 0 by omega, hv0]
    refine List.ext_getElem? fun m => ?_
    by_cases hm : a / 8 = m
    · subst hm
      by_cases hlt : a / 8 < x.1.length
      · rw [List.getElem?_set_self hlt, List.getElem?_eq_getElem hlt]; rfl
      · rw [List.getElem?_eq_none (by rw [List.length_set]; omega), List.getElem?_eq_none (by omega)]
    · rw [List.getElem?_set_ne hm]

theorem turnS_flp : ∀ (n : Nat) (x : Sec) (a w : Nat), w < 2 ^ n → n ≤ 32 → a + n ≤ 512 → (turnS x a w).1 = flp x.1 a (BitVec.ofNat 32 w) n
  | 0, x, a, w, hw, _, _ => by
    rw [turnS_end (by simp at hw; omega)]; rfl
  | n + 1, x, a, w, hw, hn, ha => by
    have hp : 2 ^ (n + 1) ≤ 2 ^ 32 := Nat.pow_le_pow_right (by omega) hn
    have hw32 : w < 4294967296 := Nat.lt_of_lt_of_le hw hp
    by_cases h0 : w = 0
    · subst h0
      rw [turnS_end (by omega)]
      exact (flp_zero _ _ _).symm
    · rw [turnS_go ⟨h0, by omega⟩, turnS_flp n _ _ _ (by rw [Nat.pow_succ] at hw; omega) (by omega) (by omega), flp_front, flipS_flip x a w hw32]
      congr 1
      rw [← BitVec.toNat_inj, BitVec.toNat_ushiftRight]
      simp only [BitVec.toNat_ofNat, Nat.reducePow]
      rw [Nat.mod_eq_of_lt hw32, Nat.mod_eq_of_lt (by omega)]
      rfl

theorem turned {t : Tab} (h : RightP t) (y : Sec) (hy : y.1 = putT t) {a w : Nat} (ha : 40 ≤ a) (ha2 : a ≤ 480) (hw : w < 4294967296) : (turnS y a w).1 = putT t ∨ getB (turnS y a w).1 = false := by
  rw [turnS_flp 32 y a w hw (Nat.le_refl _) (by omega), hy]
  by_cases h0 : w = 0
  · left; rw [h0]; exact flp_zero _ _ _
  · right
    rw [burst h ha (by omega)]
    apply decide_eq_false
    intro e
    apply h0
    have := congrArg BitVec.toNat e
    simp at this
    omega

/-! ### Of two tables one is loaded -/

theorem ld1_bad {b : Bytes} (hb : getB b = false) (i : Nat) (best : Tab) : ld1 b i best = best := by
  unfold ld1
  rw [if_neg (fun h => by rw [hb] at h; exact absurd h.1 (by decide))]

theorem ldF_old {o : Tab} (ho : RightP o) {f : Nat → Bytes} (h1 : f (o.gen % 2).toNat = putT o) (h2 : getB (f (1 - (o.gen % 2).toNat)) = false) : ldF f = o := by
  have hg := ho.g1
  unfold ldF
  rcases (by omega : o.gen % 2 = 0 ∨ o.gen % 2 = 1) with hp | hp
  · rw [hp] at h1 h2
    have h1' : f 0 = putT o := h1
    have h2' : getB (f 1) = false := h2
    rw [ld1_bad h2', h1', ld1_put ho hp (by show (0 : Int) < o.gen; omega)]
  · rw [hp] at h1 h2
    have h1' : f 1 = putT o := h1
    have h2' : getB (f 0) = false := h2
    rw [ld1_bad h2', h1', ld1_put ho hp (by show (0 : Int) < o.gen; omega)]

/-! ### A Save in which power fails -/

structure Held (s s' : DS) (t : Tab) : Prop where
  len : s'.kept.length = s.kept.length
  K : ∀ j, j < s.kept.length → s'.K j = s.K j
  L : ∀ j, s'.loose j = none ∨ (RightP t ∧ (j : Int) = t.gen % 2 ∧ ∃ y : Sec, s'.loose j = some y ∧ y.1 = putT t)

def blk (q : UInt8) : Bytes := List.replicate 64 q

/-! ### What is written ahead of a Save -/

def fbl (l : Bytes) (x : Nat) : Nat → Bytes := fun j => if 2 ≤ j ∧ j < 2 + x then blk ((l[j - 2]?).getD 0) else zer

theorem fbl_low (l : Bytes) (x : Nat) {j : Nat} (h : j < 2) : fbl l x j = zer := by unfold fbl; rw [if_neg (by omega)]

abbrev kbl (l : Bytes) (t : Tab) : Nat → Bytes := upd (fbl l l.length) (t.gen % 2).toNat (putT t)

theorem kbl_load {l : Bytes} {t : Tab} (hR : RightP t) : ldF (kbl l t) = t := by
  refine ldF_old hR ?_ ?_
  · unfold kbl upd; rw [if_pos rfl]
  · unfold kbl upd
    rw [if_neg (by omega), fbl_low l _ (by omega)]
    exact zeros_bad

theorem Dv.kbl {s : DS} {l : Bytes} {t : Tab} (h : Dv 20 s (kbl l t)) (hR : RightP t) : s.load = (t, true, 0) := by
  have hg := hR.g1
  rw [h.load (by decide), kbl_load hR, decide_eq_true (by omega : 0 < t.gen)]
end Go.Proofs.YtdbedajaapamhaaGreat
