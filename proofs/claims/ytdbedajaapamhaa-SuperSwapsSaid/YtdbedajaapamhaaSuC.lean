/- A Boot as a caller meets it; what is kept through it, and what is loaded then. -/
import Derived.Test.YtdbedajaapamhaaSuH
import Derived.Test.YtdbedajaapamhaaSuB
namespace Go.Proofs.Ytdbedajaapamhaa
open Go Go.K
set_option linter.unusedVariables false
set_option linter.unusedSimpArgs false
attribute [local irreducible] Calls Ev GL GC GQ GR Code.wp
def encHX : Enc HX := ⟨encH, 3, by decide, encH_len, fun _ => rfl⟩
theorem encT_fl : ∀ ks : List Bool, encT.fl ks = ks.map .bool
  | [] => rfl
  | b :: ks => by show _ :: encT.fl ks = _; rw [encT_fl ks]; rfl
def intl (l : List Nat) : List Int := l.map fun (i : Nat) => (i : Int)
theorem intl_length (l : List Nat) : (intl l).length = l.length := List.length_map ..
theorem I6_fl : ∀ l : List Nat, I6.fl (intl l) = ints l
  | [] => rfl
  | i :: l => by show _ :: I6.fl (intl l) = _; rw [I6_fl l]; rfl
theorem Tr.belowW {w w' : World} {L : List Res} (h : Tr w [wildR] w' L) : RowKit.Below w.heap.size w w' := ⟨h.os, h.tape, h.output, h.size, fun b hb => h.frame b hb fun r hr => by
  simp only [List.mem_singleton] at hr
  subst hr
  exact id⟩
theorem disj1W : Disj [wildR] := Disj.one _
theorem ok1W {h : Array Obj} : ∀ r ∈ ([wildR] : List Res), r.ok h := fun r hr => by
  simp only [List.mem_singleton] at hr
  subst hr
  trivial
instance oldW {α : Type} {w : World} {a : Option Addr} {e : Enc α} {l : List α} [h : Old w [] a e l] : Old w [wildR] a e l := ⟨h.sl, fun _ r hr => by
  simp only [List.mem_singleton] at hr
  subst hr
  exact id⟩
/- (*turntable/dev.Dev).Boot -/
theorem dboot_con {d : Nat} {g : DG} {s : DS} {ak ah : Option Addr} {ck ch : Nat} {ks : List Bool} {hs : List HX} {w : World} (hk : g.Ok) (hv : g.v = s) (hb : ∀ h ∈ hs, h.bits < 4294967296) (hnh : hs.length ≤ 9223372036854775807) [Old w [DevR d g, wildR] ak (encT) (ks)] [Old w [DevR d g, wildR] ah (encHX) (hs)] (hd : Disj [DevR d g, wildR]) (ho : ∀ r ∈ ([DevR d g, wildR] : List Res), r.ok w.heap) :
    Calls Try.prog 23 #[.pointer (some ⟨d, 0, none⟩), .slice ak ks.length ck, .slice ah hs.length ch] w fun e w' => ∃ g' : DG, e = .returned (.tuple #[]) ∧ g'.Ok ∧ g'.v = s.boot ks hs ∧ Tr w [DevR d g, wildR] w' [DevR d g', wildR] := by
  subst hv
  have hK : Old w [DevR d g, wildR] ak encT ks := inferInstance
  have hH : Old w [DevR d g, wildR] ah encHX hs := inferInstance
  have h1 := hK.sl
  rw [encT_fl] at h1
  refine (boot_con hk (ho _ List.mem_cons_self) h1 (fun h0 => hK.ap (by intro e; subst e; exact absurd h0 (by decide)) _ List.mem_cons_self) hH.sl (fun h0 => hH.ap (by intro e; subst e; exact absurd h0 (by decide)) _ List.mem_cons_self) hb hnh).mono fun e w' ⟨x, h1, h2, h3, h4⟩ => ⟨x, h1, h2, h3, h4⟩
section
variable {ops : Array Oper} {Q : Exit → Act → World → Prop} {N : Nat} {U : Env} {w0 : World} {L0 L F : List Res} {ty : TypeId} {rest : List Oper} {pos : String} {after : Array Edge} {xs : List Operand} {tys : Array TypeId} {dT : Tmp}
theorem gl_dboot_con {d : Nat} {g : DG} {s : DS} {ak ah : Option Addr} {ck ch : Nat} {ks : List Bool} {hs : List HX}  {F1 : List Res} {F2 : List Res}(hf : ∀ args w, (callFunc 23 args).run Try.prog w = .ok (.enter 23 args) w) (hx : opvs U xs = some [.pointer (some ⟨d, 0, none⟩), .slice ak ks.length ck, .slice ah hs.length ch]) [p1 : PkD L d g F1] [p2 : Pk F1 wildR F2] (hk : g.Ok) (hv : g.v = s) (hb : ∀ h ∈ hs, h.bits < 4294967296) (hnh : hs.length ≤ 9223372036854775807) [o0 : RdC w0 L0 [DevR d g, wildR] F2 ak (encT) (ks)] [o1 : RdC w0 L0 [DevR d g, wildR] F2 ah (encHX) (hs)] (hd : Nat.ble (dT + 1) N = true)
    (hr : ∀ (g' : DG), g'.Ok → g'.v = s.boot ks hs → GL Try.prog ops Q rest N ((dT, .tuple #[]) :: U) w0 L0 (DevR d g' :: wildR :: F2)) : GL Try.prog ops Q (⟨some dT, .call ⟨.value (.func 23), xs.toArray, tys⟩, ty, pos, after, Option.none⟩ :: rest) N U w0 L0 L :=
  GL.callM (α := (DG)) (l := [DevR d g, wildR]) (Pv := fun y v => v = .tuple #[] ∧ y.Ok ∧ y.v = s.boot ks hs) (l' := fun y => [DevR d y, wildR]) hf hx (((p2.out).cons _).trans p1.out)
    (fun w hT => by
      have hT1 : Tr w0 L0 w ([DevR d g, wildR] ++ F2) := hT.sub (((p2.out).cons _).trans p1.out); have _o0 := o0.out w hT1; have _o1 := o1.out w hT1; have hd0 := Disj.left hT1.disj; have ho0 := fun r hr => hT1.ok r (List.mem_append_left _ hr); exact (dboot_con hk hv hb hnh hd0 ho0).mono fun e w' ⟨g', h1, g0, g1, h2⟩ => ⟨(g'), _, h1, ⟨rfl, g0, g1⟩, h2⟩) hd fun y v hv => by obtain ⟨rfl, g0, g1⟩ := hv; exact hr y g0 g1
end
/- (*turntable/dev.Dev).Loose -/
theorem dloose_con {d : Nat} {g : DG} {s : DS} {w : World} (hk : g.Ok) (hv : g.v = s) (hd2 : (DevR d g).ok w.heap) (hd : Disj [wildR]) (ho : ∀ r ∈ ([wildR] : List Res), r.ok w.heap) :
    Calls Try.prog 48 #[.pointer (some ⟨d, 0, none⟩)] w fun e w' => ∃ a' : Option Addr, ∃ c' : Nat, e = .returned (.slice a' (intl s.list).length c') ∧ Tr w [wildR] w' [wildR, trow a' c' 3 I6 (intl s.list)] := by
  subst hv
  refine (loose_con hk hd2).mono fun e w' ⟨a, c, h1, h2⟩ => ⟨a, c, by rw [h1, intl_length], ?_⟩
  unfold trow
  rw [I6_fl]
  exact h2
section
variable {ops : Array Oper} {Q : Exit → Act → World → Prop} {N : Nat} {U : Env} {w0 : World} {L0 L F : List Res} {ty : TypeId} {rest : List Oper} {pos : String} {after : Array Edge} {xs : List Operand} {tys : Array TypeId} {dT : Tmp}
theorem gl_dloose_con {d : Nat} {g : DG} {s : DS}  {F1 : List Res}(hf : ∀ args w, (callFunc 48 args).run Try.prog w = .ok (.enter 48 args) w) (hx : opvs U xs = some [.pointer (some ⟨d, 0, none⟩)]) [p1 : Pk L wildR F1] (hk : g.Ok) (hv : g.v = s) [i0 : InD w0 L0 (wildR :: F1) d g] (hd : Nat.ble (dT + 1) N = true)
    (hr : ∀ (a' : Option Addr) (c' : Nat), GL Try.prog ops Q rest N ((dT, .slice a' (intl s.list).length c') :: U) w0 L0 (wildR :: trow a' c' 3 I6 (intl s.list) :: F1)) : GL Try.prog ops Q (⟨some dT, .call ⟨.value (.func 48), xs.toArray, tys⟩, ty, pos, after, Option.none⟩ :: rest) N U w0 L0 L :=
  GL.callM (α := (Option Addr) × (Nat)) (l := [wildR]) (Pv := fun y v => v = .slice y.1 (intl s.list).length y.2) (l' := fun y => [wildR, trow y.1 y.2 3 I6 (intl s.list)]) hf hx (p1.out)
    (fun w hT => by
      have hT1 : Tr w0 L0 w ([wildR] ++ F1) := hT.sub (p1.out); have hd0 := Disj.left hT1.disj; have ho0 := fun r hr => hT1.ok r (List.mem_append_left _ hr); exact (dloose_con hk hv (i0.out w hT1) hd0 ho0).mono fun e w' ⟨a', c', h1, h2⟩ => ⟨(a', c'), _, h1, rfl, h2⟩) hd fun y v hv => by subst hv; exact hr y.1 y.2 
end
/-! ### A run of bits turned over -/
def bitl (l : Bytes) (x : Nat) : BitVec 32 := bitq (BitVec.ofNat 32 ((l[x / 8]?).getD 0).toNat) (x % 8)
theorem rb_bitl (l : Bytes) (r : BitVec 32) (x : Nat) : rb l r (x + 1) = stepb (rb l r x) (bitl l x) := rfl
theorem bitq_xor (a b : BitVec 32) (j : Nat) : bitq (a ^^^ b) j = bitq a j ^^^ bitq b j := by
  unfold bitq
  rw [BitVec.ushiftRight_xor_distrib]
  ext i; simp [Bool.and_xor_distrib_right]
theorem bitq_one : ∀ j < 8, ∀ i < 8, bitq (BitVec.ofNat 32 (1 <<< j)) i = if i = j then 1#32 else 0#32 := by decide
theorem sh8_toNat : ∀ j < 8, ((1 : UInt8) <<< (UInt8.ofNat j)).toNat = 1 <<< j := by decide
/-- One bit of a byte turned over. -/
def fl1 (q : UInt8) (j : Nat) : UInt8 := q ^^^ ((1 : UInt8) <<< (UInt8.ofNat j))
theorem fl1_bit (q : UInt8) {i j : Nat} (hi : i < 8) (hj : j < 8) : bitq (BitVec.ofNat 32 (fl1 q j).toNat) i = bitq (BitVec.ofNat 32 q.toNat) i ^^^ (if i = j then 1#32 else 0#32) := by
  unfold fl1
  rw [UInt8.toNat_xor, sh8_toNat j hj, BitVec.ofNat_xor, bitq_xor, bitq_one j hj i hi]
def flip1 (l : Bytes) (k : Nat) : Bytes := l.set (k / 8) (fl1 ((l[k / 8]?).getD 0) (k % 8))
theorem flip1_len (l : Bytes) (k : Nat) : (flip1 l k).length = l.length := List.length_set
theorem flip1_bit {l : Bytes} {k x : Nat} (hk : k / 8 < l.length) : bitl (flip1 l k) x = bitl l x ^^^ (if x = k then 1#32 else 0#32) := by
  unfold bitl flip1
  rcases Nat.decEq (x / 8) (k / 8) with h | h
  · rw [List.getElem?_set_ne (by omega), if_neg (by intro e; subst e; exact h rfl), BitVec.xor_zero]
  · rw [h, List.getElem?_set_self hk, Option.getD_some, fl1_bit _ (Nat.mod_lt _ (by omega)) (Nat.mod_lt _ (by omega))]
    congr 1
    have e : (x % 8 = k % 8) ↔ (x = k) := by omega
    simp only [e]
def flp (l : Bytes) (p : Nat) (w : BitVec 32) : Nat → Bytes
  | 0 => l
  | x + 1 => if (w >>> x) &&& 1#32 = 1#32 then flip1 (flp l p w x) (p + x) else flp l p w x
theorem flp_len (l : Bytes) (p : Nat) (w : BitVec 32) : ∀ x, (flp l p w x).length = l.length
  | 0 => rfl
  | x + 1 => by
    unfold flp
    split
    · rw [flip1_len, flp_len l p w x]
    · exact flp_len l p w x
def inw (p n : Nat) (w : BitVec 32) (x : Nat) : BitVec 32 := if p ≤ x ∧ x < p + n then bitq w (x - p) else 0#32
theorem flp_bit {l : Bytes} {p : Nat} (w : BitVec 32) {x : Nat} : ∀ n, p + n ≤ 8 * l.length → bitl (flp l p w n) x = bitl l x ^^^ inw p n w x
  | 0, _ => by unfold inw; rw [if_neg (by omega), BitVec.xor_zero]; rfl
  | n + 1, hn => by
    have ih := flp_bit (l := l) (p := p) (x := x) w n (by omega)
    have hb : bitq w n = 1#32 ∨ bitq w n = 0#32 := (low_cases (w >>> n)).symm
    have key : inw p (n + 1) w x = inw p n w x ^^^ (if x = p + n then bitq w n else 0#32) := by
      unfold inw
      by_cases h1 : x = p + n
      · subst h1
        rw [if_pos (by omega), if_neg (by omega), if_pos rfl, Nat.add_sub_cancel_left, BitVec.zero_xor]
      · rw [if_neg h1, BitVec.xor_zero]
        by_cases h2 : p ≤ x ∧ x < p + n
        · rw [if_pos h2, if_pos (by omega)]
        · rw [if_neg h2, if_neg (by omega)]
    rw [key, ← BitVec.xor_assoc, ← ih, show flp l p w (n + 1) = if (w >>> n) &&& 1#32 = 1#32 then flip1 (flp l p w n) (p + n) else flp l p w n from rfl]
    split
    · rename_i h
      rw [flip1_bit (by rw [flp_len]; omega)]
      have h2 : bitq w n = 1#32 := h
      rw [h2]
    · rename_i h
      have h2 : bitq w n = 0#32 := hb.resolve_left h
      rw [h2]; simp
/-- What two registers differ in. -/
def dif (p : Nat) (w : BitVec 32) : Nat → BitVec 32
  | 0 => 0#32
  | x + 1 => S1 (dif p w x ^^^ inw p 32 w x)
theorem bitl_01 (l : Bytes) (x : Nat) : bitl l x = 0#32 ∨ bitl l x = 1#32 := low_cases _
theorem rb_dif {l m : Bytes} {p : Nat} {w : BitVec 32} (h : ∀ x, bitl m x = bitl l x ^^^ inw p 32 w x) (r : BitVec 32) : ∀ x, rb m r x = rb l r x ^^^ dif p w x
  | 0 => by rw [dif, BitVec.xor_zero]; rfl
  | x + 1 => by
    rw [rb_bitl, rb_bitl, stepb_eq _ _ (bitl_01 m x), stepb_eq _ _ (bitl_01 l x), rb_dif h r x, h x, dif, ← S1_xor]
    congr 1
    generalize rb l r x = A; generalize dif p w x = B; generalize bitl l x = C; generalize inw p 32 w x = D
    ext i; simp; cases A[i] <;> cases B[i] <;> cases C[i] <;> cases D[i] <;> rfl
theorem S1_zero : S1 0#32 = 0#32 := by decide
theorem dif_before (p : Nat) (w : BitVec 32) : ∀ x, x ≤ p → dif p w x = 0#32
  | 0, _ => rfl
  | x + 1, hx => by
    rw [dif, dif_before p w x (by omega)]
    unfold inw
    rw [if_neg (by omega), BitVec.xor_zero, S1_zero]
theorem dif_in (p : Nat) (w : BitVec 32) : ∀ j, j ≤ 32 → dif p w (p + j) = steps w 0#32 j
  | 0, _ => dif_before p w p (Nat.le_refl _)
  | j + 1, hj => by
    rw [← Nat.add_assoc, dif, dif_in p w j (by omega), steps]
    unfold inw
    rw [if_pos (by omega), Nat.add_sub_cancel_left, show bitq w j = (w >>> j) &&& 1#32 from rfl, stepb_eq _ _ (low_cases _)]
theorem dif_after (p : Nat) (w : BitVec 32) : ∀ k, dif p w (p + 32 + k) = Sn k (dif p w (p + 32))
  | 0 => rfl
  | k + 1 => by
    rw [← Nat.add_assoc, dif, dif_after p w k, Sn]
    unfold inw
    rw [if_neg (by omega), BitVec.xor_zero]
theorem dif_window (p : Nat) (w : BitVec 32) : dif p w (p + 32) = Sn 32 w := by
  have h := steps_eq w 0#32 32
  have hz : w >>> 32 = 0#32 := by
    apply BitVec.eq_of_toNat_eq
    have := w.isLt
    rw [BitVec.toNat_ushiftRight, Nat.shiftRight_eq_div_pow, Nat.div_eq_of_lt (by omega)]; rfl
  rw [hz, BitVec.xor_zero, BitVec.zero_xor] at h
  rw [dif_in p w 32 (Nat.le_refl _), h]
theorem S1_inj {r : BitVec 32} (h : S1 r = 0#32) : r = 0#32 := by
  rw [S1_def] at h
  rcases low_cases r with hr | hr
  · rw [if_neg (by rw [hr]; decide), BitVec.xor_zero] at h
    have h2 := low_split r
    rw [hr, h] at h2
    rw [h2]; decide
  · rw [if_pos hr] at h
    exfalso
    have h2 : ((r >>> 1) ^^^ poly).getLsbD 31 = false := by rw [h]; decide
    rw [BitVec.getLsbD_xor, BitVec.getLsbD_ushiftRight] at h2
    have h3 : r.getLsbD (1 + 31) = false := BitVec.getLsbD_of_ge r 32 (by omega)
    rw [h3] at h2
    exact absurd h2 (by decide)
theorem Sn_inj : ∀ (k : Nat) {r : BitVec 32}, Sn k r = 0#32 → r = 0#32
  | 0, _, h => h
  | k + 1, _, h => Sn_inj k (S1_inj h)
theorem dif_end {p : Nat} {w : BitVec 32} (hp : p + 32 ≤ 512) (h : dif p w 512 = 0#32) : w = 0#32 := by
  obtain ⟨k, hk⟩ : ∃ k, 512 = p + 32 + k := ⟨480 - p, by omega⟩
  rw [hk, dif_after, dif_window] at h
  exact Sn_inj 32 (Sn_inj k h)
/-! ### The register behind a whole sector -/
theorem crc8_low (r n : BitVec 32) (b : UInt8) (hb : ∀ j < 8, bitq n j = bitq (BitVec.ofNat 32 b.toNat) j) : crc8 r b ^^^ (n >>> 8) = Sn 8 (r ^^^ n) := by
  rw [← steps8, ← steps_eq n r 8]
  have : ∀ j ≤ 8, steps (BitVec.ofNat 32 b.toNat) r j = steps n r j := by
    intro j
    induction j with
    | zero => intro _; rfl
    | succ j ih => intro hj; rw [steps, steps, ih (by omega), hb j (by omega)]
  rw [this 8 (Nat.le_refl _)]
theorem low_bits (n : BitVec 32) : ∀ j < 8, bitq n j = bitq (BitVec.ofNat 32 (UInt8.ofNat n.toNat).toNat) j := by
  intro j hj
  unfold bitq
  apply BitVec.eq_of_toNat_eq
  have h1 : 1 % 2 ^ 32 = 1 := by decide
  rw [BitVec.toNat_and, BitVec.toNat_and, BitVec.toNat_ushiftRight, BitVec.toNat_ushiftRight, UInt8.toNat_ofNat']
  simp only [BitVec.toNat_ofNat]
  rw [h1, Nat.and_one_is_mod, Nat.and_one_is_mod, Nat.shiftRight_eq_div_pow, Nat.shiftRight_eq_div_pow]
  have h2 : n.toNat % 2 ^ 8 % 2 ^ 32 = n.toNat % 2 ^ 8 := by have := n.isLt; omega
  rw [h2]
  have h3 : ∀ i < 8, ∀ m : Nat, m / 2 ^ i % 2 = m % 2 ^ 8 / 2 ^ i % 2 := by
    intro i hi m
    rcases (by omega : i = 0 ∨ i = 1 ∨ i = 2 ∨ i = 3 ∨ i = 4 ∨ i = 5 ∨ i = 6 ∨ i = 7) with h | h | h | h | h | h | h | h <;> subst h <;> omega
  exact h3 j hj _
theorem f4_end (R n : BitVec 32) : (f4 n).foldl crc8 R = Sn 32 (R ^^^ n) := by
  have e : ∀ x, Sn 32 x = Sn 8 (Sn 8 (Sn 8 (Sn 8 x))) := fun _ => rfl
  have hs : ∀ a b : Nat, n >>> a >>> b = n >>> (a + b) := fun a b => BitVec.eq_of_toNat_eq (by rw [BitVec.toNat_ushiftRight, BitVec.toNat_ushiftRight, BitVec.toNat_ushiftRight, Nat.shiftRight_add])
  have hz : n >>> 32 = 0#32 := by
    apply BitVec.eq_of_toNat_eq
    have := n.isLt
    rw [BitVec.toNat_ushiftRight, Nat.shiftRight_eq_div_pow, Nat.div_eq_of_lt (by omega)]; rfl
  rw [e, ← crc8_low R n _ (low_bits n), ← crc8_low _ (n >>> 8) _ (low_bits (n >>> 8)), hs, ← crc8_low _ (n >>> 16) _ (low_bits (n >>> 16)), hs, ← crc8_low _ (n >>> 24) _ (low_bits (n >>> 24)), hs, hz, BitVec.xor_zero]
  rfl
def reg0 (g : Int) : BitVec 32 := (f4 (seq32 g) ++ [b8 255]).foldl crc8 (~~~0#32)
theorem put_res {t : Tab} (h : RightP t) : rb (putT t) (reg0 t.gen) 512 = Sn 32 (BitVec.allOnes 32) := by
  have hl := putT_len ((right_iff t).2 h)
  have h1 := rb_all (putT t) (reg0 t.gen)
  rw [hl] at h1
  rw [h1, putT_eq h, List.foldl_append, f4_end]
  have h59 : (tbody t).length ≤ 59 := by rw [tbody_len]; have := h.n2; omega
  have e : sumOf t.gen 255 (cbody (tbody t)) = ~~~((cbody (tbody t)).foldl crc8 (reg0 t.gen)) := by
    unfold sumOf crcM reg0
    rw [List.take_of_length_le (by rw [cbody_len h59]; omega), List.foldl_append]
  rw [e]
  congr 1
  generalize (cbody (tbody t)).foldl crc8 (reg0 t.gen) = R
  apply BitVec.eq_of_getLsbD_eq
  intro i hi
  rw [BitVec.getLsbD_xor, BitVec.getLsbD_not, BitVec.getLsbD_allOnes]
  cases R.getLsbD i <;> simp [hi]
theorem burst {t : Tab} (h : RightP t) {p : Nat} (hp : 40 ≤ p) (hp2 : p + 32 ≤ 512) (w : BitVec 32) : getB (flp (putT t) p w 32) = decide (w = BitVec.ofInt 32 0) := by
  have hl := putT_len ((right_iff t).2 h)
  have e0 : BitVec.ofInt 32 0 = 0#32 := rfl
  rw [e0]
  by_cases hw : w = 0#32
  · rw [decide_eq_true hw]
    subst hw
    have : ∀ n, flp (putT t) p 0#32 n = putT t := by
      intro n
      induction n with
      | zero => rfl
      | succ n ih => unfold flp; rw [if_neg (by simp), ih]
    rw [this, getB_put h]
  · rw [decide_eq_false hw]
    cases hb : getB (flp (putT t) p w 32) with
    | false => rfl
    | true =>
      exfalso
      obtain ⟨h1, h2, h3⟩ := getB_right hb
      have hg : (getT (flp (putT t) p w 32)).gen = t.gen := by
        have e1 : (getT (flp (putT t) p w 32)).gen = leN (((flp (putT t) p w 32).drop 1).take 4) := by rw [getT_yes hb]; rfl
        have e2 : t.gen = leN (((putT t).drop 1).take 4) := by
          have := congrArg Tab.gen (get_put h)
          rw [← this]; rfl
        rw [e1, e2]
        congr 1
        have key : ∀ n i, i < 5 → (flp (putT t) p w n)[i]? = (putT t)[i]? := by
          intro n
          induction n with
          | zero => intro i _; rfl
          | succ n ih =>
            intro i hi
            unfold flp
            split
            · unfold flip1; rw [List.getElem?_set_ne (by omega), ih i hi]
            · exact ih i hi
        apply List.ext_getElem?
        intro i
        rw [List.getElem?_take, List.getElem?_take]
        split
        · rw [List.getElem?_drop, List.getElem?_drop, key _ _ (by omega)]
        · rfl
      have h4 := put_res h3
      rw [h2, hg] at h4
      have h5 := rb_dif (fun x => flp_bit (l := putT t) (p := p) (x := x) w 32 (by rw [hl]; omega)) (reg0 t.gen) 512
      rw [h4, put_res h] at h5
      apply hw
      refine dif_end hp2 ?_
      have h6 : ∀ A B : BitVec 32, A = A ^^^ B → B = 0#32 := by
        intro A B e
        have := congrArg (fun z => A ^^^ z) e
        simpa [← BitVec.xor_assoc] using this.symm
      exact h6 _ _ h5

theorem DS.list_mem {s : DS} {i : Nat} : i ∈ s.list ↔ i < s.kept.length ∧ (s.loose i).isSome = true := by
  unfold DS.list
  rw [List.mem_filter, List.mem_range]
theorem DS.list_len (s : DS) : s.list.length ≤ s.kept.length := by
  unfold DS.list
  exact Nat.le_trans (List.length_filter_le _ _) (by simp)
theorem DS.list_lt (s : DS) : s.list.Pairwise (· < ·) := List.pairwise_lt_range.filter _
theorem DS.list_inc {s : DS} {a b i j : Nat} (ha : s.list[a]? = some i) (hb : s.list[b]? = some j) (h : a < b) : i < j := by
  obtain ⟨h1, rfl⟩ := List.getElem?_eq_some_iff.1 ha
  obtain ⟨h2, rfl⟩ := List.getElem?_eq_some_iff.1 hb
  exact List.pairwise_iff_getElem.1 s.list_lt a b h1 h2 h
theorem DS.list_inj {s : DS} {a b i : Nat} (ha : s.list[a]? = some i) (hb : s.list[b]? = some i) : a = b := by
  rcases (by omega : a < b ∨ b < a ∨ a = b) with h | h | h
  · exact absurd (DS.list_inc ha hb h) (by omega)
  · exact absurd (DS.list_inc hb ha h) (by omega)
  · exact h
def DS.kp (s : DS) (ks : List Bool) (m i : Nat) : Prop := ∃ k, k < m ∧ s.list[k]? = some i ∧ ks[k]? = some true
theorem keptL_get (s : DS) (ks : List Bool) {i : Nat} (hi : i < s.kept.length) : ∀ m, (s.kp ks m i → (s.keptL ks m)[i]? = some (s.A i)) ∧ (¬ s.kp ks m i → (s.keptL ks m)[i]? = some (s.K i))
  | 0 => ⟨fun ⟨k, hk, _⟩ => by omega, fun _ => by
      show s.kept[i]? = _
      unfold DS.K
      rw [List.getElem?_eq_getElem hi]; rfl⟩
  | m + 1 => by
    have ih := keptL_get s ks hi m
    have same : (¬ (s.list[m]? = some i ∧ ks[m]? = some true)) → (s.kp ks (m + 1) i ↔ s.kp ks m i) := fun hn =>
      ⟨fun ⟨k, hk, h1, h2⟩ => by
        by_cases hkm : k = m
        · subst hkm; exact absurd ⟨h1, h2⟩ hn
        · exact ⟨k, by omega, h1, h2⟩, fun ⟨k, hk, h1, h2⟩ => ⟨k, by omega, h1, h2⟩⟩
    cases h1 : s.list[m]? with
    | none =>
      have e : s.keptL ks (m + 1) = s.keptL ks m := by simp only [DS.keptL, h1]
      rw [e, same (by rw [h1]; simp)]; exact ih
    | some i' =>
      cases h2 : ks[m]? with
      | none =>
        have e : s.keptL ks (m + 1) = s.keptL ks m := by simp only [DS.keptL, h1, h2]
        rw [e, same (by rw [h2]; simp)]; exact ih
      | some b =>
        cases b with
        | false =>
          have e : s.keptL ks (m + 1) = s.keptL ks m := by simp only [DS.keptL, h1, h2]
          rw [e, same (by rw [h2]; simp)]; exact ih
        | true =>
          have hm := (DS.list_mem (s := s) (i := i')).1 (List.mem_of_getElem? h1)
          obtain ⟨y, hy⟩ := Option.isSome_iff_exists.1 hm.2
          have e : s.keptL ks (m + 1) = (s.keptL ks m).set i' y := by simp only [DS.keptL, h1, h2, hy]
          rw [e]
          by_cases hii : i' = i
          · subst hii
            refine ⟨fun _ => ?_, fun hn => absurd ⟨m, by omega, h1, h2⟩ hn⟩
            rw [List.getElem?_set_self (by rw [keptL_length]; exact hm.1)]
            unfold DS.A; rw [hy]; rfl
          · rw [List.getElem?_set_ne hii, same (by rw [h1]; simp [hii])]; exact ih
theorem DS.hurts_nil (s : DS) (ks : List Bool) : s.hurts ks [] = s.keptL ks s.list.length := rfl
theorem DS.hurts_one (s : DS) (ks : List Bool) (h : HX) : s.hurts ks [h] = hurt1 s.list ks (s.keptL ks s.list.length) h := rfl
theorem DS.boot_len (s : DS) (ks : List Bool) (hs : List HX) : (s.boot ks hs).kept.length = s.kept.length := hurts_length s ks hs
theorem DS.boot_up {s : DS} {n : Nat} (h : s.kept.length = n) (ks : List Bool) (hs : List HX) : Up n (s.boot ks hs) := ⟨(DS.boot_len s ks hs).trans h, rfl, by simp [DS.boot]⟩
theorem DS.boot_list (s : DS) (ks : List Bool) (hs : List HX) : (s.boot ks hs).list = [] := by
  unfold DS.list DS.boot; simp
theorem DS.boot_A (s : DS) (ks : List Bool) (hs : List HX) (i : Nat) : (s.boot ks hs).A i = (s.boot ks hs).K i := rfl
theorem DS.boot_yes {s : DS} {ks : List Bool} {i : Nat} (hi : i < s.kept.length) (h : s.kp ks s.list.length i) : (s.boot ks []).A i = s.A i := by
  show (s.hurts ks [])[i]?.getD _ = _
  rw [DS.hurts_nil, (keptL_get s ks hi _).1 h]; rfl
theorem DS.boot_no {s : DS} {ks : List Bool} {i : Nat} (hi : i < s.kept.length) (h : ¬ s.kp ks s.list.length i) : (s.boot ks []).A i = s.K i := by
  show (s.hurts ks [])[i]?.getD _ = _
  rw [DS.hurts_nil, (keptL_get s ks hi _).2 h]; rfl
theorem DS.kp_all {s : DS} {n i : Nat} (hn : s.kept.length ≤ n) (h : (s.loose i).isSome = true) (hi : i < s.kept.length) : s.kp (List.replicate n true) s.list.length i := by
  obtain ⟨k, hk⟩ := List.mem_iff_getElem?.1 (DS.list_mem.2 ⟨hi, h⟩)
  have hkl := (List.getElem?_eq_some_iff.1 hk).1
  have := s.list_len
  exact ⟨k, hkl, hk, by rw [List.getElem?_replicate, if_pos (by omega)]⟩
theorem DS.keptL_all {s : DS} {n i : Nat} (hn : s.kept.length ≤ n) (hi : i < s.kept.length) : (s.keptL (List.replicate n true) s.list.length)[i]? = some (s.A i) := by
  cases h : s.loose i with
  | some y => exact (keptL_get s _ hi _).1 (DS.kp_all hn (by rw [h]; rfl) hi)
  | none =>
    rw [DS.A_none h]
    refine (keptL_get s _ hi _).2 fun ⟨k, _, h1, _⟩ => ?_
    have := (DS.list_mem.1 (List.mem_of_getElem? h1)).2
    rw [h] at this; cases this
theorem DS.boot_all {s : DS} {n i : Nat} (hn : s.kept.length ≤ n) (hi : i < s.kept.length) : (s.boot (List.replicate n true) []).A i = s.A i := by
  show (s.hurts _ [])[i]?.getD _ = _
  rw [DS.hurts_nil, DS.keptL_all hn hi]; rfl
theorem DS.boot_none {s : DS} {i : Nat} (hi : i < s.kept.length) : (s.boot [] []).A i = s.K i := DS.boot_no hi fun ⟨k, _, _, h⟩ => by simp at h
/-! What turns in a sector that is hurt. -/
/-! ### What is kept of a device, and what a Boot gives -/
structure Dw (n : Nat) (s : DS) (f k : Nat → Bytes) : Prop where
  dv : Dv n s f
  kp : ∀ j, j < n → (s.K j).1 = k j
theorem Dw.new (n : Nat) : Dw n (DS.new n) (fun _ => zer) (fun _ => zer) := ⟨Dv.new n, fun j hj => by
  unfold DS.K DS.new
  simp only
  rw [List.getElem?_replicate, if_pos hj]; rfl⟩
theorem Dw.write {n : Nat} {s : DS} {f k : Nat → Bytes} (h : Dw n s f k) {i : Nat} (hi : i < n) {l : Bytes} (hl : l.length = 64) : (s.write (i : Int) l).2 = 0 ∧ Dw n (s.write (i : Int) l).1 (upd f i l) k := by
  obtain ⟨h1, h2⟩ := h.dv.write hi hl
  refine ⟨h1, h2, fun j hj => ?_⟩
  have h3 := (h.dv.up.write hi ⟨l, hl⟩).2.2.1 j
  show ((s.write (i : Int) l).1.K j).1 = _
  rw [h3]; exact h.kp j hj
theorem Dw.save {n : Nat} {s : DS} {f k : Nat → Bytes} (h : Dw n s f k) (hn : 2 ≤ n) {t : Tab} (hR : RightP t) : (s.save t).2 = 0 ∧ Dw n (s.save t).1 (upd f (t.gen % 2).toNat (putT t)) (upd f (t.gen % 2).toNat (putT t)) ∧ ∀ j, (s.save t).1.loose j = none := by
  obtain ⟨h1, h2⟩ := h.dv.save hn hR
  have hr := (right_iff t).2 hR
  obtain ⟨g1, g2⟩ := h.dv.flush
  have hi : (t.gen % 2).toNat < n := by omega
  have he : (((t.gen % 2).toNat : Nat) : Int) = t.gen % 2 := by omega
  obtain ⟨g3, g4⟩ := g2.write hi (putT_len hr)
  rw [he] at g3 g4
  have e : s.save t = (s.flush.1.write (t.gen % 2) (putT t)).1.flush := by
    unfold DS.save DS.save3
    rw [if_pos hr, if_neg (by rw [g1]; simp), if_neg (by rw [g3]; simp)]
  have g5 := g4.up.flush
  rw [← e] at g5
  refine ⟨h1, ⟨h2, fun j hj => ?_⟩, g5.2.2.2.2⟩
  rw [g5.2.2.1 j hj]
  exact g4.at_ j hj
theorem Dw.boot0 {n : Nat} {s : DS} {f k : Nat → Bytes} (h : Dw n s f k) : Dw n (s.boot [] []) k k := by
  have hl := h.dv.up.len
  have key : ∀ j, j < n → ((s.boot [] []).A j).1 = k j := fun j hj => by rw [DS.boot_none (by omega)]; exact h.kp j hj
  exact ⟨⟨DS.boot_up hl [] [], key⟩, key⟩
theorem boot_cases {s : DS} {ks : List Bool} {h : HX} {i : Nat} (hi : i < s.kept.length) : (s.boot ks [h]).A i = s.K i ∨ ∃ y, s.loose i = some y ∧ ((s.boot ks [h]).A i = y ∨ (s.boot ks [h]).A i = turnS y h.at_.toNat h.bits) := by
  obtain ⟨g1, g2⟩ := keptL_get s ks hi s.list.length
  have hb : (s.boot ks [h]).A i = ((hurt1 s.list ks (s.keptL ks s.list.length) h)[i]?).getD (secOf 0) := rfl
  rw [hb]
  have hbase : (s.keptL ks s.list.length)[i]? = some (s.K i) ∨ ∃ y, s.loose i = some y ∧ (s.keptL ks s.list.length)[i]? = some y := by
    by_cases hk : s.kp ks s.list.length i
    · right
      have h1 := g1 hk
      obtain ⟨k, _, hk2, _⟩ := hk
      obtain ⟨y, hy⟩ := Option.isSome_iff_exists.1 (DS.list_mem.1 (List.mem_of_getElem? hk2)).2
      refine ⟨y, hy, ?_⟩
      rw [h1]; unfold DS.A; rw [hy]; rfl
    · exact .inl (g2 hk)
  by_cases hh : hits s.list ks h
  · obtain ⟨i', hi'⟩ : ∃ i', s.list[h.which.toNat]? = some i' := get_ex (by have := hh.1; have := hh.2.1; omega)
    have hl' := (DS.list_mem.1 (List.mem_of_getElem? hi')).1
    obtain ⟨x, hx⟩ : ∃ x, (s.keptL ks s.list.length)[i']? = some x := get_ex (by rw [keptL_length]; exact hl')
    rw [hurt1_yes hh hi' hx]
    by_cases e : i' = i
    · subst e
      right
      have hk : s.kp ks s.list.length i' := ⟨h.which.toNat, (List.getElem?_eq_some_iff.1 hi').1, hi', hh.2.2.2.1⟩
      obtain ⟨y, hy⟩ := Option.isSome_iff_exists.1 (DS.list_mem.1 (List.mem_of_getElem? hi')).2
      have hxy : x = y := by
        have h1 := g1 hk
        rw [hx] at h1
        have h2 : s.A i' = y := by unfold DS.A; rw [hy]; rfl
        rw [h2] at h1
        exact Option.some.inj h1
      refine ⟨y, hy, .inr ?_⟩
      rw [List.getElem?_set_self (by rw [keptL_length]; exact hl'), Option.getD_some, hxy]
    · rw [List.getElem?_set_ne e]
      rcases hbase with h1 | ⟨y, hy, h1⟩
      · left; rw [h1]; rfl
      · right; exact ⟨y, hy, .inl (by rw [h1]; rfl)⟩
  · rw [hurt1_no hh]
    rcases hbase with h1 | ⟨y, hy, h1⟩
    · left; rw [h1]; rfl
    · right; exact ⟨y, hy, .inl (by rw [h1]; rfl)⟩
/-! ### Bits that turn in a table's sector -/
theorem flp_front (w : BitVec 32) (l : Bytes) (p : Nat) : ∀ n, flp l p w (n + 1) = flp (if w &&& 1#32 = 1#32 then flip1 l p else l) (p + 1) (w >>> 1) n
  | 0 => by
    show (if (w >>> 0) &&& 1#32 = 1#32 then flip1 l (p + 0) else l) = _
    rw [BitVec.ushiftRight_zero, Nat.add_zero]; rfl
  | n + 1 => by
    have ih := flp_front w l p n
    show (if (w >>> (n + 1)) &&& 1#32 = 1#32 then flip1 (flp l p w (n + 1)) (p + (n + 1)) else flp l p w (n + 1)) = (if ((w >>> 1) >>> n) &&& 1#32 = 1#32 then flip1 (flp _ (p + 1) (w >>> 1) n) (p + 1 + n) else flp _ (p + 1) (w >>> 1) n)
    rw [ih, ← BitVec.shiftRight_add, Nat.add_comm 1 n, Nat.add_assoc p 1 n, Nat.add_comm 1 n]
theorem flp_zero (l : Bytes) (p : Nat) : ∀ n, flp l p 0#32 n = l
  | 0 => rfl
  | n + 1 => by
    show (if (0#32 >>> n) &&& 1#32 = 1#32 then _ else flp l p 0#32 n) = l
    rw [if_neg (by simp), flp_zero l p n]
theorem flipS_flip (x : Sec) (a w : Nat) (hw : w < 4294967296) : (flipS x a w).1 = if BitVec.ofNat 32 w &&& 1#32 = 1#32 then flip1 x.1 a else x.1 := by
  have hx := x.2
  have hb : (BitVec.ofNat 32 w &&& 1#32 = 1#32) ↔ w % 2 = 1 := by
    rw [← BitVec.toNat_inj, BitVec.toNat_and]
    simp only [BitVec.toNat_ofNat, Nat.reducePow, Nat.reduceMod]
    rw [Nat.and_one_is_mod]; omega
  have hj : a % 8 < 8 := Nat.mod_lt _ (by omega)
  have hv : ∀ v : UInt8, xorB v.toNat (1 * 2 ^ (a % 8) % 256) = fl1 v (a % 8) := by
    intro v
    have hp : ∀ j < 8, BitVec.ofInt 8 ((1 * 2 ^ j % 256 : Nat) : Int) = ((1 : UInt8) <<< (UInt8.ofNat j)).toBitVec := by decide
    unfold xorB fl1
    rw [hp _ hj]
    apply UInt8.toNat_inj.1
    rw [UInt8.toNat_ofNat', UInt8.toNat_xor]
    rw [BitVec.toNat_xor]
    have e1 : (BitVec.ofInt 8 (v.toNat : Int)).toNat = v.toNat := by
      have := v.toNat_lt
      rw [BitVec.toNat_ofInt]; omega
    rw [e1]
    rw [Nat.mod_eq_of_lt]
    · rfl
    · exact Nat.xor_lt_two_pow (n := 8) v.toNat_lt (((1 : UInt8) <<< (UInt8.ofNat (a % 8))).toNat_lt)
  have hv0 : ∀ v : UInt8, xorB v.toNat (0 * 2 ^ (a % 8) % 256) = v := by
    intro v
    have e0 : (0 * 2 ^ (a % 8) % 256 : Nat) = 0 := by rw [Nat.zero_mul]
    unfold xorB
    rw [e0]
    apply UInt8.toNat_inj.1
    have := v.toNat_lt
    rw [UInt8.toNat_ofNat', BitVec.toNat_xor, BitVec.toNat_ofInt, BitVec.toNat_ofInt]
    simp
    omega
  by_cases h : w % 2 = 1
  · rw [if_pos (hb.2 h)]
    show x.1.set (a / 8) (xorB (x.1[a / 8]?.getD 0).toNat ((w % 2) * 2 ^ (a % 8) % 256)) = _
    rw [h, hv]
    rfl
  · rw [if_neg (fun h2 => h (hb.1 h2))]
    show x.1.set (a / 8) (xorB (x.1[a / 8]?.getD 0).toNat ((w % 2) * 2 ^ (a % 8) % 256)) = _
    rw [show w % 2 = 0 by omega, hv0]
    refine List.ext_getElem? fun m => ?_
    by_cases hm : a / 8 = m
    · subst hm
      by_cases hlt : a / 8 < x.1.length
      · rw [List.getElem?_set_self hlt, List.getElem?_eq_getElem hlt]; rfl
      · rw [List.getElem?_eq_none (by rw [List.length_set]; omega), List.getElem?_eq_none (by omega)]
    · rw [List.getElem?_set_ne hm]
theorem turnS_flp : ∀ (n : Nat) (x : Sec) (a w : Nat), w < 2 ^ n → n ≤ 32 → a + n ≤ 512 → (turnS x a w).1 = flp x.1 a (BitVec.ofNat 32 w) n
  | 0, x, a, w, hw, _, _ => by
    rw [turnS_end (by simp at hw; omega)]; rfl
  | n + 1, x, a, w, hw, hn, ha => by
    have hp : 2 ^ (n + 1) ≤ 2 ^ 32 := Nat.pow_le_pow_right (by omega) hn
    have hw32 : w < 4294967296 := Nat.lt_of_lt_of_le hw hp
    by_cases h0 : w = 0
    · subst h0
      rw [turnS_end (by omega)]
      exact (flp_zero _ _ _).symm
    · rw [turnS_go ⟨h0, by omega⟩, turnS_flp n _ _ _ (by rw [Nat.pow_succ] at hw; omega) (by omega) (by omega), flp_front, flipS_flip x a w hw32]
      congr 1
      rw [← BitVec.toNat_inj, BitVec.toNat_ushiftRight]
      simp only [BitVec.toNat_ofNat, Nat.reducePow]
      rw [Nat.mod_eq_of_lt hw32, Nat.mod_eq_of_lt (by omega)]
      rfl
theorem turned {t : Tab} (h : RightP t) (y : Sec) (hy : y.1 = putT t) {a w : Nat} (ha : 40 ≤ a) (ha2 : a ≤ 480) (hw : w < 4294967296) : (turnS y a w).1 = putT t ∨ getB (turnS y a w).1 = false := by
  rw [turnS_flp 32 y a w hw (Nat.le_refl _) (by omega), hy]
  by_cases h0 : w = 0
  · left; rw [h0]; exact flp_zero _ _ _
  · right
    rw [burst h ha (by omega)]
    apply decide_eq_false
    intro e
    apply h0
    have := congrArg BitVec.toNat e
    simp at this
    omega
/-! ### Of two tables one is loaded -/
theorem ld1_bad {b : Bytes} (hb : getB b = false) (i : Nat) (best : Tab) : ld1 b i best = best := by
  unfold ld1
  rw [if_neg (fun h => by rw [hb] at h; exact absurd h.1 (by decide))]
theorem ldF_old {o : Tab} (ho : RightP o) {f : Nat → Bytes} (h1 : f (o.gen % 2).toNat = putT o) (h2 : getB (f (1 - (o.gen % 2).toNat)) = false) : ldF f = o := by
  have hg := ho.g1
  unfold ldF
  rcases (by omega : o.gen % 2 = 0 ∨ o.gen % 2 = 1) with hp | hp
  · rw [hp] at h1 h2
    have h1' : f 0 = putT o := h1
    have h2' : getB (f 1) = false := h2
    rw [ld1_bad h2', h1', ld1_put ho hp (by show (0 : Int) < o.gen; omega)]
  · rw [hp] at h1 h2
    have h1' : f 1 = putT o := h1
    have h2' : getB (f 0) = false := h2
    rw [ld1_bad h2', h1', ld1_put ho hp (by show (0 : Int) < o.gen; omega)]
theorem ldF_new {o t : Tab} (ho : RightP o) (ht : RightP t) (hg : t.gen = o.gen + 1) {f : Nat → Bytes} (h1 : f (o.gen % 2).toNat = putT o) (h2 : f (t.gen % 2).toNat = putT t) : ldF f = t := by
  have hg1 := ho.g1
  unfold ldF
  rcases (by omega : o.gen % 2 = 0 ∨ o.gen % 2 = 1) with hp | hp
  · have hp2 : t.gen % 2 = 1 := by omega
    rw [hp] at h1
    rw [hp2] at h2
    have h1' : f 0 = putT o := h1
    have h2' : f 1 = putT t := h2
    rw [h1', h2', ld1_put ho hp (by show (0 : Int) < o.gen; omega), ld1_put ht hp2 (by omega)]
  · have hp2 : t.gen % 2 = 0 := by omega
    rw [hp] at h1
    rw [hp2] at h2
    have h1' : f 1 = putT o := h1
    have h2' : f 0 = putT t := h2
    rw [h1', h2', ld1_put ht hp2 (by show (0 : Int) < t.gen; omega), ld1_not ho (fun _ => by omega)]
/-! ### A Save in which power fails -/
structure Held (s s' : DS) (t : Tab) : Prop where
  len : s'.kept.length = s.kept.length
  K : ∀ j, j < s.kept.length → s'.K j = s.K j
  L : ∀ j, s'.loose j = none ∨ (RightP t ∧ (j : Int) = t.gen % 2 ∧ ∃ y : Sec, s'.loose j = some y ∧ y.1 = putT t)
theorem flushed_same {s : DS} (hl : ∀ j, s.loose j = none) {j : Nat} (hj : j < s.kept.length) : s.flushed.K j = s.K j := by rw [DS.flushed_K hj, DS.A_none (hl j)]
theorem save_cut {n : Nat} {s : DS} {f : Nat → Bytes} (h : Dw n s f f) (hn : 2 ≤ n) (hl : ∀ j, s.loose j = none) {c : Int} (hc : 0 ≤ c) (t : Tab) :
    (((s.setCut c).save t).2 = 0 ∧ RightP t ∧ ((s.setCut c).save t).1.kept.length = n ∧ (∀ j, ((s.setCut c).save t).1.loose j = none) ∧ ∀ j, j < n → (((s.setCut c).save t).1.K j).1 = upd f (t.gen % 2).toNat (putT t) j) ∨ (((s.setCut c).save t).2 ≠ 0 ∧ Held s ((s.setCut c).save t).1 t) := by
  have hs : s.setCut c = { s with cut := c } := by unfold DS.setCut; rw [if_pos hc]
  rw [hs]
  cases hr : rightB t with
  | false =>
    right
    rw [save_bad hr]
    exact ⟨by simp, rfl, fun j _ => rfl, fun j => .inl (hl j)⟩
  | true =>
  have hR := (right_iff t).1 hr
  have hlen := h.dv.up.len
  have hdn := h.dv.up.down
  have e0 : ({ s with cut := c } : DS).save t = ({ s with cut := c } : DS).save3 t := by unfold DS.save; rw [if_pos hr]
  rw [e0]
  unfold DS.save3
  by_cases h0 : c = 0
  · right
    have ha : ({ s with cut := c } : DS).able = false := by unfold DS.able; simp [h0]
    rw [DS.flush_nn ha, if_pos (by simp)]
    exact ⟨by simp, rfl, fun j _ => rfl, fun j => .inl (hl j)⟩
  · have ha : ({ s with cut := c } : DS).able = true := DS.able_iff.2 ⟨hdn, h0⟩
    rw [DS.flush_yy ha, if_neg (by simp)]
    generalize hs1 : ({ s with cut := c } : DS).did.flushed = s1
    have k1 : s1.kept.length = s.kept.length := by rw [← hs1, DS.flushed_length]; rfl
    have k2 : ∀ j, j < s.kept.length → s1.K j = s.K j := fun j hj => by rw [← hs1, flushed_same (s := ({ s with cut := c } : DS).did) hl hj]; rfl
    have k3 : ∀ j, s1.loose j = none := fun j => by rw [← hs1]; rfl
    have k4 : s1.cut = c - 1 := by rw [← hs1]; show (if 0 < c then c - 1 else c) = c - 1; rw [if_pos (by omega)]
    have k5 : s1.down = false := by rw [← hs1]; exact hdn
    have hi : (t.gen % 2).toNat < s1.kept.length := by omega
    have he : (((t.gen % 2).toNat : Nat) : Int) = t.gen % 2 := by omega
    obtain ⟨y, hy⟩ : ∃ y : Sec, y.1 = putT t := ⟨⟨putT t, putT_len hr⟩, rfl⟩
    rw [← he, ← hy]
    by_cases h1 : c = 1
    · right
      have ha1 : s1.able = false := by unfold DS.able; simp [k4, h1]
      rw [DS.write_n hi ha1, if_pos (by simp)]
      exact ⟨by simp, k1, k2, fun j => .inl (k3 j)⟩
    · have ha1 : s1.able = true := DS.able_iff.2 ⟨k5, by omega⟩
      rw [DS.write_y hi ha1, if_neg (by simp)]
      generalize hs2 : ({ s1.did with loose := fun j => if j = (t.gen % 2).toNat then some y else s1.loose j } : DS) = s2
      have m1 : s2.kept.length = s.kept.length := by rw [← hs2]; exact k1
      have m2 : ∀ j, j < s.kept.length → s2.K j = s.K j := fun j hj => by rw [← hs2]; exact k2 j hj
      have m3 : ∀ j, s2.loose j = if j = (t.gen % 2).toNat then some y else none := fun j => by rw [← hs2, ← k3 j]
      have m4 : s2.cut = c - 2 := by rw [← hs2]; show (if 0 < s1.cut then s1.cut - 1 else s1.cut) = c - 2; rw [if_pos (by omega)]; omega
      have m5 : s2.down = false := by rw [← hs2]; exact k5
      by_cases h2 : c = 2
      · right
        have ha2 : s2.able = false := by unfold DS.able; simp [m4, h2]
        rw [DS.flush_nn ha2]
        refine ⟨by simp, m1, m2, fun j => ?_⟩
        by_cases hj : j = (t.gen % 2).toNat
        · right
          exact ⟨hR, by omega, y, by show s2.loose j = some y; rw [m3, if_pos hj], hy⟩
        · left
          show s2.loose j = none
          rw [m3, if_neg hj]
      · left
        have ha2 : s2.able = true := DS.able_iff.2 ⟨m5, by omega⟩
        rw [DS.flush_yy ha2]
        refine ⟨rfl, hR, by rw [DS.flushed_length]; exact m1.trans hlen, fun j => rfl, fun j hj => ?_⟩
        have h3 : s2.did.flushed.K j = s2.did.A j := DS.flushed_K (by show j < s2.kept.length; omega)
        rw [h3]
        show ((s2.loose j).getD (s2.K j)).1 = _
        rw [m3 j]
        unfold upd
        rw [Int.toNat_natCast]
        by_cases hj2 : j = (t.gen % 2).toNat
        · rw [if_pos hj2, if_pos hj2, Option.getD_some]
        · rw [if_neg hj2, if_neg hj2, Option.getD_none, m2 j (by omega), h.kp j hj]
theorem swaps {s : DS} {f : Nat → Bytes} {o t : Tab} (h : Dw 4 s f f) (hl : ∀ j, s.loose j = none) (ho : RightP o) (h1 : f (o.gen % 2).toNat = putT o) (h2 : f (1 - (o.gen % 2).toNat) = zer) (hg : t.gen = o.gen + 1) {c : Int} (hc : 0 ≤ c) (ks : List Bool) {hx : HX} (ha : 40 ≤ hx.at_) (ha2 : hx.at_ ≤ 480) (hb : hx.bits < 4294967296) :
    (((s.setCut c).save t).1.boot ks [hx]).load = (t, true, 0) ∨ (((s.setCut c).save t).2 ≠ 0 ∧ (((s.setCut c).save t).1.boot ks [hx]).load = (o, true, 0)) := by
  have hgo := ho.g1
  have hlen := h.dv.up.len
  have fin : ∀ {s' : DS} {g : Nat → Bytes} {u : Tab}, s'.kept.length = 4 → (∀ j, j < 4 → ((s'.boot ks [hx]).A j).1 = g j) → ldF g = u → 0 < u.gen → (s'.boot ks [hx]).load = (u, true, 0) := by
    intro s' g u e1 e2 e3 e4
    have d : Dv 4 (s'.boot ks [hx]) g := ⟨DS.boot_up e1 ks [hx], e2⟩
    rw [d.load (by decide), e3, decide_eq_true e4]
  rcases save_cut h (by decide) hl hc t with ⟨a1, a2, a3, a4, a5⟩ | ⟨a1, a2⟩
  · left
    have e : ldF (upd f (t.gen % 2).toNat (putT t)) = t := by
      refine ldF_new ho a2 hg ?_ ?_
      · unfold upd; rw [if_neg (by omega)]; exact h1
      · unfold upd; rw [if_pos rfl]
    refine fin a3 (fun j hj => ?_) e (by omega)
    rcases boot_cases (ks := ks) (h := hx) (i := j) (s := ((s.setCut c).save t).1) (by omega) with b1 | ⟨y, b1, _⟩
    · rw [b1]; exact a5 j hj
    · rw [a4 j] at b1; cases b1
  · have e4 : ((s.setCut c).save t).1.kept.length = 4 := a2.len.trans hlen
    generalize hs' : ((s.setCut c).save t).1 = s' at *
    have hold : ∀ j : Nat, j < 4 → (j : Int) ≠ t.gen % 2 → ((s'.boot ks [hx]).A j).1 = f j := fun j hj hne => by
      rcases boot_cases (ks := ks) (h := hx) (i := j) (s := s') (by omega) with b1 | ⟨y, b1, _⟩
      · rw [b1, a2.K j (by omega)]; exact h.kp j hj
      · rcases a2.L j with b2 | ⟨_, b3, _⟩
        · rw [b2] at b1; cases b1
        · exact absurd b3 hne
    have hno : ((s'.boot ks [hx]).A (o.gen % 2).toNat).1 = putT o := by rw [hold _ (by omega) (by omega)]; exact h1
    have hslot : (t.gen % 2).toNat = 1 - (o.gen % 2).toNat := by omega
    have hcase : getB ((s'.boot ks [hx]).A (t.gen % 2).toNat).1 = false ∨ (RightP t ∧ ((s'.boot ks [hx]).A (t.gen % 2).toNat).1 = putT t) := by
      rcases boot_cases (ks := ks) (h := hx) (i := (t.gen % 2).toNat) (s := s') (by omega) with b1 | ⟨y, b1, b2⟩
      · left
        rw [b1, a2.K _ (by omega), h.kp _ (by omega), hslot, h2]
        exact zeros_bad
      · rcases a2.L (t.gen % 2).toNat with b3 | ⟨b4, _, z, b5, b6⟩
        · rw [b3] at b1; cases b1
        · rw [b5] at b1
          obtain rfl := Option.some.inj b1
          rcases b2 with b7 | b7
          · right; rw [b7]; exact ⟨b4, b6⟩
          · rw [b7]
            rcases turned b4 z b6 (a := hx.at_.toNat) (w := hx.bits) (by omega) (by omega) hb with b8 | b8
            · right; exact ⟨b4, b8⟩
            · left; exact b8
    rcases hcase with hbad | ⟨hR, hput⟩
    · right
      refine ⟨a1, fin (g := fun j => ((s'.boot ks [hx]).A j).1) e4 (fun j _ => rfl) (ldF_old ho hno ?_) (by omega)⟩
      rw [← hslot]; exact hbad
    · left
      exact fin (g := fun j => ((s'.boot ks [hx]).A j).1) e4 (fun j _ => rfl) (ldF_new ho hR hg hno hput) (by omega)
theorem save_right {s : DS} {t : Tab} (h : (s.save t).2 = 0) : RightP t := by
  cases hr : rightB t with
  | true => exact (right_iff t).1 hr
  | false => rw [save_bad hr] at h; exact absurd h (by simp)

def blk (q : UInt8) : Bytes := List.replicate 64 q
def blkN (q : UInt8) (x : Nat) : Bytes := List.replicate x q ++ List.replicate (64 - x) 0
theorem blkN_len (q : UInt8) {x : Nat} (h : x ≤ 64) : (blkN q x).length = 64 := by unfold blkN; rw [List.length_append, List.length_replicate, List.length_replicate]; omega
theorem blkN_set (q : UInt8) {x : Nat} (h : x < 64) : (blkN q x).set x q = blkN q (x + 1) := by
  unfold blkN
  rw [List.set_append, if_neg (by rw [List.length_replicate]; omega), List.length_replicate, Nat.sub_self]
  obtain ⟨n, hn⟩ : ∃ n, 64 - x = n + 1 := ⟨64 - x - 1, by omega⟩
  rw [hn, show 64 - (x + 1) = n by omega, List.replicate_succ, List.set_cons_zero, List.replicate_succ', List.append_assoc]
  rfl
theorem blkN_zero (q : UInt8) : blkN q 0 = List.replicate 64 0 := rfl
theorem blkN_all (q : UInt8) : blkN q 64 = blk q := by unfold blkN blk; rw [Nat.sub_self]; simp
theorem blk_len (q : UInt8) : (blk q).length = 64 := List.length_replicate
/- turntable/turntablelaw10.block -/
set_option maxHeartbeats 1000000 in
set_option maxRecDepth 100000 in
theorem block_con {q : UInt8} {w : World} :
    Calls Try.prog 22 #[.int .u8 (q.toNat : Int)] w fun e w' => ∃ a' : Option Addr, ∃ c' : Nat, e = .returned (.slice a' (blk q).length c') ∧ Tr w [] w' [trow a' c' 5 encB (blk q)] := by
  refine K.enter0 (args := [_]) Try.func22 rfl Try.ntmps22 rfl ?_
  refine K.GC.seq ?_
  refine K.GC.region ?_
  refine K.GL.det (K.e_assign rfl) rfl ?_
  refine K.GL.nil ?_
  refine K.GQ.go ?_
  refine K.GC.seq ?_
  refine K.GC.region ?_
  refine K.GL.makeT (e := encB) (n := 64) (0 : UInt8) mk37 rfl rfl rfl (by omega) (by omega) rfl (fun b5 => ?_)
  refine K.GL.det (K.e_assign rfl) rfl ?_
  refine K.GL.nil ?_
  refine K.GQ.go ?_
  refine K.GC.seq ?_
  refine K.GC.seq ?_
  refine K.GC.region ?_
  refine K.GL.det (K.e_assign rfl) rfl ?_
  refine K.GL.nil ?_
  refine K.GQ.go ?_
  refine K.GC.block ?_
  refine K.GC.loopk (α := Nat) [0, 2, 3, 14] rfl (fun x => [(3, .slice (some ⟨b5, 0, none⟩) 64 64), (4, .int .i64 (x : Int))]) (fun x => [trow (some ⟨b5, 0, none⟩) 64 5 encB (blkN q x)]) (fun x => x ≤ 64) (fun x => (64 - x)) 0 (by omega) (by (repeat refine ⟨rfl, ?_⟩); exact trivial) (K.Sub.refl _) (fun x hI => ?_)
  refine K.GC.seq ?_
  refine K.GC.seq ?_
  refine K.GC.region ?_
  refine K.GL.det (K.e_move rfl) rfl ?_
  first | refine K.GL.det ((K.e_lt rfl rfl).yes (by first | omega | assumption | decide +kernel)) rfl ?_ | refine K.GL.det ((K.e_lt rfl rfl).no (by first | omega | assumption | decide +kernel)) rfl ?_ | refine K.GL.det (K.e_lt rfl rfl) rfl ?_
  refine K.GL.nil ?_
  refine K.GQ.go ?_
  refine K.GC.condB rfl (fun h1 => ?_) (fun h1 => ?_)
  · first
    | exact absurd h1 (by decide)
    | try replace h1 := of_decide_eq_true h1
      refine K.GC.skip ?_
      refine K.GQ.go ?_
      refine K.GC.seq ?_
      refine K.GC.block ?_
      refine K.GC.region ?_
      refine K.GL.det (K.e_move rfl) rfl ?_
      refine K.GL.det (K.e_move rfl) rfl ?_
      refine K.GL.det (K.e_move rfl) rfl ?_
      refine K.GL.ix (l := blkN q x) sl37 rfl rfl rfl (by rw [blkN_len q (by omega)]) (by rw [blkN_len q (by omega)]; omega) rfl (fun q13 hq13 => ?_)
      refine K.GL.storeT (q : UInt8) rfl rfl rfl Try.sizeOf5 rfl (by rw [blkN_len q (by omega)]; omega) ?_
      refine K.GL.nil ?_
      refine K.GQ.block_normal ?_
      refine K.GQ.go ?_
      refine K.GC.region ?_
      refine K.GL.det (K.e_move rfl) rfl ?_
      first | refine K.GL.det (K.e_add rfl rfl ⟨by omega, by omega⟩) rfl ?_ | refine K.GL.det (K.e_addw rfl rfl) rfl ?_
      refine K.GL.det (K.e_assign rfl) rfl ?_
      refine K.GL.nil ?_
      exact K.GQ.round (x + 1) (by omega) (by omega) (by (repeat refine ⟨rfl, ?_⟩); exact trivial) (by rw [blkN_set q (by omega)]; exact K.Sub.refl _)
  · first
    | exact absurd h1 (by decide)
    | try replace h1 := of_decide_eq_false h1
      refine K.GC.exit ?_
      refine K.GQ.then_exit ?_
      refine K.GQ.then_exit ?_
      refine K.GQ.block_hit ?_
      refine K.GQ.go ?_
      refine K.GC.seq ?_
      refine K.GC.region ?_
      refine K.GL.det (K.e_move rfl) rfl ?_
      refine K.GL.det (K.e_assign rfl) rfl ?_
      refine K.GL.nil ?_
      refine K.GQ.go ?_
      refine K.GC.ret ?_
      refine K.GQ.ret1 Try.results22 rfl (fun w hT => ?_)
      obtain rfl : x = 64 := by omega
      rw [blkN_all] at hT
      exact ⟨some ⟨b5, 0, none⟩, 64, by rw [blk_len], hT⟩
section
variable {ops : Array Oper} {Q : Exit → Act → World → Prop} {N : Nat} {U : Env} {w0 : World} {L0 L F : List Res} {ty : TypeId} {rest : List Oper} {pos : String} {after : Array Edge} {xs : List Operand} {tys : Array TypeId} {dT : Tmp}
theorem gl_block_con {q : UInt8} (hf : ∀ args w, (callFunc 22 args).run Try.prog w = .ok (.enter 22 args) w) (hx : opvs U xs = some [.int .u8 (q.toNat : Int)]) (hd : Nat.ble (dT + 1) N = true)
    (hr : ∀ (a' : Option Addr) (c' : Nat), GL Try.prog ops Q rest N ((dT, .slice a' (blk q).length c') :: U) w0 L0 (trow a' c' 5 encB (blk q) :: L)) : GL Try.prog ops Q (⟨some dT, .call ⟨.value (.func 22), xs.toArray, tys⟩, ty, pos, after, Option.none⟩ :: rest) N U w0 L0 L :=
  GL.callM (α := (Option Addr) × (Nat)) (l := []) (Pv := fun y v => v = .slice y.1 (blk q).length y.2) (l' := fun y => [trow y.1 y.2 5 encB (blk q)]) hf hx (Sub.refl _)
    (fun w hT => by
      exact (block_con ).mono fun e w' ⟨a', c', h1, h2⟩ => ⟨(a', c'), _, h1, rfl, h2⟩) hd fun y v hv => by subst hv; exact hr y.1 y.2 
end
section
variable {ops : Array Oper} {Q : Exit → Act → World → Prop} {N : Nat} {U : Env} {w0 : World} {L0 L F : List Res} {ty : TypeId} {rest : List Oper} {pos : String} {after : Array Edge} {xs : List Operand} {tys : Array TypeId} {dT : Tmp}
theorem em_block_con {q : UInt8} (hf : ∀ args w, (callFunc 22 args).run Try.prog w = .ok (.enter 22 args) w) (hx : opvs U xs = some [.int .u8 (q.toNat : Int)]) : K.D.EvM Try.prog U w0 L0 L [] (.call ⟨.value (.func 22), xs.toArray, tys⟩) ty (fun g => .slice (g 0).1 (blk q).length (g 0).2) (fun g => True) (fun g => trow (g 0).1 (g 0).2 5 encB (blk q)) :=
  K.D.em_call hf hx fun w hT => by
    have hT1 := hT; exact (block_con ).mono fun e w' ⟨a', c', h1, h2⟩ => ⟨fun i => (a', c'), h1, trivial, h2⟩
end

/-! ### What is written ahead of a Save -/
def fbl (l : Bytes) (x : Nat) : Nat → Bytes := fun j => if 2 ≤ j ∧ j < 2 + x then blk ((l[j - 2]?).getD 0) else zer
theorem fbl_zero (l : Bytes) : fbl l 0 = fun _ => zer := by
  funext j
  unfold fbl
  rw [if_neg (by omega)]
theorem fbl_next {l : Bytes} {x : Nat} {q : UInt8} (hq : l[x]? = some q) : upd (fbl l x) (2 + x) (blk q) = fbl l (x + 1) := by
  funext j
  unfold upd fbl
  by_cases h : j = 2 + x
  · subst h
    rw [if_pos rfl, if_pos (by omega), show 2 + x - 2 = x by omega, hq]; rfl
  · rw [if_neg h]
    by_cases h2 : 2 ≤ j ∧ j < 2 + x
    · rw [if_pos h2, if_pos (by omega)]
    · rw [if_neg h2, if_neg (by omega)]
theorem fbl_low (l : Bytes) (x : Nat) {j : Nat} (h : j < 2) : fbl l x j = zer := by unfold fbl; rw [if_neg (by omega)]
abbrev kbl (l : Bytes) (t : Tab) : Nat → Bytes := upd (fbl l l.length) (t.gen % 2).toNat (putT t)
theorem kbl_at {l : Bytes} {t : Tab} {x : Nat} {q : UInt8} (hq : l[x]? = some q) : kbl l t (2 + x) = blk q := by
  have hx := (List.getElem?_eq_some_iff.1 hq).1
  unfold kbl upd
  rw [if_neg (by omega)]
  unfold fbl
  rw [if_pos (by omega), show 2 + x - 2 = x by omega, hq]; rfl
theorem kbl_load {l : Bytes} {t : Tab} (hR : RightP t) : ldF (kbl l t) = t := by
  refine ldF_old hR ?_ ?_
  · unfold kbl upd; rw [if_pos rfl]
  · unfold kbl upd
    rw [if_neg (by omega), fbl_low l _ (by omega)]
    exact zeros_bad
theorem Dv.kbl {s : DS} {l : Bytes} {t : Tab} (h : Dv 20 s (kbl l t)) (hR : RightP t) : s.load = (t, true, 0) := by
  have hg := hR.g1
  rw [h.load (by decide), kbl_load hR, decide_eq_true (by omega : 0 < t.gen)]
end Go.Proofs.Ytdbedajaapamhaa
