/- Numbers in bytes, and sums. -/
import Derived.Test.YtdbedajaapamhaaGreatTabA
namespace Go.Proofs.YtdbedajaapamhaaGreat
open Go Go.K
set_option linter.unusedVariables false
set_option linter.unusedSimpArgs false
attribute [local irreducible] Calls Ev GL GC GQ GR Code.wp

/-! ### Sums, bit by bit -/

def poly : BitVec 32 := 2197175160#32

/-- One bit falls out. -/

def S1 (r : BitVec 32) : BitVec 32 := if r &&& BitVec.ofInt 32 1 = BitVec.ofInt 32 1 then (r >>> 1) ^^^ BitVec.ofInt 32 2197175160 else r >>> 1

def Sn : Nat → BitVec 32 → BitVec 32
  | 0, r => r
  | n + 1, r => S1 (Sn n r)

def crcTab : List (BitVec 32) := (List.range 16).map fun i => Sn 4 (BitVec.ofNat 32 i)

def tabAt (x : Nat) : List (BitVec 32) := crcTab.take x ++ List.replicate (16 - x) 0#32

theorem crcTab_len : crcTab.length = 16 := rfl

theorem crcTab_get (i : Nat) (h : i < 16) : crcTab[i]? = some (Sn 4 (BitVec.ofNat 32 i)) := by
  unfold crcTab
  rw [List.getElem?_map, List.getElem?_range h]; rfl

theorem tab_set (x : Nat) (h : x < 16) : (tabAt x).set x (Sn 4 (BitVec.ofNat 32 x)) = tabAt (x + 1) := by
  unfold tabAt
  have h1 : (crcTab.take x).length = x := by rw [List.length_take, crcTab_len]; omega
  have h2 : 16 - x = (16 - (x + 1)) + 1 := by omega
  rw [List.set_append_right _ _ (by omega), h1, Nat.sub_self, h2, List.replicate_succ, List.set_cons_zero, take_one (crcTab_get x h), List.append_assoc]
  rfl

theorem tab_splice (x : Nat) (h : x < 16) : spliceO (encW.fl (tabAt x)) (0 + ((x : Int)).toNat * 1) (encW.f (Sn 4 (BitVec.ofNat 32 x))) = some (encW.fl (tabAt (x + 1))) := by
  have h1 : (tabAt x).length = 16 := by unfold tabAt; rw [List.length_append, List.length_take, crcTab_len, List.length_replicate]; omega
  have h2 := encW.fl_set (l := tabAt x) (i := x) (Sn 4 (BitVec.ofNat 32 x)) (by omega)
  rw [tab_set x h] at h2
  rw [Nat.zero_add, Int.toNat_natCast]
  exact h2

theorem tab_end : takeO (encW.fl (tabAt 16)) 0 16 = some (encW.fl crcTab) := by
  have : tabAt 16 = crcTab := by unfold tabAt; rw [List.take_of_length_le (by rw [crcTab_len]; omega)]; simp
  rw [this]
  exact takeO_all (by rw [encW.fl_length]; rfl)

theorem and15 (r : BitVec 32) : (((r &&& BitVec.ofInt 32 15).toNat : Int)) < ((16 : Nat) : Int) := by
  have h : (r &&& BitVec.ofInt 32 15).toNat ≤ 15 := by rw [BitVec.toNat_and]; exact Nat.and_le_right
  omega

theorem tab_load (r : BitVec 32) : (encW.fl crcTab)[0 + (((r &&& BitVec.ofInt 32 15).toNat : Int)).toNat * 1]? = some (.int .u32 ((Sn 4 (r &&& BitVec.ofInt 32 15)).toNat : Int)) := by
  have h1 := and15 r
  have h2 := encW.fl_get (j := 0) (crcTab_get (r &&& BitVec.ofInt 32 15).toNat (by omega)) (by decide)
  rw [BitVec.ofNat_toNat, BitVec.setWidth_eq] at h2
  rw [Nat.zero_add, Int.toNat_natCast]
  exact h2

/-- Half a byte falls out. -/

def N4 (r : BitVec 32) : BitVec 32 := (r >>> (4 : Int).toNat) ^^^ Sn 4 (r &&& BitVec.ofInt 32 15)

def crc8 (r : BitVec 32) (b : UInt8) : BitVec 32 := N4 (N4 (r ^^^ BitVec.ofNat 32 b.toNat))

def crcM (s : BitVec 32) (l : Bytes) : BitVec 32 := ~~~(l.foldl crc8 (~~~s))

theorem fold_next {l : Bytes} {x : Nat} {q : UInt8} (h : l[x]? = some q) (r : BitVec 32) : (l.take (x + 1)).foldl crc8 r = crc8 ((l.take x).foldl crc8 r) q := by
  rw [take_one h, List.foldl_append]; rfl

/-- A number's four bytes. -/

def f4 (n : BitVec 32) : Bytes := [UInt8.ofNat n.toNat, UInt8.ofNat (n >>> 8).toNat, UInt8.ofNat (n >>> 16).toNat, UInt8.ofNat (n >>> 24).toNat]

theorem f4_len (n : BitVec 32) : (f4 n).length = 4 := rfl

theorem or_bytes {n : Int} {y : Nat} {b : UInt8} (h0 : 0 ≤ n) (h1 : n < 256 ^ y) (hy : y < 7) : IntKind.i64.wrap ((BitVec.ofInt 64 n ||| BitVec.ofInt 64 ((b.toNat : Int) * 256 ^ y)).toNat : Int) = n + 256 ^ y * (b.toNat : Int) := by
  obtain ⟨m, rfl⟩ := Int.eq_ofNat_of_zero_le h0
  have hb := b.toNat_lt
  have h2 : m < 256 ^ y := by
    have e : ((256 : Int) ^ y) = ((256 ^ y : Nat) : Int) := by simp
    rw [e] at h1; omega
  have hp : (256 : Nat) ^ y ≤ 256 ^ 6 := Nat.pow_le_pow_right (by omega) (by omega)
  have h3 : b.toNat * 256 ^ y ≤ 255 * 256 ^ 6 := Nat.mul_le_mul (by omega) hp
  have h4 : ((b.toNat : Int) * 256 ^ y) = ((b.toNat * 256 ^ y : Nat) : Int) := by simp
  have h5 : (256 : Nat) ^ y = 2 ^ (8 * y) := by rw [Nat.pow_mul]
  rw [h4, BitVec.ofInt_natCast, BitVec.ofInt_natCast, BitVec.toNat_or, BitVec.toNat_ofNat, BitVec.toNat_ofNat, Nat.mod_eq_of_lt (by omega), Nat.mod_eq_of_lt (by omega), Nat.or_comm, Nat.mul_comm, h5, ← Nat.two_pow_add_eq_or_of_lt (by rw [← h5]; exact h2), ← h5]
  rw [wrap_i64 (by omega) (by rw [Nat.mul_comm] at h3; omega)]
  simp only [Int.natCast_add, Int.natCast_mul, Int.natCast_pow]
  rw [Int.add_comm]
  rfl

theorem shl_bytes {y : Nat} {b : UInt8} (hy : y < 7) : IntKind.i64.wrap ((b.toNat : Int) * 2 ^ (min (8 * (y : Int)).toNat IntKind.i64.bits)) = (b.toNat : Int) * 256 ^ y := by
  have h1 : min (8 * (y : Int)).toNat IntKind.i64.bits = 8 * y := by simp only [IntKind.bits]; omega
  rw [h1, Int.pow_mul]
  have hb := b.toNat_lt
  have hp : (256 : Nat) ^ y ≤ 256 ^ 6 := Nat.pow_le_pow_right (by omega) (by omega)
  have h3 : b.toNat * 256 ^ y ≤ 255 * 256 ^ 6 := Nat.mul_le_mul (by omega) hp
  have h4 : ((b.toNat : Int) * (2 ^ 8) ^ y) = ((b.toNat * 256 ^ y : Nat) : Int) := by simp
  rw [h4, wrap_i64 (by omega) (by omega)]
  simp

theorem arr105 : K.arrOf Tryz.prog 105 = some (4, 5, 1) := by kernel_rfl
/- turntable/cell.four -/
set_option maxHeartbeats 1000000 in
set_option maxRecDepth 100000 in
theorem four_con {n : BitVec 32} {w : World} :
    Calls Tryz.prog 77 #[.int .u32 ((n).toNat : Int)] w fun e w' => e = .returned (.agg (encB.fl (f4 n)).toArray) ∧ Tr w [] w' [] := by
  refine K.enter0 (args := [_]) Tryz.func77 rfl Tryz.ntmps77 rfl ?_
  refine K.GC.seq ?_
  refine K.GC.region ?_
  refine K.GL.alloc Tryz.zeroValue105 rfl rfl (fun b2 => ?_)
  refine K.GL.nil ?_
  refine K.GQ.go ?_
  refine K.GC.seq ?_
  refine K.GC.region ?_
  refine K.GL.alloc Tryz.zeroValue105 rfl rfl (fun b3 => ?_)
  refine K.GL.nil ?_
  refine K.GQ.go ?_
  refine K.GC.seq ?_
  refine K.GC.seq ?_
  refine K.GC.region ?_
  refine K.GL.det (K.e_move rfl) rfl ?_
  refine K.GL.nil ?_
  refine K.GQ.go ?_
  refine K.GC.block ?_
  refine K.GC.rounds 5 ?_
  refine K.GR.keep [0, 2, 3, 4, 5, 6, 7, 8, 9, 10, 11, 12, 13, 14, 15, 16] rfl ?_
  refine K.GR.succ ?_
  refine K.GC.seq ?_
  refine K.GC.region ?_
  first | refine K.GL.det ((K.e_lt rfl rfl).yes (by first | omega | assumption | decide +kernel)) rfl ?_ | refine K.GL.det ((K.e_lt rfl rfl).no (by first | omega | assumption | decide +kernel)) rfl ?_ | refine K.GL.det (K.e_lt rfl rfl) rfl ?_
  refine K.GL.nil ?_
  refine K.GQ.go ?_
  refine K.GC.seq ?_
  refine K.GC.condB rfl (fun h1 => ?_) (fun h1 => ?_)
  · first
    | exact absurd h1 (by decide)
    | try replace h1 := of_decide_eq_true h1
      refine K.GC.skip ?_
      refine K.GQ.go ?_
      refine K.GC.seq ?_
      refine K.GC.block ?_
      refine K.GC.seq ?_
      refine K.GC.region ?_
      refine K.GL.det (K.e_move rfl) rfl ?_
      refine K.GL.det (K.e_assign rfl) rfl ?_
      refine K.GL.nil ?_
      refine K.GQ.go ?_
      refine K.GC.region ?_
      refine K.GL.det (K.e_move rfl) rfl ?_
      refine K.GL.det (K.e_move rfl) rfl ?_
      refine K.GL.det (K.e_move rfl) rfl ?_
      first | refine K.GL.det (K.e_mul rfl rfl ⟨by omega, by omega⟩) rfl ?_ | refine K.GL.det (K.e_mulw rfl rfl) rfl ?_
      first | refine K.GL.det (K.e_shr32 rfl rfl) rfl ?_ | refine K.GL.det (K.e_shr rfl rfl (by omega)) rfl ?_
      first | refine K.GL.det (K.e_c8_32 Tryz.underlying71 Tryz.underlying5 rfl) rfl ?_ | refine K.GL.det (K.e_c8 Tryz.underlying71 Tryz.underlying5 rfl) rfl ?_
      refine K.GL.det (K.e_indexAddrA arr105 rfl rfl (by omega) (by omega)) rfl ?_
      refine K.GL.store rfl rfl rfl Tryz.sizeOf5 rfl rfl ?_
      refine K.GL.nil ?_
      refine K.GQ.block_normal ?_
      refine K.GQ.go ?_
      refine K.GC.region ?_
      first | refine K.GL.det (K.e_add rfl rfl ⟨by omega, by omega⟩) rfl ?_ | refine K.GL.det (K.e_addw rfl rfl) rfl ?_
      refine K.GL.det (K.e_move rfl) rfl ?_
      refine K.GL.nil ?_
      refine K.GQ.again ?_
      refine K.GR.keep [0, 2, 3, 4, 5, 6, 7, 8, 9, 10, 11, 12, 13, 14, 15, 16] rfl ?_
      refine K.GR.succ ?_
      refine K.GC.seq ?_
      refine K.GC.region ?_
      first | refine K.GL.det ((K.e_lt rfl rfl).yes (by first | omega | assumption | decide +kernel)) rfl ?_ | refine K.GL.det ((K.e_lt rfl rfl).no (by first | omega | assumption | decide +kernel)) rfl ?_ | refine K.GL.det (K.e_lt rfl rfl) rfl ?_
      refine K.GL.nil ?_
      refine K.GQ.go ?_
      refine K.GC.seq ?_
      refine K.GC.condB rfl (fun h2 => ?_) (fun h2 => ?_)
      · first
        | exact absurd h2 (by decide)
        | try replace h2 := of_decide_eq_true h2
          refine K.GC.skip ?_
          refine K.GQ.go ?_
          refine K.GC.seq ?_
          refine K.GC.block ?_
          refine K.GC.seq ?_
          refine K.GC.region ?_
          refine K.GL.det (K.e_move rfl) rfl ?_
          refine K.GL.det (K.e_assign rfl) rfl ?_
          refine K.GL.nil ?_
          refine K.GQ.go ?_
          refine K.GC.region ?_
          refine K.GL.det (K.e_move rfl) rfl ?_
          refine K.GL.det (K.e_move rfl) rfl ?_
          refine K.GL.det (K.e_move rfl) rfl ?_
          first | refine K.GL.det (K.e_mul rfl rfl ⟨by omega, by omega⟩) rfl ?_ | refine K.GL.det (K.e_mulw rfl rfl) rfl ?_
          first | refine K.GL.det (K.e_shr32 rfl rfl) rfl ?_ | refine K.GL.det (K.e_shr rfl rfl (by omega)) rfl ?_
          first | refine K.GL.det (K.e_c8_32 Tryz.underlying71 Tryz.underlying5 rfl) rfl ?_ | refine K.GL.det (K.e_c8 Tryz.underlying71 Tryz.underlying5 rfl) rfl ?_
          refine K.GL.det (K.e_indexAddrA arr105 rfl rfl (by omega) (by omega)) rfl ?_
          refine K.GL.store rfl rfl rfl Tryz.sizeOf5 rfl rfl ?_
          refine K.GL.nil ?_
          refine K.GQ.block_normal ?_
          refine K.GQ.go ?_
          refine K.GC.region ?_
          first | refine K.GL.det (K.e_add rfl rfl ⟨by omega, by omega⟩) rfl ?_ | refine K.GL.det (K.e_addw rfl rfl) rfl ?_
          refine K.GL.det (K.e_move rfl) rfl ?_
          refine K.GL.nil ?_
          refine K.GQ.again ?_
          refine K.GR.keep [0, 2, 3, 4, 5, 6, 7, 8, 9, 10, 11, 12, 13, 14, 15, 16] rfl ?_
          refine K.GR.succ ?_
          refine K.GC.seq ?_
          refine K.GC.region ?_
          first | refine K.GL.det ((K.e_lt rfl rfl).yes (by first | omega | assumption | decide +kernel)) rfl ?_ | refine K.GL.det ((K.e_lt rfl rfl).no (by first | omega | assumption | decide +kernel)) rfl ?_ | refine K.GL.det (K.e_lt rfl rfl) rfl ?_
          refine K.GL.nil ?_
          refine K.GQ.go ?_
          refine K.GC.seq ?_
          refine K.GC.condB rfl (fun h3 => ?_) (fun h3 => ?_)
          · first
            | exact absurd h3 (by decide)
            | try replace h3 := of_decide_eq_true h3
              refine K.GC.skip ?_
              refine K.GQ.go ?_
              refine K.GC.seq ?_
              refine K.GC.block ?_
              refine K.GC.seq ?_
              refine K.GC.region ?_
              refine K.GL.det (K.e_move rfl) rfl ?_
              refine K.GL.det (K.e_assign rfl) rfl ?_
              refine K.GL.nil ?_
              refine K.GQ.go ?_
              refine K.GC.region ?_
              refine K.GL.det (K.e_move rfl) rfl ?_
              refine K.GL.det (K.e_move rfl) rfl ?_
              refine K.GL.det (K.e_move rfl) rfl ?_
              first | refine K.GL.det (K.e_mul rfl rfl ⟨by omega, by omega⟩) rfl ?_ | refine K.GL.det (K.e_mulw rfl rfl) rfl ?_
              first | refine K.GL.det (K.e_shr32 rfl rfl) rfl ?_ | refine K.GL.det (K.e_shr rfl rfl (by omega)) rfl ?_
              first | refine K.GL.det (K.e_c8_32 Tryz.underlying71 Tryz.underlying5 rfl) rfl ?_ | refine K.GL.det (K.e_c8 Tryz.underlying71 Tryz.underlying5 rfl) rfl ?_
              refine K.GL.det (K.e_indexAddrA arr105 rfl rfl (by omega) (by omega)) rfl ?_
              refine K.GL.store rfl rfl rfl Tryz.sizeOf5 rfl rfl ?_
              refine K.GL.nil ?_
              refine K.GQ.block_normal ?_
              refine K.GQ.go ?_
              refine K.GC.region ?_
              first | refine K.GL.det (K.e_add rfl rfl ⟨by omega, by omega⟩) rfl ?_ | refine K.GL.det (K.e_addw rfl rfl) rfl ?_
              refine K.GL.det (K.e_move rfl) rfl ?_
              refine K.GL.nil ?_
              refine K.GQ.again ?_
              refine K.GR.keep [0, 2, 3, 4, 5, 6, 7, 8, 9, 10, 11, 12, 13, 14, 15, 16] rfl ?_
              refine K.GR.succ ?_
              refine K.GC.seq ?_
              refine K.GC.region ?_
              first | refine K.GL.det ((K.e_lt rfl rfl).yes (by first | omega | assumption | decide +kernel)) rfl ?_ | refine K.GL.det ((K.e_lt rfl rfl).no (by first | omega | assumption | decide +kernel)) rfl ?_ | refine K.GL.det (K.e_lt rfl rfl) rfl ?_
              refine K.GL.nil ?_
              refine K.GQ.go ?_
              refine K.GC.seq ?_
              refine K.GC.condB rfl (fun h4 => ?_) (fun h4 => ?_)
              · first
                | exact absurd h4 (by decide)
                | try replace h4 := of_decide_eq_true h4
                  refine K.GC.skip ?_
                  refine K.GQ.go ?_
                  refine K.GC.seq ?_
                  refine K.GC.block ?_
                  refine K.GC.seq ?_
                  refine K.GC.region ?_
                  refine K.GL.det (K.e_move rfl) rfl ?_
                  refine K.GL.det (K.e_assign rfl) rfl ?_
                  refine K.GL.nil ?_
                  refine K.GQ.go ?_
                  refine K.GC.region ?_
                  refine K.GL.det (K.e_move rfl) rfl ?_
                  refine K.GL.det (K.e_move rfl) rfl ?_
                  refine K.GL.det (K.e_move rfl) rfl ?_
                  first | refine K.GL.det (K.e_mul rfl rfl ⟨by omega, by omega⟩) rfl ?_ | refine K.GL.det (K.e_mulw rfl rfl) rfl ?_
                  first | refine K.GL.det (K.e_shr32 rfl rfl) rfl ?_ | refine K.GL.det (K.e_shr rfl rfl (by omega)) rfl ?_
                  first | refine K.GL.det (K.e_c8_32 Tryz.underlying71 Tryz.underlying5 rfl) rfl ?_ | refine K.GL.det (K.e_c8 Tryz.underlying71 Tryz.underlying5 rfl) rfl ?_
                  refine K.GL.det (K.e_indexAddrA arr105 rfl rfl (by omega) (by omega)) rfl ?_
                  refine K.GL.store rfl rfl rfl Tryz.sizeOf5 rfl rfl ?_
                  refine K.GL.nil ?_
                  refine K.GQ.block_normal ?_
                  refine K.GQ.go ?_
                  refine K.GC.region ?_
                  first | refine K.GL.det (K.e_add rfl rfl ⟨by omega, by omega⟩) rfl ?_ | refine K.GL.det (K.e_addw rfl rfl) rfl ?_
                  refine K.GL.det (K.e_move rfl) rfl ?_
                  refine K.GL.nil ?_
                  refine K.GQ.again ?_
                  refine K.GR.keep [0, 2, 3, 4, 5, 6, 7, 8, 9, 10, 11, 12, 13, 14, 15, 16] rfl ?_
                  refine K.GR.succ ?_
                  refine K.GC.seq ?_
                  refine K.GC.region ?_
                  first | refine K.GL.det ((K.e_lt rfl rfl).yes (by first | omega | assumption | decide +kernel)) rfl ?_ | refine K.GL.det ((K.e_lt rfl rfl).no (by first | omega | assumption | decide +kernel)) rfl ?_ | refine K.GL.det (K.e_lt rfl rfl) rfl ?_
                  refine K.GL.nil ?_
                  refine K.GQ.go ?_
                  refine K.GC.seq ?_
                  refine K.GC.condB rfl (fun h5 => ?_) (fun h5 => ?_)
                  · first
                    | exact absurd h5 (by decide)
                    | try replace h5 := of_decide_eq_true h5
                      refine K.GC.skip ?_
                      refine K.GQ.go ?_
                      refine K.GC.seq ?_
                      refine K.GC.block ?_
                      refine K.GC.seq ?_
                      refine K.GC.region ?_
                      refine K.GL.det (K.e_move rfl) rfl ?_
                      refine K.GL.det (K.e_assign rfl) rfl ?_
                      refine K.GL.nil ?_
                      refine K.GQ.go ?_
                      refine K.GC.region ?_
                      refine K.GL.det (K.e_move rfl) rfl ?_
                      refine K.GL.det (K.e_move rfl) rfl ?_
                      refine K.GL.det (K.e_move rfl) rfl ?_
                      first | refine K.GL.det (K.e_mul rfl rfl ⟨by omega, by omega⟩) rfl ?_ | refine K.GL.det (K.e_mulw rfl rfl) rfl ?_
                      first | refine K.GL.det (K.e_shr32 rfl rfl) rfl ?_ | refine K.GL.det (K.e_shr rfl rfl (by omega)) rfl ?_
                      first | refine K.GL.det (K.e_c8_32 Tryz.underlying71 Tryz.underlying5 rfl) rfl ?_ | refine K.GL.det (K.e_c8 Tryz.underlying71 Tryz.underlying5 rfl) rfl ?_
                      refine K.GL.det (K.e_indexAddrA arr105 rfl rfl (by omega) (by omega)) rfl ?_
                      refine K.GL.store rfl rfl rfl Tryz.sizeOf5 rfl rfl ?_
                      refine K.GL.nil ?_
                      refine K.GQ.block_normal ?_
                      refine K.GQ.go ?_
                      refine K.GC.region ?_
                      first | refine K.GL.det (K.e_add rfl rfl ⟨by omega, by omega⟩) rfl ?_ | refine K.GL.det (K.e_addw rfl rfl) rfl ?_
                      refine K.GL.det (K.e_move rfl) rfl ?_
                      refine K.GL.nil ?_
                      refine K.GQ.again ?_
                      exfalso; omega
                  · first
                    | exact absurd h5 (by decide)
                    | try replace h5 := of_decide_eq_false h5
                      refine K.GC.exit ?_
                      refine K.GQ.then_exit ?_
                      refine K.GQ.then_exit ?_
                      refine K.GQ.block_hit ?_
                      refine K.GQ.go ?_
                      refine K.GC.seq ?_
                      refine K.GC.region ?_
                      first | refine K.GL.det (K.e_ldA Tryz.isAgg105 Tryz.sizeOf105 rfl rfl (by assumption)) rfl ?_ | refine K.GL.det (K.e_ldAF Tryz.isAgg105 Tryz.sizeOf105 rfl rfl (by assumption) rfl) rfl ?_ | refine K.GL.det (K.e_loads Tryz.isAgg105 Tryz.sizeOf105 rfl rfl) rfl ?_
                      refine K.GL.store rfl rfl rfl Tryz.sizeOf105 rfl rfl ?_
                      refine K.GL.nil ?_
                      refine K.GQ.go ?_
                      refine K.GC.ret ?_
                      refine K.GQ.retc Tryz.results77 Tryz.isAgg105 Tryz.sizeOf105 rfl rfl (fun w hT => ?_)
                      exact ⟨rfl, hT.nil⟩
              · first
                | exact absurd h4 (by decide)
                | try replace h4 := of_decide_eq_false h4
                  refine K.GC.exit ?_
                  refine K.GQ.then_exit ?_
                  refine K.GQ.then_exit ?_
                  refine K.GQ.block_hit ?_
                  refine K.GQ.go ?_
                  refine K.GC.seq ?_
                  refine K.GC.region ?_
                  first | refine K.GL.det (K.e_ldA Tryz.isAgg105 Tryz.sizeOf105 rfl rfl (by assumption)) rfl ?_ | refine K.GL.det (K.e_ldAF Tryz.isAgg105 Tryz.sizeOf105 rfl rfl (by assumption) rfl) rfl ?_ | refine K.GL.det (K.e_loads Tryz.isAgg105 Tryz.sizeOf105 rfl rfl) rfl ?_
                  refine K.GL.store rfl rfl rfl Tryz.sizeOf105 rfl rfl ?_
                  refine K.GL.nil ?_
                  refine K.GQ.go ?_
                  refine K.GC.ret ?_
                  refine K.GQ.retc Tryz.results77 Tryz.isAgg105 Tryz.sizeOf105 rfl rfl (fun w hT => ?_)
                  exact ⟨rfl, hT.nil⟩
          · first
            | exact absurd h3 (by decide)
            | try replace h3 := of_decide_eq_false h3
              refine K.GC.exit ?_
              refine K.GQ.then_exit ?_
              refine K.GQ.then_exit ?_
              refine K.GQ.block_hit ?_
              refine K.GQ.go ?_
              refine K.GC.seq ?_
              refine K.GC.region ?_
              first | refine K.GL.det (K.e_ldA Tryz.isAgg105 Tryz.sizeOf105 rfl rfl (by assumption)) rfl ?_ | refine K.GL.det (K.e_ldAF Tryz.isAgg105 Tryz.sizeOf105 rfl rfl (by assumption) rfl) rfl ?_ | refine K.GL.det (K.e_loads Tryz.isAgg105 Tryz.sizeOf105 rfl rfl) rfl ?_
              refine K.GL.store rfl rfl rfl Tryz.sizeOf105 rfl rfl ?_
              refine K.GL.nil ?_
              refine K.GQ.go ?_
              refine K.GC.ret ?_
              refine K.GQ.retc Tryz.results77 Tryz.isAgg105 Tryz.sizeOf105 rfl rfl (fun w hT => ?_)
              exact ⟨rfl, hT.nil⟩
      · first
        | exact absurd h2 (by decide)
        | try replace h2 := of_decide_eq_false h2
          refine K.GC.exit ?_
          refine K.GQ.then_exit ?_
          refine K.GQ.then_exit ?_
          refine K.GQ.block_hit ?_
          refine K.GQ.go ?_
          refine K.GC.seq ?_
          refine K.GC.region ?_
          first | refine K.GL.det (K.e_ldA Tryz.isAgg105 Tryz.sizeOf105 rfl rfl (by assumption)) rfl ?_ | refine K.GL.det (K.e_ldAF Tryz.isAgg105 Tryz.sizeOf105 rfl rfl (by assumption) rfl) rfl ?_ | refine K.GL.det (K.e_loads Tryz.isAgg105 Tryz.sizeOf105 rfl rfl) rfl ?_
          refine K.GL.store rfl rfl rfl Tryz.sizeOf105 rfl rfl ?_
          refine K.GL.nil ?_
          refine K.GQ.go ?_
          refine K.GC.ret ?_
          refine K.GQ.retc Tryz.results77 Tryz.isAgg105 Tryz.sizeOf105 rfl rfl (fun w hT => ?_)
          exact ⟨rfl, hT.nil⟩
  · first
    | exact absurd h1 (by decide)
    | try replace h1 := of_decide_eq_false h1
      refine K.GC.exit ?_
      refine K.GQ.then_exit ?_
      refine K.GQ.then_exit ?_
      refine K.GQ.block_hit ?_
      refine K.GQ.go ?_
      refine K.GC.seq ?_
      refine K.GC.region ?_
      first | refine K.GL.det (K.e_ldA Tryz.isAgg105 Tryz.sizeOf105 rfl rfl (by assumption)) rfl ?_ | refine K.GL.det (K.e_ldAF Tryz.isAgg105 Tryz.sizeOf105 rfl rfl (by assumption) rfl) rfl ?_ | refine K.GL.det (K.e_loads Tryz.isAgg105 Tryz.sizeOf105 rfl rfl) rfl ?_
      refine K.GL.store rfl rfl rfl Tryz.sizeOf105 rfl rfl ?_
      refine K.GL.nil ?_
      refine K.GQ.go ?_
      refine K.GC.ret ?_
      refine K.GQ.retc Tryz.results77 Tryz.isAgg105 Tryz.sizeOf105 rfl rfl (fun w hT => ?_)
      exact ⟨rfl, hT.nil⟩
section
variable {ops : Array Oper} {Q : Exit → Act → World → Prop} {N : Nat} {U : Env} {w0 : World} {L0 L F : List Res} {ty : TypeId} {rest : List Oper} {pos : String} {after : Array Edge} {xs : List Operand} {tys : Array TypeId} {dT : Tmp}
theorem ev_four_con {n : BitVec 32} (hf : ∀ args w, (callFunc 77 args).run Tryz.prog w = .ok (.enter 77 args) w) (hx : opvs U xs = some [.int .u32 ((n).toNat : Int)]) : Ev Tryz.prog U w0 L0 L (.call ⟨.value (.func 77), xs.toArray, tys⟩) ty (Is (.agg (encB.fl (f4 n)).toArray)) No :=
  K.e_call1 hf hx (fun w hT => by exact four_con )
end
/- turntable/cell.Right -/
set_option maxHeartbeats 1000000 in
set_option maxRecDepth 100000 in
theorem cright_con {s p : Int} {w : World} :
    Calls Tryz.prog 65 #[.int .i64 s, .int .i64 p] w fun e w' => e = .returned (.bool (decide (1 ≤ s ∧ s ≤ 2147483648 ∧ 0 ≤ p ∧ p ≤ 255))) ∧ Tr w [] w' [] := by
  refine K.enter0 (args := [_, _]) Tryz.func65 rfl Tryz.ntmps65 rfl ?_
  refine K.GC.seq ?_
  refine K.GC.region ?_
  refine K.GL.det (K.e_assign rfl) rfl ?_
  refine K.GL.nil ?_
  refine K.GQ.go ?_
  refine K.GC.seq ?_
  refine K.GC.region ?_
  refine K.GL.det (K.e_move rfl) rfl ?_
  first | refine K.GL.det ((K.e_ge rfl rfl).yes (by fail)) rfl ?_ | refine K.GL.det ((K.e_ge rfl rfl).no (by fail)) rfl ?_ | refine K.GL.det (K.e_ge rfl rfl) rfl ?_
  refine K.GL.det (K.e_move rfl) rfl ?_
  first | refine K.GL.splitB 7 rfl (fun h1 => ?_) (fun h1 => ?_) | skip
  all_goals first | exact absurd h1 (by decide) | replace h1 := of_decide_eq_true h1 | replace h1 := of_decide_eq_false h1 | skip
  all_goals
    first | (refine K.GL.want 7 rfl rfl rfl ?_; first | refine K.GL.det (K.e_move rfl) rfl ?_) | refine K.GL.skip 7 rfl rfl rfl rfl ?_ | refine K.GL.skipU 7 rfl rfl rfl rfl ?_
    first | (refine K.GL.want 7 rfl rfl rfl ?_; first | refine K.GL.det ((K.e_le rfl rfl).yes (by fail)) rfl ?_ | refine K.GL.det ((K.e_le rfl rfl).no (by fail)) rfl ?_ | refine K.GL.det (K.e_le rfl rfl) rfl ?_) | refine K.GL.skip 7 rfl rfl rfl rfl ?_ | refine K.GL.skipU 7 rfl rfl rfl rfl ?_
    first | refine K.GL.det (K.e_pick_t rfl rfl) rfl ?_ | refine K.GL.det (K.e_pick_f rfl rfl) rfl ?_
    refine K.GL.det (K.e_move rfl) rfl ?_
    first | refine K.GL.splitB 11 rfl (fun h2 => ?_) (fun h2 => ?_) | skip
    all_goals first | exact absurd h2 (by decide) | replace h2 := of_decide_eq_true h2 | replace h2 := of_decide_eq_false h2 | skip
    all_goals
      first | (refine K.GL.want 11 rfl rfl rfl ?_; first | refine K.GL.det (K.e_move rfl) rfl ?_) | refine K.GL.skip 11 rfl rfl rfl rfl ?_ | refine K.GL.skipU 11 rfl rfl rfl rfl ?_
      first | (refine K.GL.want 11 rfl rfl rfl ?_; first | refine K.GL.det ((K.e_ge rfl rfl).yes (by fail)) rfl ?_ | refine K.GL.det ((K.e_ge rfl rfl).no (by fail)) rfl ?_ | refine K.GL.det (K.e_ge rfl rfl) rfl ?_) | refine K.GL.skip 11 rfl rfl rfl rfl ?_ | refine K.GL.skipU 11 rfl rfl rfl rfl ?_
      first | refine K.GL.det (K.e_pick_t rfl rfl) rfl ?_ | refine K.GL.det (K.e_pick_f rfl rfl) rfl ?_
      refine K.GL.det (K.e_move rfl) rfl ?_
      first | refine K.GL.splitB 15 rfl (fun h3 => ?_) (fun h3 => ?_) | skip
      all_goals first | exact absurd h3 (by decide) | replace h3 := of_decide_eq_true h3 | replace h3 := of_decide_eq_false h3 | skip
      all_goals
        first | (refine K.GL.want 15 rfl rfl rfl ?_; first | refine K.GL.det (K.e_move rfl) rfl ?_) | refine K.GL.skip 15 rfl rfl rfl rfl ?_ | refine K.GL.skipU 15 rfl rfl rfl rfl ?_
        first | (refine K.GL.want 15 rfl rfl rfl ?_; first | refine K.GL.det ((K.e_le rfl rfl).yes (by fail)) rfl ?_ | refine K.GL.det ((K.e_le rfl rfl).no (by fail)) rfl ?_ | refine K.GL.det (K.e_le rfl rfl) rfl ?_) | refine K.GL.skip 15 rfl rfl rfl rfl ?_ | refine K.GL.skipU 15 rfl rfl rfl rfl ?_
        first | refine K.GL.det (K.e_pick_t rfl rfl) rfl ?_ | refine K.GL.det (K.e_pick_f rfl rfl) rfl ?_
        refine K.GL.det (K.e_assign rfl) rfl ?_
        refine K.GL.nil ?_
        refine K.GQ.go ?_
        refine K.GC.ret ?_
        refine K.GQ.ret1 Tryz.results65 rfl (fun w hT => ?_)
        exact ⟨by simp only [Ending.returned.injEq, Value.bool.injEq]; first | (symm; exact decide_eq_true (by omega)) | (symm; exact decide_eq_false (by omega)) | (rw [decide_eq_decide]; omega), hT.nil⟩
section
variable {ops : Array Oper} {Q : Exit → Act → World → Prop} {N : Nat} {U : Env} {w0 : World} {L0 L F : List Res} {ty : TypeId} {rest : List Oper} {pos : String} {after : Array Edge} {xs : List Operand} {tys : Array TypeId} {dT : Tmp}
theorem ev_cright_con {s p : Int} (hf : ∀ args w, (callFunc 65 args).run Tryz.prog w = .ok (.enter 65 args) w) (hx : opvs U xs = some [.int .i64 s, .int .i64 p]) : Ev Tryz.prog U w0 L0 L (.call ⟨.value (.func 65), xs.toArray, tys⟩) ty (Is (.bool (decide (1 ≤ s ∧ s ≤ 2147483648 ∧ 0 ≤ p ∧ p ≤ 255)))) No :=
  K.e_call1 hf hx (fun w hT => by exact cright_con )
end
theorem arr147 : K.arrOf Tryz.prog 147 = some (16, 71, 1) := by kernel_rfl
/- turntable/crc.table -/
set_option maxHeartbeats 1000000 in
set_option maxRecDepth 100000 in
theorem ctab_con {w : World} :
    Calls Tryz.prog 110 #[] w fun e w' => e = .returned (.agg (encW.fl crcTab).toArray) ∧ Tr w [] w' [] := by
  refine K.enter0 (args := []) Tryz.func110 rfl Tryz.ntmps110 rfl ?_
  refine K.GC.seq ?_
  refine K.GC.region ?_
  refine K.GL.alloc Tryz.zeroValue147 rfl rfl (fun b0 => ?_)
  refine K.GL.nil ?_
  refine K.GQ.go ?_
  refine K.GC.seq ?_
  refine K.GC.region ?_
  refine K.GL.alloc Tryz.zeroValue147 rfl rfl (fun b1 => ?_)
  refine K.GL.nil ?_
  refine K.GQ.go ?_
  refine K.GC.seq ?_
  refine K.GC.seq ?_
  refine K.GC.region ?_
  refine K.GL.det (K.e_move rfl) rfl ?_
  refine K.GL.nil ?_
  refine K.GQ.go ?_
  refine K.GC.block ?_
  refine K.GC.loopk (α := Nat) [0, 1, 24] rfl (fun x => [(4, .int .i64 (x : Int))]) (fun x => [cl b1 147 (encW.fl (tabAt x)), cl b0 147 (encW.fl (List.replicate 16 0#32))]) (fun x => x ≤ 16) (fun x => (16 - x)) 0 (by omega) (by first | ((repeat refine ⟨rfl, ?_⟩); exact trivial) | (simp only [List.take_zero, List.map_nil, List.flatMap_nil, List.append_nil]; (repeat refine ⟨rfl, ?_⟩); exact trivial)) (K.Sub.refl _) (fun x hI => ?_)
  refine K.GC.seq ?_
  refine K.GC.region ?_
  first | refine K.GL.det ((K.e_lt rfl rfl).yes (by first | omega | assumption | decide +kernel)) rfl ?_ | refine K.GL.det ((K.e_lt rfl rfl).no (by first | omega | assumption | decide +kernel)) rfl ?_ | refine K.GL.det (K.e_lt rfl rfl) rfl ?_
  refine K.GL.nil ?_
  refine K.GQ.go ?_
  refine K.GC.seq ?_
  refine K.GC.condB rfl (fun h1 => ?_) (fun h1 => ?_)
  · first
    | exact absurd h1 (by decide)
    | try replace h1 := of_decide_eq_true h1
      refine K.GC.skip ?_
      refine K.GQ.go ?_
      refine K.GC.seq ?_
      refine K.GC.block ?_
      refine K.GC.seq ?_
      refine K.GC.region ?_
      refine K.GL.det (K.e_move rfl) rfl ?_
      refine K.GL.det (K.e_assign rfl) rfl ?_
      refine K.GL.nil ?_
      refine K.GQ.go ?_
      refine K.GC.seq ?_
      refine K.GC.region ?_
      refine K.GL.det (K.e_move rfl) rfl ?_
      refine K.GL.det ((K.e_c32 Tryz.underlying3 Tryz.underlying71 rfl)) rfl ?_
      refine K.GL.det (K.e_assign rfl) rfl ?_
      refine K.GL.nil ?_
      refine K.GQ.go ?_
      refine K.GC.seq ?_
      refine K.GC.seq ?_
      refine K.GC.region ?_
      refine K.GL.det (K.e_move rfl) rfl ?_
      refine K.GL.nil ?_
      refine K.GQ.go ?_
      refine K.GC.block ?_
      refine K.GC.loopk (α := Nat) [0, 1, 2, 4, 5, 6, 7, 8, 20, 21, 22, 23, 24] rfl (fun y => [(3, .int .u32 ((Sn y (BitVec.ofNat 32 x)).toNat : Int)), (9, .int .i64 (y : Int))]) (fun y => [cl b1 147 (encW.fl (tabAt x)), cl b0 147 (encW.fl (List.replicate 16 0#32))]) (fun y => y ≤ 4) (fun y => (4 - y)) 0 (by omega) (by (repeat refine ⟨rfl, ?_⟩); exact trivial) (by first | exact K.sb | (dsimp only; exact K.sb) | (simp only [List.take_zero, List.map_nil, List.flatMap_nil, List.append_nil]; exact K.sb) | exact K.Sub.refl _) (fun y hI => ?_)
      refine K.GC.seq ?_
      refine K.GC.region ?_
      first | refine K.GL.det ((K.e_lt rfl rfl).yes (by first | omega | assumption | decide +kernel)) rfl ?_ | refine K.GL.det ((K.e_lt rfl rfl).no (by first | omega | assumption | decide +kernel)) rfl ?_ | refine K.GL.det (K.e_lt rfl rfl) rfl ?_
      refine K.GL.nil ?_
      refine K.GQ.go ?_
      refine K.GC.seq ?_
      refine K.GC.condB rfl (fun h2 => ?_) (fun h2 => ?_)
      · first
        | exact absurd h2 (by decide)
        | try replace h2 := of_decide_eq_true h2
          refine K.GC.skip ?_
          refine K.GQ.go ?_
          refine K.GC.seq ?_
          refine K.GC.block ?_
          refine K.GC.seq ?_
          refine K.GC.region ?_
          refine K.GL.det (K.e_move rfl) rfl ?_
          first | refine K.GL.det (K.e_and32 rfl rfl) rfl ?_ | refine K.GL.det (K.e_and32c rfl rfl) rfl ?_ | refine K.GL.det (K.e_and rfl rfl) rfl ?_
          first | refine K.GL.det (K.e_eql32 rfl rfl) rfl ?_ | refine K.GL.det ((K.e_eq rfl rfl).yes (by first | omega | assumption | decide +kernel)) rfl ?_ | refine K.GL.det ((K.e_eq rfl rfl).no (by first | omega | assumption | decide +kernel)) rfl ?_ | refine K.GL.det (K.e_eq rfl rfl) rfl ?_
          refine K.GL.nil ?_
          refine K.GQ.go ?_
          refine K.GC.condB rfl (fun h3 => ?_) (fun h3 => ?_)
          · first
            | exact absurd h3 (by decide)
            | try replace h3 := of_decide_eq_true h3
              refine K.GC.region ?_
              refine K.GL.det (K.e_move rfl) rfl ?_
              first | refine K.GL.det (K.e_shr32 rfl rfl) rfl ?_ | refine K.GL.det (K.e_shr rfl rfl (by omega)) rfl ?_
              first | refine K.GL.det (K.e_xor32 rfl rfl) rfl ?_ | refine K.GL.det (K.e_xor32c rfl rfl) rfl ?_ | refine K.GL.det (K.e_xor rfl rfl) rfl ?_
              refine K.GL.det (K.e_assign rfl) rfl ?_
              refine K.GL.nil ?_
              refine K.GQ.block_normal ?_
              refine K.GQ.go ?_
              refine K.GC.region ?_
              first | refine K.GL.det (K.e_add rfl rfl ⟨by omega, by omega⟩) rfl ?_ | refine K.GL.det (K.e_addw rfl rfl) rfl ?_
              refine K.GL.det (K.e_move rfl) rfl ?_
              refine K.GL.nil ?_
              have hs : Sn (y + 1) (BitVec.ofNat 32 x) = S1 (Sn y (BitVec.ofNat 32 x)) := rfl
              unfold S1 at hs
              first
                | (rw [if_pos (by assumption)] at hs; exact K.GQ.round (y + 1) (by omega) (by omega) (by rw [hs]; (repeat refine ⟨rfl, ?_⟩); exact trivial) K.sb)
                | (rw [if_neg (by assumption)] at hs; exact K.GQ.round (y + 1) (by omega) (by omega) (by rw [hs]; (repeat refine ⟨rfl, ?_⟩); exact trivial) K.sb)
          · first
            | exact absurd h3 (by decide)
            | try replace h3 := of_decide_eq_false h3
              refine K.GC.region ?_
              refine K.GL.det (K.e_move rfl) rfl ?_
              first | refine K.GL.det (K.e_shr32 rfl rfl) rfl ?_ | refine K.GL.det (K.e_shr rfl rfl (by omega)) rfl ?_
              refine K.GL.det (K.e_assign rfl) rfl ?_
              refine K.GL.nil ?_
              refine K.GQ.block_normal ?_
              refine K.GQ.go ?_
              refine K.GC.region ?_
              first | refine K.GL.det (K.e_add rfl rfl ⟨by omega, by omega⟩) rfl ?_ | refine K.GL.det (K.e_addw rfl rfl) rfl ?_
              refine K.GL.det (K.e_move rfl) rfl ?_
              refine K.GL.nil ?_
              have hs : Sn (y + 1) (BitVec.ofNat 32 x) = S1 (Sn y (BitVec.ofNat 32 x)) := rfl
              unfold S1 at hs
              first
                | (rw [if_pos (by assumption)] at hs; exact K.GQ.round (y + 1) (by omega) (by omega) (by rw [hs]; (repeat refine ⟨rfl, ?_⟩); exact trivial) K.sb)
                | (rw [if_neg (by assumption)] at hs; exact K.GQ.round (y + 1) (by omega) (by omega) (by rw [hs]; (repeat refine ⟨rfl, ?_⟩); exact trivial) K.sb)
      · first
        | exact absurd h2 (by decide)
        | try replace h2 := of_decide_eq_false h2
          refine K.GC.exit ?_
          refine K.GQ.then_exit ?_
          refine K.GQ.then_exit ?_
          refine K.GQ.block_hit ?_
          refine K.GQ.go ?_
          obtain rfl : y = 4 := by omega
          refine K.GC.region ?_
          refine K.GL.det (K.e_move rfl) rfl ?_
          refine K.GL.det (K.e_move rfl) rfl ?_
          refine K.GL.det (K.e_indexAddrA arr147 rfl rfl (by omega) (by omega)) rfl ?_
          refine K.GL.storeP rfl rfl rfl Tryz.sizeOf71 rfl rfl (tab_splice x (by omega)) ?_
          refine K.GL.nil ?_
          refine K.GQ.block_normal ?_
          refine K.GQ.go ?_
          refine K.GC.region ?_
          first | refine K.GL.det (K.e_add rfl rfl ⟨by omega, by omega⟩) rfl ?_ | refine K.GL.det (K.e_addw rfl rfl) rfl ?_
          refine K.GL.det (K.e_move rfl) rfl ?_
          refine K.GL.nil ?_
          exact K.GQ.round (x + 1) (by omega) (by omega) (by (repeat refine ⟨rfl, ?_⟩); exact trivial) (by first | exact K.sb | (dsimp only; exact K.sb))
  · first
    | exact absurd h1 (by decide)
    | try replace h1 := of_decide_eq_false h1
      refine K.GC.exit ?_
      refine K.GQ.then_exit ?_
      refine K.GQ.then_exit ?_
      refine K.GQ.block_hit ?_
      refine K.GQ.go ?_
      refine K.GC.seq ?_
      obtain rfl : x = 16 := by omega
      refine K.GC.region ?_
      refine K.GL.det (K.e_loadsP Tryz.isAgg147 Tryz.sizeOf147 rfl tab_end) rfl ?_
      refine K.GL.storeP (cs := encW.fl (List.replicate 16 0#32)) rfl rfl rfl Tryz.sizeOf147 rfl (encW.fl_one crcTab) (by exact spliceO_all rfl) ?_
      refine K.GL.nil ?_
      refine K.GQ.go ?_
      refine K.GC.ret ?_
      refine K.GQ.retc Tryz.results110 Tryz.isAgg147 Tryz.sizeOf147 rfl rfl (fun w hT => ?_)
      exact ⟨rfl, hT.nil⟩
section
variable {ops : Array Oper} {Q : Exit → Act → World → Prop} {N : Nat} {U : Env} {w0 : World} {L0 L F : List Res} {ty : TypeId} {rest : List Oper} {pos : String} {after : Array Edge} {xs : List Operand} {tys : Array TypeId} {dT : Tmp}
theorem ev_ctab_con (hf : ∀ args w, (callFunc 110 args).run Tryz.prog w = .ok (.enter 110 args) w) (hx : opvs U xs = some []) : Ev Tryz.prog U w0 L0 L (.call ⟨.value (.func 110), xs.toArray, tys⟩) ty (Is (.agg (encW.fl crcTab).toArray)) No :=
  K.e_call1 hf hx (fun w hT => by exact ctab_con )
end
theorem sl32 : K.slOf Tryz.prog 32 = some (5, 1) := by kernel_rfl
/- turntable/crc.More -/
set_option maxHeartbeats 1000000 in
set_option maxRecDepth 100000 in
theorem more_con {s : BitVec 32} {l : Bytes} {a : Option Addr} {c : Nat} {w : World} (hl : l.length < 9223372036854775807) [Old w [] a (encB) (l)] :
    Calls Tryz.prog 93 #[.int .u32 ((s).toNat : Int), .slice a l.length c] w fun e w' => e = .returned (.int .u32 ((crcM s l).toNat : Int)) ∧ Tr w [] w' [] := by
  refine K.enter0 (args := [_, _]) Tryz.func93 rfl Tryz.ntmps93 rfl ?_
  refine K.GC.seq ?_
  refine K.GC.region ?_
  refine K.GL.det (K.e_assign rfl) rfl ?_
  refine K.GL.nil ?_
  refine K.GQ.go ?_
  refine K.GC.seq ?_
  refine K.GC.region ?_
  refine K.GL.det (ev_ctab_con Tryz.call110 rfl ) rfl ?_
  refine K.GL.alloc Tryz.zeroValue147 rfl rfl (fun b5 => ?_)
  refine K.GL.storeP (vs := encW.fl crcTab) (cs' := encW.fl crcTab) rfl rfl rfl Tryz.sizeOf147 rfl (encW.fl_one crcTab) (by exact spliceO_all rfl) ?_
  refine K.GL.nil ?_
  refine K.GQ.go ?_
  refine K.GC.seq ?_
  refine K.GC.region ?_
  refine K.GL.det (K.e_move rfl) rfl ?_
  refine K.GL.det (K.e_not32 rfl) rfl ?_
  refine K.GL.det (K.e_assign rfl) rfl ?_
  refine K.GL.nil ?_
  refine K.GQ.go ?_
  refine K.GC.seq ?_
  refine K.GC.seq ?_
  refine K.GC.region ?_
  refine K.GL.det (K.e_move rfl) rfl ?_
  refine K.GL.det (K.e_len Tryz.underlying32 rfl) rfl ?_
  refine K.GL.det (K.e_move rfl) rfl ?_
  refine K.GL.nil ?_
  refine K.GQ.go ?_
  refine K.GC.block ?_
  refine K.GC.loopk (α := Nat) [4, 5, 12, 13, 37, 38] rfl (fun x => [(6, .int .u32 (((l.take x).foldl crc8 (~~~s)).toNat : Int)), (14, .int .i64 (x : Int))]) (fun x => [cl b5 147 (encW.fl crcTab)]) (fun x => x ≤ l.length) (fun x => (l.length - x)) 0 (Nat.zero_le _) (by first | ((repeat refine ⟨rfl, ?_⟩); exact trivial) | (simp only [List.take_zero, List.map_nil, List.flatMap_nil, List.append_nil]; (repeat refine ⟨rfl, ?_⟩); exact trivial)) (by first | exact K.sb | (dsimp only; exact K.sb) | (simp only [List.take_zero, List.map_nil, List.flatMap_nil, List.append_nil]; exact K.sb) | exact K.Sub.refl _) (fun x hI => ?_)
  refine K.GC.seq ?_
  refine K.GC.region ?_
  first | refine K.GL.det ((K.e_lt rfl rfl).yes (by first | omega | assumption | decide +kernel)) rfl ?_ | refine K.GL.det ((K.e_lt rfl rfl).no (by first | omega | assumption | decide +kernel)) rfl ?_ | refine K.GL.det (K.e_lt rfl rfl) rfl ?_
  refine K.GL.nil ?_
  refine K.GQ.go ?_
  refine K.GC.seq ?_
  refine K.GC.condB rfl (fun h1 => ?_) (fun h1 => ?_)
  · first
    | exact absurd h1 (by decide)
    | try replace h1 := of_decide_eq_true h1
      refine K.GC.skip ?_
      refine K.GQ.go ?_
      refine K.GC.seq ?_
      refine K.GC.block ?_
      refine K.GC.seq ?_
      refine K.GC.region ?_
      first | refine K.GL.ixK sl32 rfl rfl rfl rfl (by assumption) rfl ?_ | refine K.GL.ix sl32 rfl rfl rfl rfl (by omega) rfl (fun q16 hq16 => ?_) | refine K.GL.ixI sl32 rfl rfl rfl rfl (by omega) (by omega) rfl (fun q16 hq16 => ?_) | refine K.GL.det (K.e_indexAddrS sl32 rfl rfl (by assumption) (by omega) (by omega)) rfl ?_ | refine K.GL.det (K.e_indexAddr sl32 rfl rfl (by omega) (by omega)) rfl ?_
      first | refine K.GL.det (K.e_ldE Tryz.isAgg5 rfl rfl (by assumption) rfl) rfl ?_ | refine K.GL.det (K.e_ldF Tryz.isAgg5 rfl rfl (by assumption) rfl) rfl ?_ | refine K.GL.det (K.e_load Tryz.isAgg5 rfl rfl) rfl ?_ | refine K.GL.det (K.e_load0 Tryz.isAgg5 rfl (by assumption)) rfl ?_
      refine K.GL.det (K.e_assign rfl) rfl ?_
      refine K.GL.nil ?_
      refine K.GQ.go ?_
      refine K.GC.seq ?_
      refine K.GC.region ?_
      refine K.GL.det (K.e_move rfl) rfl ?_
      refine K.GL.det (K.e_move rfl) rfl ?_
      refine K.GL.det (K.e_c32_8 Tryz.underlying5 Tryz.underlying71 rfl) rfl ?_
      first | refine K.GL.det (K.e_xor32 rfl rfl) rfl ?_ | refine K.GL.det (K.e_xor32c rfl rfl) rfl ?_ | refine K.GL.det (K.e_xor rfl rfl) rfl ?_
      refine K.GL.det (K.e_assign rfl) rfl ?_
      refine K.GL.nil ?_
      refine K.GQ.go ?_
      refine K.GC.seq ?_
      refine K.GC.region ?_
      refine K.GL.det (K.e_move rfl) rfl ?_
      first | refine K.GL.det (K.e_shr32 rfl rfl) rfl ?_ | refine K.GL.det (K.e_shr rfl rfl (by omega)) rfl ?_
      refine K.GL.det (K.e_move rfl) rfl ?_
      first | refine K.GL.det (K.e_and32 rfl rfl) rfl ?_ | refine K.GL.det (K.e_and32c rfl rfl) rfl ?_ | refine K.GL.det (K.e_and rfl rfl) rfl ?_
      refine K.GL.det (K.e_indexAddrA arr147 rfl rfl (by omega) (and15 _)) rfl ?_
      refine K.GL.det (K.e_load Tryz.isAgg71 rfl (tab_load _)) rfl ?_
      first | refine K.GL.det (K.e_xor32 rfl rfl) rfl ?_ | refine K.GL.det (K.e_xor32c rfl rfl) rfl ?_ | refine K.GL.det (K.e_xor rfl rfl) rfl ?_
      refine K.GL.det (K.e_assign rfl) rfl ?_
      refine K.GL.nil ?_
      refine K.GQ.go ?_
      refine K.GC.region ?_
      refine K.GL.det (K.e_move rfl) rfl ?_
      first | refine K.GL.det (K.e_shr32 rfl rfl) rfl ?_ | refine K.GL.det (K.e_shr rfl rfl (by omega)) rfl ?_
      refine K.GL.det (K.e_move rfl) rfl ?_
      first | refine K.GL.det (K.e_and32 rfl rfl) rfl ?_ | refine K.GL.det (K.e_and32c rfl rfl) rfl ?_ | refine K.GL.det (K.e_and rfl rfl) rfl ?_
      refine K.GL.det (K.e_indexAddrA arr147 rfl rfl (by omega) (and15 _)) rfl ?_
      refine K.GL.det (K.e_load Tryz.isAgg71 rfl (tab_load _)) rfl ?_
      first | refine K.GL.det (K.e_xor32 rfl rfl) rfl ?_ | refine K.GL.det (K.e_xor32c rfl rfl) rfl ?_ | refine K.GL.det (K.e_xor rfl rfl) rfl ?_
      refine K.GL.det (K.e_assign rfl) rfl ?_
      refine K.GL.nil ?_
      refine K.GQ.block_normal ?_
      refine K.GQ.go ?_
      refine K.GC.region ?_
      first | refine K.GL.det (K.e_add rfl rfl ⟨by omega, by omega⟩) rfl ?_ | refine K.GL.det (K.e_addw rfl rfl) rfl ?_
      refine K.GL.det (K.e_move rfl) rfl ?_
      refine K.GL.nil ?_
      exact K.GQ.round (x + 1) (by have := len_of hq16; omega) (by have := len_of hq16; omega) (by simp only [fold_next hq16]; (repeat refine ⟨rfl, ?_⟩); exact trivial) (by first | exact K.sb | (dsimp only; exact K.sb))
  · first
    | exact absurd h1 (by decide)
    | try replace h1 := of_decide_eq_false h1
      refine K.GC.exit ?_
      refine K.GQ.then_exit ?_
      refine K.GQ.then_exit ?_
      refine K.GQ.block_hit ?_
      refine K.GQ.go ?_
      refine K.GC.seq ?_
      refine K.GC.region ?_
      refine K.GL.det (K.e_move rfl) rfl ?_
      refine K.GL.det (K.e_not32 rfl) rfl ?_
      refine K.GL.det (K.e_assign rfl) rfl ?_
      refine K.GL.nil ?_
      refine K.GQ.go ?_
      refine K.GC.ret ?_
      refine K.GQ.ret1 Tryz.results93 rfl (fun w hT => ?_)
      exact ⟨by rw [List.take_of_length_le (by omega)]; rfl, hT.nil⟩
section
variable {ops : Array Oper} {Q : Exit → Act → World → Prop} {N : Nat} {U : Env} {w0 : World} {L0 L F : List Res} {ty : TypeId} {rest : List Oper} {pos : String} {after : Array Edge} {xs : List Operand} {tys : Array TypeId} {dT : Tmp}
theorem ev_more_con {s : BitVec 32} {l : Bytes} {a : Option Addr} {c : Nat} (hf : ∀ args w, (callFunc 93 args).run Tryz.prog w = .ok (.enter 93 args) w) (hx : opvs U xs = some [.int .u32 ((s).toNat : Int), .slice a l.length c]) (hl : l.length < 9223372036854775807) [o0 : RdC w0 L0 [] L a (encB) (l)] : Ev Tryz.prog U w0 L0 L (.call ⟨.value (.func 93), xs.toArray, tys⟩) ty (Is (.int .u32 ((crcM s l).toNat : Int))) No :=
  K.e_call1 hf hx (fun w hT => by have _o0 := o0.out w hT; exact more_con hl)
end
/- turntable/crc.Of -/
set_option maxHeartbeats 1000000 in
set_option maxRecDepth 100000 in
theorem of_con {l : Bytes} {a : Option Addr} {c : Nat} {w : World} (hl : l.length < 9223372036854775807) [Old w [] a (encB) (l)] :
    Calls Tryz.prog 78 #[.slice a l.length c] w fun e w' => e = .returned (.int .u32 ((crcM 0#32 l).toNat : Int)) ∧ Tr w [] w' [] := by
  refine K.enter0 (args := [_]) Tryz.func78 rfl Tryz.ntmps78 rfl ?_
  refine K.GC.seq ?_
  refine K.GC.region ?_
  refine K.GL.det (K.e_assign rfl) rfl ?_
  refine K.GL.nil ?_
  refine K.GQ.go ?_
  refine K.GC.seq ?_
  refine K.GC.region ?_
  refine K.GL.det (K.e_move rfl) rfl ?_
  refine K.GL.det (ev_more_con (s := 0#32) Tryz.call93 rfl (by first | assumption | omega | rfl | decide)) rfl ?_
  refine K.GL.det (K.e_assign rfl) rfl ?_
  refine K.GL.nil ?_
  refine K.GQ.go ?_
  refine K.GC.ret ?_
  refine K.GQ.ret1 Tryz.results78 rfl (fun w hT => ?_)
  exact ⟨rfl, hT.nil⟩
section
variable {ops : Array Oper} {Q : Exit → Act → World → Prop} {N : Nat} {U : Env} {w0 : World} {L0 L F : List Res} {ty : TypeId} {rest : List Oper} {pos : String} {after : Array Edge} {xs : List Operand} {tys : Array TypeId} {dT : Tmp}
theorem ev_of_con {l : Bytes} {a : Option Addr} {c : Nat} (hf : ∀ args w, (callFunc 78 args).run Tryz.prog w = .ok (.enter 78 args) w) (hx : opvs U xs = some [.slice a l.length c]) (hl : l.length < 9223372036854775807) [o0 : RdC w0 L0 [] L a (encB) (l)] : Ev Tryz.prog U w0 L0 L (.call ⟨.value (.func 78), xs.toArray, tys⟩) ty (Is (.int .u32 ((crcM 0#32 l).toNat : Int))) No :=
  K.e_call1 hf hx (fun w hT => by have _o0 := o0.out w hT; exact of_con hl)
end
/- turntable/table.take -/
set_option maxHeartbeats 1000000 in
set_option maxRecDepth 100000 in
theorem take_con {l : Bytes} {wd : Nat} {a : Option Addr} {c : Nat} {w : World} (hw : wd < 7) (hl : wd ≤ l.length) (hc : l.length ≤ c) [Old w [] a (encB) (l)] :
    Calls Tryz.prog 52 #[.slice a l.length c, .int .i64 (wd : Int)] w fun e w' => ∃ a' : Option Addr, e = .returned (.tuple #[.int .i64 (leN (l.take wd)), .slice a' (l.drop wd).length (c - wd)]) ∧ Part a' a encB l (l.drop wd) ∧ Tr w [] w' [] := by
  refine K.enter0 (args := [_, _]) Tryz.func52 rfl Tryz.ntmps52 rfl ?_
  refine K.GC.seq ?_
  refine K.GC.region ?_
  refine K.GL.det (K.e_assign rfl) rfl ?_
  refine K.GL.det (K.e_assign rfl) rfl ?_
  refine K.GL.nil ?_
  refine K.GQ.go ?_
  refine K.GC.seq ?_
  refine K.GC.region ?_
  refine K.GL.det (K.e_assign rfl) rfl ?_
  refine K.GL.nil ?_
  refine K.GQ.go ?_
  refine K.GC.seq ?_
  refine K.GC.seq ?_
  refine K.GC.region ?_
  refine K.GL.det (K.e_move rfl) rfl ?_
  refine K.GL.det (K.e_move rfl) rfl ?_
  refine K.GL.nil ?_
  refine K.GQ.go ?_
  refine K.GC.block ?_
  refine K.GC.loopk (α := Nat) [0, 1, 4, 5, 8, 23, 24, 25, 26] rfl (fun x => [(6, .int .i64 (leN (l.take x))), (9, .int .i64 (x : Int))]) (fun x => []) (fun x => x ≤ wd) (fun x => (wd - x)) 0 (Nat.zero_le _) (by first | ((repeat refine ⟨rfl, ?_⟩); exact trivial) | (simp only [List.take_zero, List.map_nil, List.flatMap_nil, List.append_nil]; (repeat refine ⟨rfl, ?_⟩); exact trivial)) (by first | exact K.sb | (dsimp only; exact K.sb) | (simp only [List.take_zero, List.map_nil, List.flatMap_nil, List.append_nil]; exact K.sb) | exact K.Sub.refl _) (fun x hI => ?_)
  refine K.GC.seq ?_
  refine K.GC.region ?_
  first | refine K.GL.det ((K.e_lt rfl rfl).yes (by first | omega | assumption | decide +kernel)) rfl ?_ | refine K.GL.det ((K.e_lt rfl rfl).no (by first | omega | assumption | decide +kernel)) rfl ?_ | refine K.GL.det (K.e_lt rfl rfl) rfl ?_
  refine K.GL.nil ?_
  refine K.GQ.go ?_
  refine K.GC.seq ?_
  refine K.GC.condB rfl (fun h1 => ?_) (fun h1 => ?_)
  · first
    | exact absurd h1 (by decide)
    | try replace h1 := of_decide_eq_true h1
      refine K.GC.skip ?_
      refine K.GQ.go ?_
      refine K.GC.seq ?_
      refine K.GC.block ?_
      refine K.GC.seq ?_
      refine K.GC.region ?_
      refine K.GL.det (K.e_move rfl) rfl ?_
      refine K.GL.det (K.e_assign rfl) rfl ?_
      refine K.GL.nil ?_
      refine K.GQ.go ?_
      refine K.GC.region ?_
      refine K.GL.det (K.e_move rfl) rfl ?_
      refine K.GL.det (K.e_move rfl) rfl ?_
      refine K.GL.det (K.e_move rfl) rfl ?_
      first | refine K.GL.ixK sl32 rfl rfl rfl rfl (by assumption) rfl ?_ | refine K.GL.ix sl32 rfl rfl rfl rfl (by omega) rfl (fun q15 hq15 => ?_) | refine K.GL.ixI sl32 rfl rfl rfl rfl (by omega) (by omega) rfl (fun q15 hq15 => ?_) | refine K.GL.det (K.e_indexAddrS sl32 rfl rfl (by assumption) (by omega) (by omega)) rfl ?_ | refine K.GL.det (K.e_indexAddr sl32 rfl rfl (by omega) (by omega)) rfl ?_
      first | refine K.GL.det (K.e_ldE Tryz.isAgg5 rfl rfl (by assumption) rfl) rfl ?_ | refine K.GL.det (K.e_ldF Tryz.isAgg5 rfl rfl (by assumption) rfl) rfl ?_ | refine K.GL.det (K.e_load Tryz.isAgg5 rfl rfl) rfl ?_ | refine K.GL.det (K.e_load0 Tryz.isAgg5 rfl (by assumption)) rfl ?_
      refine K.GL.det (K.e_c64_8 Tryz.underlying5 Tryz.underlying2 rfl) rfl ?_
      refine K.GL.det (K.e_move rfl) rfl ?_
      first | refine K.GL.det (K.e_mul rfl rfl ⟨by omega, by omega⟩) rfl ?_ | refine K.GL.det (K.e_mulw rfl rfl) rfl ?_
      refine K.GL.det ((K.e_shl rfl rfl (by omega)).cast_int (b := (q15.toNat : Int) * 256 ^ x) (shl_bytes (by omega))) rfl ?_
      refine K.GL.det ((K.e_or rfl rfl).cast_int (b := leN (l.take x) + 256 ^ x * (q15.toNat : Int)) (or_bytes (leN_bd _).1 (by have := (leN_bd (l.take x)).2; rwa [List.length_take, Nat.min_eq_left (by omega)] at this) (by omega))) rfl ?_
      refine K.GL.det (K.e_assign rfl) rfl ?_
      refine K.GL.nil ?_
      refine K.GQ.block_normal ?_
      refine K.GQ.go ?_
      refine K.GC.region ?_
      first | refine K.GL.det (K.e_add rfl rfl ⟨by omega, by omega⟩) rfl ?_ | refine K.GL.det (K.e_addw rfl rfl) rfl ?_
      refine K.GL.det (K.e_move rfl) rfl ?_
      refine K.GL.nil ?_
      exact K.GQ.round (x + 1) (by omega) (by omega) (by simp only [take_one hq15, leN_snoc, List.length_take, Nat.min_eq_left (show x ≤ l.length by omega)]; (repeat refine ⟨rfl, ?_⟩); exact trivial) (by first | exact K.sb | (dsimp only; exact K.sb))
  · first
    | exact absurd h1 (by decide)
    | try replace h1 := of_decide_eq_false h1
      refine K.GC.exit ?_
      refine K.GQ.then_exit ?_
      refine K.GQ.then_exit ?_
      refine K.GQ.block_hit ?_
      refine K.GQ.go ?_
      refine K.GC.seq ?_
      obtain rfl : x = wd := by omega
      refine K.D.GC.drawn0 5 [[], [], [], [1, 2], [0], [0, 1, 2, 3, 4]] [[], [], [], [1, 2], [0]] [[], [], [], [], []] [[], [], [], [], []] [] [0, 1, 5, 6] (by kernel_rfl) (by kernel_rfl) (by kernel_rfl) rfl ?_
      refine K.D.DW.det (b := []) (u := []) rfl rfl rfl (fun vs hf => K.e_move rfl) ?_
      refine K.D.DW.det (b := []) (u := []) rfl rfl rfl (fun vs hf => K.e_move rfl) ?_
      refine K.D.DW.det (b := []) (u := []) rfl rfl rfl (fun vs hf => K.e_move rfl) ?_
      refine K.D.DW.ev0 (b := [1, 2]) (u := []) (a := []) rfl rfl rfl (fun vs hf => show K.D.EvM _ _ _ _ (_) [] _ _ _ _ _ from K.D.em_partL sl32 rfl rfl rfl rfl (by omega) (by omega)) ?_
      refine K.D.DW.det (b := [0]) (u := []) rfl rfl rfl (fun vs hf => K.e_assign rfl) ?_
      refine K.D.DW.fin (fun vs hf => ?_)
      refine K.GL.keep [4, 5, 26] rfl ?_
      refine K.D.GL.resE (L' := _) rfl ?_
      try dsimp only
      obtain ⟨⟨hp26, _⟩, _⟩ := hf
      generalize (vs 3 0).1 = a26 at hp26 ⊢
      try clear vs
      refine K.GL.det (K.e_assign rfl) rfl ?_
      refine K.GL.nil ?_
      refine K.GQ.go ?_
      refine K.GC.ret ?_
      refine K.GQ.ret_tt Tryz.results52 rfl rfl (fun w hT => ?_)
      exact ⟨a26, rfl, hp26, hT.nil⟩
section
variable {ops : Array Oper} {Q : Exit → Act → World → Prop} {N : Nat} {U : Env} {w0 : World} {L0 L F : List Res} {ty : TypeId} {rest : List Oper} {pos : String} {after : Array Edge} {xs : List Operand} {tys : Array TypeId} {dT : Tmp}
theorem gl_take_con {l : Bytes} {wd : Nat} {a : Option Addr} {c : Nat} (hf : ∀ args w, (callFunc 52 args).run Tryz.prog w = .ok (.enter 52 args) w) (hx : opvs U xs = some [.slice a l.length c, .int .i64 (wd : Int)]) (hw : wd < 7) (hl : wd ≤ l.length) (hc : l.length ≤ c) [o0 : RdC w0 L0 [] L a (encB) (l)] (hd : Nat.ble (dT + 1) N = true)
    (hr : ∀ (a' : Option Addr), Part a' a encB l (l.drop wd) → GL Tryz.prog ops Q rest N ((dT, .tuple #[.int .i64 (leN (l.take wd)), .slice a' (l.drop wd).length (c - wd)]) :: U) w0 L0 (L)) : GL Tryz.prog ops Q (⟨some dT, .call ⟨.value (.func 52), xs.toArray, tys⟩, ty, pos, after, Option.none⟩ :: rest) N U w0 L0 L :=
  GL.callM (α := (Option Addr)) (l := []) (Pv := fun y v => v = .tuple #[.int .i64 (leN (l.take wd)), .slice y (l.drop wd).length (c - wd)] ∧ Part y a encB l (l.drop wd)) (l' := fun y => []) hf hx (Sub.refl _)
    (fun w hT => by
      have _o0 := o0.out w hT; exact (take_con hw hl hc).mono fun e w' ⟨a', h1, g0, h2⟩ => ⟨(a'), _, h1, ⟨rfl, g0⟩, h2⟩) hd fun y v hv => by obtain ⟨rfl, g0⟩ := hv; exact hr y g0
end
section
variable {ops : Array Oper} {Q : Exit → Act → World → Prop} {N : Nat} {U : Env} {w0 : World} {L0 L F : List Res} {ty : TypeId} {rest : List Oper} {pos : String} {after : Array Edge} {xs : List Operand} {tys : Array TypeId} {dT : Tmp}
end
/- bytes.Equal -/
set_option maxHeartbeats 1000000 in
set_option maxRecDepth 100000 in
theorem beq_con {l m : Bytes} {a a2 : Option Addr} {c c2 : Nat} {w : World} [Old w [] a (encB) (l)] [Old w [] a2 (encB) (m)] :
    Calls Tryz.prog 53 #[.slice a l.length c, .slice a2 m.length c2] w fun e w' => e = .returned (.bool (decide (l = m))) ∧ Tr w [] w' [] := by
  refine K.enter0 (args := [_, _]) Tryz.func53 rfl Tryz.ntmps53 rfl ?_
  refine K.GC.seq ?_
  refine K.GC.region ?_
  refine K.GL.det (K.e_assign rfl) rfl ?_
  refine K.GL.nil ?_
  refine K.GQ.go ?_
  refine K.GC.seq ?_
  refine K.GC.region ?_
  refine K.GL.det (K.e_move rfl) rfl ?_
  first | refine K.GL.det (K.e_str Tryz.underlying32 Tryz.underlying5 Tryz.underlying9 rfl rfl) rfl ?_ | refine K.GL.det (K.e_b2s Tryz.underlying32 Tryz.underlying5 Tryz.underlying9 rfl (by first | assumption | omega | rfl | simp [*])) rfl ?_
  refine K.GL.det (K.e_move rfl) rfl ?_
  first | refine K.GL.det (K.e_str Tryz.underlying32 Tryz.underlying5 Tryz.underlying9 rfl rfl) rfl ?_ | refine K.GL.det (K.e_b2s Tryz.underlying32 Tryz.underlying5 Tryz.underlying9 rfl (by first | assumption | omega | rfl | simp [*])) rfl ?_
  first | refine K.GL.det ((K.e_eqs Tryz.underlying9 rfl rfl).yes (by fail)) rfl ?_ | refine K.GL.det ((K.e_eqs Tryz.underlying9 rfl rfl).no (by fail)) rfl ?_ | refine K.GL.det (K.e_eqs Tryz.underlying9 rfl rfl) rfl ?_
  refine K.GL.det (K.e_assign rfl) rfl ?_
  refine K.GL.nil ?_
  refine K.GQ.go ?_
  refine K.GC.ret ?_
  refine K.GQ.ret1 Tryz.results53 rfl (fun w hT => ?_)
  exact ⟨rfl, hT.nil⟩
section
variable {ops : Array Oper} {Q : Exit → Act → World → Prop} {N : Nat} {U : Env} {w0 : World} {L0 L F : List Res} {ty : TypeId} {rest : List Oper} {pos : String} {after : Array Edge} {xs : List Operand} {tys : Array TypeId} {dT : Tmp}
theorem ev_beq_con {l m : Bytes} {a a2 : Option Addr} {c c2 : Nat} (hf : ∀ args w, (callFunc 53 args).run Tryz.prog w = .ok (.enter 53 args) w) (hx : opvs U xs = some [.slice a l.length c, .slice a2 m.length c2]) [o0 : RdC w0 L0 [] L a (encB) (l)] [o1 : RdC w0 L0 [] L a2 (encB) (m)] : Ev Tryz.prog U w0 L0 L (.call ⟨.value (.func 53), xs.toArray, tys⟩) ty (Is (.bool (decide (l = m)))) No :=
  K.e_call1 hf hx (fun w hT => by have _o0 := o0.out w hT; have _o1 := o1.out w hT; exact beq_con )
end
end Go.Proofs.YtdbedajaapamhaaGreat
