/- What a device tells, in plain terms. -/
import Derived.Test.YtgkdnecjokhkcaaDevL
import Derived.Test.YtgkdnecjokhkcaaKd
namespace Go.Proofs.Ytgkdnecjokhkcaa
open Go Go.K
set_option linter.unusedVariables false
set_option linter.unusedSimpArgs false
attribute [local irreducible] Calls Ev GL GC GQ GR Code.wp
/-! ### What a device tells, in plain terms -/
def DS.K (s : DS) (i : Nat) : Sec := s.kept[i]?.getD (secOf 0)
def DS.A (s : DS) (i : Nat) : Sec := (s.loose i).getD (s.K i)
theorem DS.at_A {s : DS} {i : Nat} (h : i < s.kept.length) : s.at i = some (s.A i) := by
  unfold DS.at DS.A DS.K
  cases s.loose i with
  | some y => rfl
  | none => simp only [List.getElem?_eq_getElem h]; rfl
theorem DS.read_A {s : DS} {i : Nat} (h : i < s.kept.length) (hd : s.down = false) : s.read i = ((s.A i).1, 0) := by
  have := DS.read_ok (s := s) (i := (i : Int)) (y := s.A i) (by omega) hd (by rw [Int.toNat_natCast]; exact DS.at_A h)
  exact this
theorem DS.read_e {s : DS} {i : Nat} (h : i < s.kept.length) : (s.down = true ∧ (s.read i).2 = 71) ∨ (s.down = false ∧ (s.read i).2 = 0) := by
  cases hd : s.down with
  | true => exact .inl ⟨rfl, by rw [DS.read_down (by omega) hd]⟩
  | false => exact .inr ⟨rfl, by rw [DS.read_A h hd]⟩
theorem DS.able_iff {s : DS} : s.able = true ↔ s.down = false ∧ s.cut ≠ 0 := by unfold DS.able; cases s.down <;> simp
def DS.did (s : DS) : DS := { s with cut := if 0 < s.cut then s.cut - 1 else s.cut, done := IntKind.i64.wrap (s.done + 1) }
theorem DS.thing_y {s : DS} (ha : s.able = true) : s.thing = s.did := by
  obtain ⟨h1, h2⟩ := DS.able_iff.1 ha
  unfold DS.thing DS.did
  rw [if_neg (by rw [h1]; simp), if_neg h2]
theorem DS.thing_n {s : DS} (ha : s.able = false) : s.thing = { s with down := true } := by
  unfold DS.thing
  cases hd : s.down with
  | true => rw [if_pos rfl, ← hd]
  | false =>
    have : s.cut = 0 := by
      apply Classical.byContradiction
      intro hc
      rw [DS.able_iff.2 ⟨hd, hc⟩] at ha
      cases ha
    rw [if_neg (by simp), if_pos this]
theorem DS.write_y {s : DS} {i : Nat} {y : Sec} (h : i < s.kept.length) (ha : s.able = true) : s.write i y.1 = ({ s.did with loose := fun j => if j = i then some y else s.loose j }, 0) := by
  have := DS.write_ok (s := s) (i := (i : Int)) (bs := y.1) ⟨⟨by omega, by omega⟩, y.2⟩ ha
  rw [this, DS.thing_y ha]
  simp only [Int.toNat_natCast, DS.did]
theorem DS.write_n {s : DS} {i : Nat} {y : Sec} (h : i < s.kept.length) (ha : s.able = false) : s.write i y.1 = ({ s with down := true }, 71) := by
  rw [DS.write_down (s := s) (i := (i : Int)) (bs := y.1) ⟨⟨by omega, by omega⟩, y.2⟩ ha, DS.thing_n ha]
theorem DS.flush_yy {s : DS} (ha : s.able = true) : s.flush = (s.did.flushed, 0) := by rw [DS.flush_y ha, DS.thing_y ha]
theorem DS.flush_nn {s : DS} (ha : s.able = false) : s.flush = ({ s with down := true }, 71) := by rw [DS.flush_n ha, DS.thing_n ha]
theorem DS.flushed_K {s : DS} {j : Nat} (h : j < s.kept.length) : s.flushed.K j = s.A j := by
  unfold DS.flushed DS.K DS.A DS.K
  simp only [List.getElem?_mapIdx, List.getElem?_eq_getElem h]
  rfl
theorem DS.flushed_A {s : DS} {j : Nat} (h : j < s.kept.length) : s.flushed.A j = s.A j := by
  rw [← DS.flushed_K h]; rfl
theorem DS.flushed_length (s : DS) : s.flushed.kept.length = s.kept.length := by unfold DS.flushed; simp
/-! A device whose power never fails. -/
structure Up (n : Nat) (s : DS) : Prop where
  len : s.kept.length = n
  down : s.down = false
  cut : s.cut < 0
theorem Up.able {n : Nat} {s : DS} (h : Up n s) : s.able = true := DS.able_iff.2 ⟨h.down, by have := h.cut; omega⟩
theorem Up.new (n : Nat) : Up n (DS.new n) := ⟨by simp [DS.new], rfl, by simp [DS.new]⟩
theorem Up.write {n : Nat} {s : DS} (h : Up n s) {i : Nat} (hi : i < n) (y : Sec) : Up n (s.write i y.1).1 ∧ (s.write i y.1).2 = 0 ∧ (∀ j, (s.write i y.1).1.K j = s.K j) ∧ (∀ j, (s.write i y.1).1.A j = if j = i then y else s.A j) ∧ (∀ j, ((s.write i y.1).1.loose j).isSome = true ↔ (j = i ∨ (s.loose j).isSome = true)) := by
  have hl := h.len
  rw [DS.write_y (by omega) h.able]
  refine ⟨⟨h.len, h.down, ?_⟩, rfl, fun j => rfl, fun j => ?_, fun j => ?_⟩
  · have := h.cut; simp only [DS.did]; rw [if_neg (by omega)]; exact this
  · unfold DS.A
    by_cases hj : j = i
    · simp [hj]
    · simp only [hj, if_false]; rfl
  · by_cases hj : j = i
    · simp [hj]
    · simp [hj]
theorem Up.flush {n : Nat} {s : DS} (h : Up n s) : Up n s.flush.1 ∧ s.flush.2 = 0 ∧ (∀ j, j < n → s.flush.1.K j = s.A j) ∧ (∀ j, j < n → s.flush.1.A j = s.A j) ∧ (∀ j, s.flush.1.loose j = none) := by
  have hl := h.len
  rw [DS.flush_yy h.able]
  have hd : s.did.kept.length = n := hl
  refine ⟨⟨(DS.flushed_length _).trans hd, h.down, ?_⟩, rfl, fun j hj => ?_, fun j hj => ?_, fun j => rfl⟩
  · have := h.cut; simp only [DS.did, DS.flushed]; rw [if_neg (by omega)]; exact this
  · rw [DS.flushed_K (by omega)]; rfl
  · rw [DS.flushed_A (by omega)]; rfl
theorem Up.read {n : Nat} {s : DS} (h : Up n s) {i : Nat} (hi : i < n) : s.read i = ((s.A i).1, 0) := DS.read_A (by have := h.len; omega) h.down
theorem DS.A_none {s : DS} {i : Nat} (h : s.loose i = none) : s.A i = s.K i := by unfold DS.A; rw [h]; rfl
/-! The sectors that are loose. -/
theorem DS.list_mem {s : DS} {i : Nat} : i ∈ s.list ↔ i < s.kept.length ∧ (s.loose i).isSome = true := by
  unfold DS.list
  rw [List.mem_filter, List.mem_range]
theorem DS.list_len (s : DS) : s.list.length ≤ s.kept.length := by
  unfold DS.list
  exact Nat.le_trans (List.length_filter_le _ _) (by simp)
theorem DS.list_lt (s : DS) : s.list.Pairwise (· < ·) := List.pairwise_lt_range.filter _
theorem DS.list_inc {s : DS} {a b i j : Nat} (ha : s.list[a]? = some i) (hb : s.list[b]? = some j) (h : a < b) : i < j := by
  obtain ⟨h1, rfl⟩ := List.getElem?_eq_some_iff.1 ha
  obtain ⟨h2, rfl⟩ := List.getElem?_eq_some_iff.1 hb
  exact List.pairwise_iff_getElem.1 s.list_lt a b h1 h2 h
theorem DS.list_inj {s : DS} {a b i : Nat} (ha : s.list[a]? = some i) (hb : s.list[b]? = some i) : a = b := by
  rcases (by omega : a < b ∨ b < a ∨ a = b) with h | h | h
  · exact absurd (DS.list_inc ha hb h) (by omega)
  · exact absurd (DS.list_inc hb ha h) (by omega)
  · exact h
def DS.kp (s : DS) (ks : List Bool) (m i : Nat) : Prop := ∃ k, k < m ∧ s.list[k]? = some i ∧ ks[k]? = some true
theorem keptL_get (s : DS) (ks : List Bool) {i : Nat} (hi : i < s.kept.length) : ∀ m, (s.kp ks m i → (s.keptL ks m)[i]? = some (s.A i)) ∧ (¬ s.kp ks m i → (s.keptL ks m)[i]? = some (s.K i))
  | 0 => ⟨fun ⟨k, hk, _⟩ => by omega, fun _ => by
      show s.kept[i]? = _
      unfold DS.K
      rw [List.getElem?_eq_getElem hi]; rfl⟩
  | m + 1 => by
    have ih := keptL_get s ks hi m
    have same : (¬ (s.list[m]? = some i ∧ ks[m]? = some true)) → (s.kp ks (m + 1) i ↔ s.kp ks m i) := fun hn =>
      ⟨fun ⟨k, hk, h1, h2⟩ => by
        by_cases hkm : k = m
        · subst hkm; exact absurd ⟨h1, h2⟩ hn
        · exact ⟨k, by omega, h1, h2⟩, fun ⟨k, hk, h1, h2⟩ => ⟨k, by omega, h1, h2⟩⟩
    cases h1 : s.list[m]? with
    | none =>
      have e : s.keptL ks (m + 1) = s.keptL ks m := by simp only [DS.keptL, h1]
      rw [e, same (by rw [h1]; simp)]; exact ih
    | some i' =>
      cases h2 : ks[m]? with
      | none =>
        have e : s.keptL ks (m + 1) = s.keptL ks m := by simp only [DS.keptL, h1, h2]
        rw [e, same (by rw [h2]; simp)]; exact ih
      | some b =>
        cases b with
        | false =>
          have e : s.keptL ks (m + 1) = s.keptL ks m := by simp only [DS.keptL, h1, h2]
          rw [e, same (by rw [h2]; simp)]; exact ih
        | true =>
          have hm := (DS.list_mem (s := s) (i := i')).1 (List.mem_of_getElem? h1)
          obtain ⟨y, hy⟩ := Option.isSome_iff_exists.1 hm.2
          have e : s.keptL ks (m + 1) = (s.keptL ks m).set i' y := by simp only [DS.keptL, h1, h2, hy]
          rw [e]
          by_cases hii : i' = i
          · subst hii
            refine ⟨fun _ => ?_, fun hn => absurd ⟨m, by omega, h1, h2⟩ hn⟩
            rw [List.getElem?_set_self (by rw [keptL_length]; exact hm.1)]
            unfold DS.A; rw [hy]; rfl
          · rw [List.getElem?_set_ne hii, same (by rw [h1]; simp [hii])]; exact ih
theorem DS.hurts_nil (s : DS) (ks : List Bool) : s.hurts ks [] = s.keptL ks s.list.length := rfl
theorem DS.hurts_one (s : DS) (ks : List Bool) (h : HX) : s.hurts ks [h] = hurt1 s.list ks (s.keptL ks s.list.length) h := rfl
theorem DS.boot_len (s : DS) (ks : List Bool) (hs : List HX) : (s.boot ks hs).kept.length = s.kept.length := hurts_length s ks hs
theorem DS.boot_up {s : DS} {n : Nat} (h : s.kept.length = n) (ks : List Bool) (hs : List HX) : Up n (s.boot ks hs) := ⟨(DS.boot_len s ks hs).trans h, rfl, by simp [DS.boot]⟩
theorem DS.boot_list (s : DS) (ks : List Bool) (hs : List HX) : (s.boot ks hs).list = [] := by
  unfold DS.list DS.boot; simp
theorem DS.boot_A (s : DS) (ks : List Bool) (hs : List HX) (i : Nat) : (s.boot ks hs).A i = (s.boot ks hs).K i := rfl
theorem DS.boot_yes {s : DS} {ks : List Bool} {i : Nat} (hi : i < s.kept.length) (h : s.kp ks s.list.length i) : (s.boot ks []).A i = s.A i := by
  show (s.hurts ks [])[i]?.getD _ = _
  rw [DS.hurts_nil, (keptL_get s ks hi _).1 h]; rfl
theorem DS.boot_no {s : DS} {ks : List Bool} {i : Nat} (hi : i < s.kept.length) (h : ¬ s.kp ks s.list.length i) : (s.boot ks []).A i = s.K i := by
  show (s.hurts ks [])[i]?.getD _ = _
  rw [DS.hurts_nil, (keptL_get s ks hi _).2 h]; rfl
theorem DS.kp_all {s : DS} {n i : Nat} (hn : s.kept.length ≤ n) (h : (s.loose i).isSome = true) (hi : i < s.kept.length) : s.kp (List.replicate n true) s.list.length i := by
  obtain ⟨k, hk⟩ := List.mem_iff_getElem?.1 (DS.list_mem.2 ⟨hi, h⟩)
  have hkl := (List.getElem?_eq_some_iff.1 hk).1
  have := s.list_len
  exact ⟨k, hkl, hk, by rw [List.getElem?_replicate, if_pos (by omega)]⟩
theorem DS.keptL_all {s : DS} {n i : Nat} (hn : s.kept.length ≤ n) (hi : i < s.kept.length) : (s.keptL (List.replicate n true) s.list.length)[i]? = some (s.A i) := by
  cases h : s.loose i with
  | some y => exact (keptL_get s _ hi _).1 (DS.kp_all hn (by rw [h]; rfl) hi)
  | none =>
    rw [DS.A_none h]
    refine (keptL_get s _ hi _).2 fun ⟨k, _, h1, _⟩ => ?_
    have := (DS.list_mem.1 (List.mem_of_getElem? h1)).2
    rw [h] at this; cases this
theorem DS.boot_all {s : DS} {n i : Nat} (hn : s.kept.length ≤ n) (hi : i < s.kept.length) : (s.boot (List.replicate n true) []).A i = s.A i := by
  show (s.hurts _ [])[i]?.getD _ = _
  rw [DS.hurts_nil, DS.keptL_all hn hi]; rfl
theorem DS.boot_none {s : DS} {i : Nat} (hi : i < s.kept.length) : (s.boot [] []).A i = s.K i := DS.boot_no hi fun ⟨k, _, _, h⟩ => by simp at h
/-! What turns in a sector that is hurt. -/
theorem flipS_get {x : Sec} {a w n : Nat} (h : n ≠ a / 8) : (flipS x a w).1[n]? = x.1[n]? := by
  unfold flipS setB
  simp only
  rw [List.getElem?_set_ne (by omega)]
theorem turnN_get {n : Nat} : ∀ (m : Nat) (x : Sec) (a w b : Nat), w < 2 ^ b → (8 * n + 7 < a ∨ a + b ≤ 8 * n) → (turnN m x a w).1[n]? = x.1[n]?
  | 0, x, a, w, b, _, _ => rfl
  | m + 1, x, a, w, b, hw, hn => by
    rw [turnN]
    by_cases h : w ≠ 0 ∧ a < 512
    · rw [if_pos h]
      cases b with
      | zero => simp at hw; omega
      | succ b =>
        rw [turnN_get m (flipS x a w) (a + 1) (w / 2) b (by rw [Nat.pow_succ] at hw; omega) (by omega), flipS_get (by omega)]
    · rw [if_neg h]
theorem turnS_get {x : Sec} {a w n : Nat} (hw : w < 4294967296) (hn : 8 * n + 7 < a ∨ a + 31 < 8 * n) : (turnS x a w).1[n]? = x.1[n]? := turnN_get (512 - a) x a w 32 (by simpa using hw) (by omega)
theorem DS.boot_hurt {s : DS} {n i : Nat} {h : HX} (hn : s.kept.length ≤ n) (hi : i < s.kept.length) :
    (s.boot (List.replicate n true) [h]).A i = s.A i ∨ (0 ≤ h.which ∧ s.list[h.which.toNat]? = some i ∧ 0 ≤ h.at_ ∧ (s.boot (List.replicate n true) [h]).A i = turnS (s.A i) h.at_.toNat h.bits) := by
  have hk : ∀ j, j < s.kept.length → (s.keptL (List.replicate n true) s.list.length)[j]? = some (s.A j) := fun j hj => DS.keptL_all hn hj
  have hb : (s.boot (List.replicate n true) [h]).A i = ((s.hurts (List.replicate n true) [h])[i]?).getD (secOf 0) := rfl
  rw [hb, DS.hurts_one]
  unfold hurt1
  split
  · rename_i hh
    cases hl : s.list[h.which.toNat]? with
    | none => left; simp only; rw [hk i hi]; rfl
    | some i' =>
      have hm := (DS.list_mem.1 (List.mem_of_getElem? hl)).1
      simp only [hk i' hm]
      by_cases hii : i' = i
      · subst hii
        right
        refine ⟨hh.1, rfl, hh.2.2.2.2.1, ?_⟩
        rw [List.getElem?_set_self (by rw [keptL_length]; exact hm)]; rfl
      · left
        rw [List.getElem?_set_ne hii, hk i hi]; rfl
  · left; rw [hk i hi]; rfl
/-! A device whose power fails at the thing 'a'. -/
structure Cut4 (s : DS) (a i : Nat) : Prop where
  len : s.kept.length = 4
  up : i ≤ a → s.down = false ∧ s.cut = (a : Int) - i ∧ s.done = i
  dn : a < i → s.down = true ∧ s.done = a
theorem Cut4.new (a : Nat) : Cut4 ((DS.new 4).setCut a) a 0 := by
  unfold DS.setCut
  rw [if_pos (by omega)]
  exact ⟨by simp [DS.new], fun _ => ⟨rfl, by simp, rfl⟩, fun h => by omega⟩
theorem Cut4.step {s : DS} {a i k : Nat} {y : Sec} (h : Cut4 s a i) (ha : a < 256) (hk : k < 4) : Cut4 (s.write k y.1).1 a (i + 1) ∧ (((s.write k y.1).2 = 0 ∧ i < a) ∨ ((s.write k y.1).2 = 71 ∧ a ≤ i)) := by
  have hl := h.len
  by_cases hi : i < a
  · obtain ⟨h1, h2, h3⟩ := h.up (by omega)
    rw [DS.write_y (by omega) (DS.able_iff.2 ⟨h1, by omega⟩)]
    refine ⟨⟨hl, fun _ => ⟨h1, ?_, ?_⟩, fun _ => by omega⟩, .inl ⟨rfl, hi⟩⟩
    · simp only [DS.did]; rw [if_pos (by omega)]; omega
    · simp only [DS.did, h3]; rw [wrap_i64 (by omega) (by omega)]; omega
  · have hd : s.able = false := by
      unfold DS.able
      by_cases hia : i = a
      · have := (h.up (by omega)).2.1
        rw [show s.cut = 0 by omega]; simp
      · rw [(h.dn (by omega)).1]; simp
    rw [DS.write_n (by omega) hd]
    refine ⟨⟨hl, fun _ => by omega, fun _ => ⟨rfl, ?_⟩⟩, .inr ⟨rfl, by omega⟩⟩
    by_cases hia : i = a
    · have := (h.up (by omega)).2.2; simp only; omega
    · exact (h.dn (by omega)).2
theorem Cut4.able {s : DS} {a i : Nat} (h : Cut4 s a i) : (s.able = true ∧ i < a) ∨ (s.able = false ∧ a ≤ i) := by
  by_cases hi : i < a
  · obtain ⟨h1, h2, h3⟩ := h.up (by omega)
    exact .inl ⟨DS.able_iff.2 ⟨h1, by omega⟩, hi⟩
  · refine .inr ⟨?_, by omega⟩
    unfold DS.able
    by_cases hia : i = a
    · have := (h.up (by omega)).2.1
      rw [show s.cut = 0 by omega]; simp
    · rw [(h.dn (by omega)).1]; simp
theorem DS.list_nil {s : DS} (h : ∀ j, s.loose j = none) : s.list = [] := by
  unfold DS.list
  rw [List.filter_eq_nil_iff]
  intro a _
  rw [h a]; simp
theorem cut_tells {g : DG} {a i : Nat} (hc : Cut4 g.v a i) : (i < a ∧ g.down = false ∧ g.done = i ∧ (g.v.read 0).2 = 0 ∧ g.v.flush.2 = 0) ∨ (i = a ∧ g.down = false ∧ g.done = i ∧ (g.v.read 0).2 = 0 ∧ g.v.flush.2 = 71) ∨ (a < i ∧ g.down = true ∧ g.done = a ∧ (g.v.read 0).2 = 71 ∧ g.v.flush.2 = 71) := by
  have hl := hc.len
  have hr := DS.read_e (s := g.v) (i := 0) (by omega)
  have hb := hc.able
  rcases (by omega : i < a ∨ i = a ∨ a < i) with h | h | h
  · obtain ⟨h1, h2, h3⟩ := hc.up (by omega)
    refine .inl ⟨h, h1, h3, ?_, ?_⟩
    · rcases hr with ⟨h4, _⟩ | ⟨_, h4⟩
      · rw [h1] at h4; cases h4
      · exact h4
    · rcases hb with ⟨h4, _⟩ | ⟨_, h4⟩
      · rw [DS.flush_yy h4]
      · omega
  · obtain ⟨h1, h2, h3⟩ := hc.up (by omega)
    refine .inr (.inl ⟨h, h1, h3, ?_, ?_⟩)
    · rcases hr with ⟨h4, _⟩ | ⟨_, h4⟩
      · rw [h1] at h4; cases h4
      · exact h4
    · rcases hb with ⟨_, h4⟩ | ⟨h4, _⟩
      · omega
      · rw [DS.flush_nn h4]
  · obtain ⟨h1, h3⟩ := hc.dn (by omega)
    refine .inr (.inr ⟨h, h1, h3, ?_, ?_⟩)
    · rcases hr with ⟨_, h4⟩ | ⟨h4, _⟩
      · exact h4
      · rw [h1] at h4; cases h4
    · rcases hb with ⟨_, h4⟩ | ⟨h4, _⟩
      · omega
      · rw [DS.flush_nn h4]

end Go.Proofs.Ytgkdnecjokhkcaa
