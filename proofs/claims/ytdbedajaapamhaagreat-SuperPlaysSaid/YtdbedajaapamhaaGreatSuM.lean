/- What a device tells, and what is saved and loaded, in plain terms. -/
import Derived.Test.YtdbedajaapamhaaGreatSuS
namespace Go.Proofs.YtdbedajaapamhaaGreat
open Go Go.K
set_option linter.unusedVariables false
set_option linter.unusedSimpArgs false
attribute [local irreducible] Calls Ev GL GC GQ GR Code.wp

/-! ### What a device tells, in plain terms -/

def DS.K (s : DS) (i : Nat) : Sec := s.kept[i]?.getD (secOf 0)

def DS.A (s : DS) (i : Nat) : Sec := (s.loose i).getD (s.K i)

theorem DS.at_A {s : DS} {i : Nat} (h : i < s.kept.length) : s.at i = some (s.A i) := by
  unfold DS.at DS.A DS.K
  cases s.loose i with
  | some y => rfl
  | none => simp only [List.getElem?_eq_getElem h]; rfl

theorem DS.read_A {s : DS} {i : Nat} (h : i < s.kept.length) (hd : s.down = false) : s.read i = ((s.A i).1, 0) := by
  have := DS.read_ok (s := s) (i := (i : Int)) (y := s.A i) (by omega) hd (by rw [Int.toNat_natCast]; exact DS.at_A h)
  exact this

theorem DS.able_iff {s : DS} : s.able = true ↔ s.down = false ∧ s.cut ≠ 0 := by unfold DS.able; cases s.down <;> simp

def DS.did (s : DS) : DS := { s with cut := if 0 < s.cut then s.cut - 1 else s.cut, done := IntKind.i64.wrap (s.done + 1) }

theorem DS.thing_y {s : DS} (ha : s.able = true) : s.thing = s.did := by
  obtain ⟨h1, h2⟩ := DS.able_iff.1 ha
  unfold DS.thing DS.did
  rw [if_neg (by rw [h1]; simp), if_neg h2]

theorem DS.thing_n {s : DS} (ha : s.able = false) : s.thing = { s with down := true } := by
  unfold DS.thing
  cases hd : s.down with
  | true => rw [if_pos rfl, ← hd]
  | false =>
    have : s.cut = 0 := by
      apply Classical.byContradiction
      intro hc
      rw [DS.able_iff.2 ⟨hd, hc⟩] at ha
      cases ha
    rw [if_neg (by simp), if_pos this]

theorem DS.write_y {s : DS} {i : Nat} {y : Sec} (h : i < s.kept.length) (ha : s.able = true) : s.write i y.1 = ({ s.did with loose := fun j => if j = i then some y else s.loose j }, 0) := by
  have := DS.write_ok (s := s) (i := (i : Int)) (bs := y.1) ⟨⟨by omega, by omega⟩, y.2⟩ ha
  rw [this, DS.thing_y ha]
  simp only [Int.toNat_natCast, DS.did]

theorem DS.flush_yy {s : DS} (ha : s.able = true) : s.flush = (s.did.flushed, 0) := by rw [DS.flush_y ha, DS.thing_y ha]

theorem DS.flushed_K {s : DS} {j : Nat} (h : j < s.kept.length) : s.flushed.K j = s.A j := by
  unfold DS.flushed DS.K DS.A DS.K
  simp only [List.getElem?_mapIdx, List.getElem?_eq_getElem h]
  rfl

theorem DS.flushed_A {s : DS} {j : Nat} (h : j < s.kept.length) : s.flushed.A j = s.A j := by
  rw [← DS.flushed_K h]; rfl

theorem DS.flushed_length (s : DS) : s.flushed.kept.length = s.kept.length := by unfold DS.flushed; simp

/-! A device whose power never fails. -/

structure Up (n : Nat) (s : DS) : Prop where
  len : s.kept.length = n
  down : s.down = false
  cut : s.cut < 0

theorem Up.able {n : Nat} {s : DS} (h : Up n s) : s.able = true := DS.able_iff.2 ⟨h.down, by have := h.cut; omega⟩

theorem Up.new (n : Nat) : Up n (DS.new n) := ⟨by simp [DS.new], rfl, by simp [DS.new]⟩

theorem Up.write {n : Nat} {s : DS} (h : Up n s) {i : Nat} (hi : i < n) (y : Sec) : Up n (s.write i y.1).1 ∧ (s.write i y.1).2 = 0 ∧ (∀ j, (s.write i y.1).1.K j = s.K j) ∧ (∀ j, (s.write i y.1).1.A j = if j = i then y else s.A j) ∧ (∀ j, ((s.write i y.1).1.loose j).isSome = true ↔ (j = i ∨ (s.loose j).isSome = true)) := by
  have hl := h.len
  rw [DS.write_y (by omega) h.able]
  refine ⟨⟨h.len, h.down, ?_⟩, rfl, fun j => rfl, fun j => ?_, fun j => ?_⟩
  · have := h.cut; simp only [DS.did]; rw [if_neg (by omega)]; exact this
  · unfold DS.A
    by_cases hj : j = i
    · simp [hj]
    · simp only [hj, if_false]; rfl
  · by_cases hj : j = i
    · simp [hj]
    · simp [hj]

theorem Up.flush {n : Nat} {s : DS} (h : Up n s) : Up n s.flush.1 ∧ s.flush.2 = 0 ∧ (∀ j, j < n → s.flush.1.K j = s.A j) ∧ (∀ j, j < n → s.flush.1.A j = s.A j) ∧ (∀ j, s.flush.1.loose j = none) := by
  have hl := h.len
  rw [DS.flush_yy h.able]
  have hd : s.did.kept.length = n := hl
  refine ⟨⟨(DS.flushed_length _).trans hd, h.down, ?_⟩, rfl, fun j hj => ?_, fun j hj => ?_, fun j => rfl⟩
  · have := h.cut; simp only [DS.did, DS.flushed]; rw [if_neg (by omega)]; exact this
  · rw [DS.flushed_K (by omega)]; rfl
  · rw [DS.flushed_A (by omega)]; rfl

theorem Up.read {n : Nat} {s : DS} (h : Up n s) {i : Nat} (hi : i < n) : s.read i = ((s.A i).1, 0) := DS.read_A (by have := h.len; omega) h.down

/-! ### A device whose power never fails, by what it tells -/

structure Dv (n : Nat) (s : DS) (f : Nat → Bytes) : Prop where
  up : Up n s
  at_ : ∀ j, j < n → (s.A j).1 = f j

def upd (f : Nat → Bytes) (i : Nat) (l : Bytes) : Nat → Bytes := fun j => if j = i then l else f j

def zer : Bytes := List.replicate 64 0

theorem Dv.new (n : Nat) : Dv n (DS.new n) (fun _ => zer) := ⟨Up.new n, fun j hj => by
  unfold DS.A DS.K DS.new
  simp only [Option.getD_none]
  rw [List.getElem?_replicate, if_pos hj]; rfl⟩

theorem Dv.write {n : Nat} {s : DS} {f : Nat → Bytes} (h : Dv n s f) {i : Nat} (hi : i < n) {l : Bytes} (hl : l.length = 64) : (s.write (i : Int) l).2 = 0 ∧ Dv n (s.write (i : Int) l).1 (upd f i l) := by
  have h1 := h.up.write hi ⟨l, hl⟩
  refine ⟨h1.2.1, h1.1, fun j hj => ?_⟩
  have h2 := h1.2.2.2.1 j
  show ((s.write (i : Int) l).1.A j).1 = _
  rw [show (s.write (i : Int) l).1.A j = if j = i then ⟨l, hl⟩ else s.A j from h2]
  unfold upd
  split
  · rfl
  · exact h.at_ j hj

theorem Dv.flush {n : Nat} {s : DS} {f : Nat → Bytes} (h : Dv n s f) : s.flush.2 = 0 ∧ Dv n s.flush.1 f := by
  have h1 := h.up.flush
  exact ⟨h1.2.1, h1.1, fun j hj => by rw [h1.2.2.2.1 j hj]; exact h.at_ j hj⟩

theorem Dv.save {n : Nat} {s : DS} {f : Nat → Bytes} (h : Dv n s f) (hn : 2 ≤ n) {t : Tab} (hR : RightP t) : (s.save t).2 = 0 ∧ Dv n (s.save t).1 (upd f (t.gen % 2).toNat (putT t)) := by
  have hr := (right_iff t).2 hR
  obtain ⟨h1, h2⟩ := h.flush
  have hi : (t.gen % 2).toNat < n := by omega
  have he : (((t.gen % 2).toNat : Nat) : Int) = t.gen % 2 := by omega
  obtain ⟨h3, h4⟩ := h2.write hi (putT_len hr)
  rw [he] at h3 h4
  obtain ⟨h5, h6⟩ := h4.flush
  unfold DS.save DS.save3
  rw [if_pos hr, if_neg (by rw [h1]; simp), if_neg (by rw [h3]; simp)]
  exact ⟨h5, h6⟩

theorem save_bad {s : DS} {t : Tab} (h : rightB t = false) : s.save t = (s, 1) := by unfold DS.save; rw [if_neg (by rw [h]; decide)]

def ld1 (b : Bytes) (i : Nat) (best : Tab) : Tab := if getB b = true ∧ (getT b).gen % 2 = (i : Int) ∧ best.gen < (getT b).gen then getT b else best

def ldF (f : Nat → Bytes) : Tab := ld1 (f 1) 1 (ld1 (f 0) 0 ⟨0, 0, []⟩)

theorem Dv.read {n : Nat} {s : DS} {f : Nat → Bytes} (h : Dv n s f) {i : Nat} (hi : i < n) : s.read (i : Int) = (f i, 0) := by
  rw [h.up.read hi, h.at_ i hi]

theorem Dv.load {n : Nat} {s : DS} {f : Nat → Bytes} (h : Dv n s f) (hn : 2 ≤ n) : s.load = (ldF f, decide (0 < (ldF f).gen), 0) := by
  have h0 := h.read (i := 0) (by omega)
  have h1 := h.read (i := 1) (by omega)
  have e : loadN s 2 = ldF f := by
    show loadS s 1 (loadS s 0 ⟨0, 0, []⟩) = _
    unfold loadS ldF ld1
    rw [h0, h1]
  rw [load_ok (fun y hy => by
    rcases (by omega : y = 0 ∨ y = 1) with rfl | rfl
    · rw [h0]
    · rw [h1]), e]

theorem ld1_zer (i : Nat) (best : Tab) : ld1 zer i best = best := by
  unfold ld1
  rw [if_neg (fun h => by have h1 := h.1; rw [show getB zer = false from zeros_bad] at h1; cases h1)]

theorem ld1_put {t : Tab} (h : RightP t) {i : Nat} (hi : t.gen % 2 = (i : Int)) {best : Tab} (hb : best.gen < t.gen) : ld1 (putT t) i best = t := by
  unfold ld1
  rw [getB_put h, getT_put h, if_pos ⟨rfl, hi, hb⟩]

theorem ld1_not {t : Tab} (h : RightP t) {i : Nat} {best : Tab} (hb : t.gen % 2 = (i : Int) → ¬ best.gen < t.gen) : ld1 (putT t) i best = best := by
  unfold ld1
  rw [getB_put h, getT_put h, if_neg (fun h1 => hb h1.2.1 h1.2.2)]

end Go.Proofs.YtdbedajaapamhaaGreat
