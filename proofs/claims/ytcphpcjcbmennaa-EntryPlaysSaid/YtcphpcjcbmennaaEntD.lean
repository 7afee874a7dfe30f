/- What the functions of an index tell of all, in order. -/
import Derived.Test.YtcphpcjcbmennaaEntC
import Derived.Test.YtcphpcjcbmennaaShelf
import Derived.Test.YtcphpcjcbmennaaKn
namespace Go.Proofs.Ytcphpcjcbmennaa
open Go Go.K
set_option linter.unusedVariables false
set_option linter.unusedSimpArgs false
attribute [local irreducible] Calls Ev GL GC GQ GR Code.wp
abbrev EI (g : IG) := {e : NE // e ∈ g.es}
def ptrs {g : IG} (l : List (EI g)) : List Value := l.map fun e => ptrE e.1.b
theorem ptrs_length {g : IG} (l : List (EI g)) : (ptrs l).length = l.length := by simp [ptrs]
abbrev cfE {g : IG} (k1 k2 : EX → Int) (x y : EI g) : Int := lexC (k1 x.1.x) (k2 x.1.x) (k1 y.1.x) (k2 y.1.x)
def sortE {g : IG} (k1 k2 : EX → Int) (l : List (EI g)) : List (EI g) := l.mergeSort fun x y => !(ltOf (cfE k1 k2) y x)
theorem swoE {g : IG} (k1 k2 : EX → Int) : Sort.SWO (ltOf (cfE (g := g) k1 k2)) := by
  refine ⟨fun x => ?_, fun x y z h1 h2 => ?_, fun x y z h1 h2 => ?_⟩
  · unfold ltOf cfE; rw [decide_eq_false_iff_not, lexC_neg]; omega
  · unfold ltOf cfE at *; rw [decide_eq_true_eq, lexC_neg] at *; omega
  · unfold ltOf cfE at *; rw [decide_eq_false_iff_not, lexC_neg] at *; omega
theorem totE {g : IG} (hk : g.Ok) {k1 k2 : EX → Int} (hk2 : ∀ x, k2 x = x.id) (x y : EI g) (h1 : ltOf (cfE k1 k2) x y = false) (h2 : ltOf (cfE k1 k2) y x = false) : x = y := by
  unfold ltOf cfE at h1 h2
  rw [decide_eq_false_iff_not, lexC_neg] at h1 h2
  have hid : x.1.x.id = y.1.x.id := by rw [← hk2, ← hk2]; omega
  have hnd := hk.mok.keys
  rw [List.map_map] at hnd
  have hp : g.es.Pairwise fun a b => a.x.id ≠ b.x.id := by
    have := List.pairwise_map.1 (List.nodup_iff_pairwise_ne.1 hnd)
    exact this
  apply Subtype.ext
  apply Classical.byContradiction
  intro hne
  rcases List.mem_iff_getElem.1 x.2 with ⟨i, hi, ei⟩
  rcases List.mem_iff_getElem.1 y.2 with ⟨j, hj, ej⟩
  rcases (by omega : i < j ∨ j < i ∨ i = j) with h | h | h
  · exact List.pairwise_iff_getElem.1 hp i j hi hj h (by rw [ei, ej]; exact hid)
  · exact List.pairwise_iff_getElem.1 hp j i hj hi h (by rw [ei, ej]; exact hid.symm)
  · subst h; exact hne (ei.symm.trans ej)
theorem sortF_con {g : IG} (hk : g.Ok) {gk kb c : Nat} {k1 k2 : EX → Int} (hfk : ∀ args w, (callFunc gk args).run Try.prog w = .ok (.enter gk args) w) (hkey : KeyOk gk k1 k2) (hk2 : ∀ x, k2 x = x.id) {a : Option Addr} {l : List (EI g)} {w : World} (hsz : l.length < 4611686018427387904)
    (hrow : (row a c 1 63 (ptrs l)).ok w.heap) (hr : (all [all (g.es.map entR), cl kb 74 [.func (.func gk) #[] #[]]]).ok w.heap) (hap : ∀ b, (row a c 1 63 (ptrs l)).fp b → ¬ (all [all (g.es.map entR), cl kb 74 [.func (.func gk) #[] #[]]]).fp b) :
    Calls Try.prog 50 #[.slice a l.length c, .func (.func 51) #[] #[ptrE kb]] w fun e w' => e = .returned (.tuple #[]) ∧ Tr w [row a c 1 63 (ptrs l)] w' [row a c 1 63 (ptrs (sortE k1 k2 l))] := by
  cases l with
  | nil =>
    have h := AnyF.slices_SortFunc_none Try.sortF0 a c (.func (.func 51) #[] #[ptrE kb]) w
    refine Calls.mono h fun e w' ⟨he, hw⟩ => ⟨he, ?_⟩
    subst hw
    have es : sortE k1 k2 ([] : List (EI g)) = [] := by unfold sortE; simp
    rw [es]
    exact Tr.start (Disj.one _) (fun r hr2 => by simp only [List.mem_singleton] at hr2; subst hr2; exact hrow)
  | cons x l =>
    cases a with
    | none => exact absurd (hrow.1 rfl).1 (by simp [ptrs])
    | some p =>
      obtain ⟨hp, junk, hb, hlen⟩ := hrow.2 p rfl
      have : Inhabited (EI g) := ⟨x⟩
      have hblk : p.block < w.heap.size := (Array.getElem?_eq_some_iff.1 hb).1
      have hH : Sort.Holds (fun e : EI g => ptrE e.1.b) w p.block 0 (x :: l).toArray := fun j hj => by
        have hj' : j < (x :: l).length := by simpa using hj
        refine ⟨?_, ?_⟩
        · rw [Nat.zero_add, cell_of_block hb, List.getElem?_append_left (by rw [ptrs_length]; exact hj')]
          unfold ptrs
          rw [List.getElem?_map, List.getElem?_eq_getElem hj', getElem!_pos _ j hj]
          rfl
        · simp [World.frozen?, hb]
      have hc : CmpLays1 Try.prog 51 #[ptrE kb] (fun e : EI g => ptrE e.1.b) (cfE k1 k2) p.block 0 (x :: l).toArray.size w :=
        sort_cmp hr (hap _ ⟨p, rfl, rfl⟩) fun v hv y z => by
          have h1 := hv.2 _ List.mem_cons_self
          have h2 : v.heap[kb]? = some (.cells [.func (.func gk) #[] #[]].toArray 74 (0, 0)) := hv.2 _ (List.mem_cons_of_mem _ List.mem_cons_self)
          exact cmpf_con hfk hkey (by rw [cell_of_block h2]; rfl) (ent_cells h1 y.2).1 (ent_cells h1 z.2).1
      have h := Any.slices_SortFunc_total Try.sortF (fun e : EI g => ptrE e.1.b) (fun _ => rfl) (cfE k1 k2) (swoE k1 k2) 51 #[ptrE kb] p.block 0 c (x :: l).toArray w Try.call51 hc hH hblk (by simpa using hsz) (totE hk hk2)
      have e1 : (x :: l).toArray.size = (x :: l).length := by simp
      rw [e1] at h
      rw [hp]
      refine Calls.mono h fun e w' ⟨he, n, os, hw⟩ => ⟨he, ?_⟩
      subst hw
      have hd : ((x :: l).mergeSort fun u v => !(ltOf (cfE k1 k2) v u)).length = (ptrs (x :: l)).length := by rw [List.length_mergeSort, ptrs_length]
      exact sort_tr (fun e : EI g => ptrE e.1.b) hb hlen hd

end Go.Proofs.Ytcphpcjcbmennaa
