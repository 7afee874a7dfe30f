/- What is sorted of all. -/
import Derived.Test.YtcphpcjcbmennaaEntD
namespace Go.Proofs.Ytcphpcjcbmennaa
open Go Go.K
set_option linter.unusedVariables false
set_option linter.unusedSimpArgs false
attribute [local irreducible] Calls Ev GL GC GQ GR Code.wp
def posE (k1 k2 : EX → Int) (x y : EX) : Bool := !(decide (lexC (k1 y) (k2 y) (k1 x) (k2 x) < 0))
def sortX (k1 k2 : EX → Int) (l : List EX) : List EX := l.mergeSort (posE k1 k2)
theorem posE_iff {k1 k2 : EX → Int} {x y : EX} : posE k1 k2 x y = true ↔ k1 x < k1 y ∨ (k1 x = k1 y ∧ k2 x ≤ k2 y) := by
  unfold posE
  rw [Bool.not_eq_true', decide_eq_false_iff_not, lexC_neg]
  omega
theorem sortX_pairwise (k1 k2 : EX → Int) (l : List EX) : (sortX k1 k2 l).Pairwise fun x y => posE k1 k2 x y = true :=
  List.pairwise_mergeSort (fun a b c h1 h2 => by rw [posE_iff] at *; omega) (fun a b => by rw [Bool.or_eq_true, posE_iff, posE_iff]; omega) l
theorem sortX_perm (k1 k2 : EX → Int) (l : List EX) : (sortX k1 k2 l).Perm l := List.mergeSort_perm l _
theorem ids_eq {l : List EX} (h : (l.map EX.id).Nodup) : ∀ x ∈ l, ∀ y ∈ l, x.id = y.id → x = y := by
  induction l with
  | nil => intro x hx; cases hx
  | cons z l ih =>
    rw [List.map_cons, List.nodup_cons] at h
    intro x hx y hy e
    rcases List.mem_cons.1 hx with h1 | h1 <;> rcases List.mem_cons.1 hy with h2 | h2
    · rw [h1, h2]
    · exact absurd (List.mem_map.2 ⟨y, h2, by rw [← e, h1]⟩) h.1
    · exact absurd (List.mem_map.2 ⟨x, h1, by rw [e, h2]⟩) h.1
    · exact ih h.2 x h1 y h2 e
theorem sortX_of_perm {k1 k2 : EX → Int} (hk2 : ∀ x, k2 x = x.id) {l l' : List EX} (hp : l.Perm l') (hn : (l.map EX.id).Nodup) : sortX k1 k2 l = sortX k1 k2 l' :=
  List.Perm.eq_of_pairwise (le := fun x y => posE k1 k2 x y = true) (fun a b ha hb h1 h2 => by
      rw [posE_iff, hk2, hk2] at h1 h2
      have ha2 := (sortX_perm k1 k2 l).mem_iff.1 ha
      have hb2 := hp.mem_iff.2 ((sortX_perm k1 k2 l').mem_iff.1 hb)
      exact ids_eq hn a ha2 b hb2 (by omega))
    (sortX_pairwise _ _ _) (sortX_pairwise _ _ _) ((sortX_perm _ _ _).trans (hp.trans (sortX_perm _ _ _).symm))
theorem nodup_of_map {α β : Type} {f : α → β} {l : List α} (h : (l.map f).Nodup) : l.Nodup := (List.pairwise_map.1 (List.nodup_iff_pairwise_ne.1 h)).imp fun h e => h (congrArg f e)
theorem IG.Ok.ids {g : IG} (hk : g.Ok) : (g.ents.map EX.id).Nodup := by
  have := hk.mok.keys
  rw [List.map_map] at this
  unfold IG.ents
  rw [List.map_map]
  exact this
theorem IG.Ok.borns {g : IG} (hk : g.Ok) : (g.es.map NE.n).Nodup := by
  have := hk.mok.born
  rw [List.map_map] at this
  exact this
theorem ne_eq {l : List NE} (h : (l.map NE.n).Nodup) : ∀ x ∈ l, ∀ y ∈ l, x.n = y.n → x = y := by
  induction l with
  | nil => intro x hx; cases hx
  | cons z l ih =>
    rw [List.map_cons, List.nodup_cons] at h
    intro x hx y hy e
    rcases List.mem_cons.1 hx with h1 | h1 <;> rcases List.mem_cons.1 hy with h2 | h2
    · rw [h1, h2]
    · exact absurd (List.mem_map.2 ⟨y, h2, by rw [← e, h1]⟩) h.1
    · exact absurd (List.mem_map.2 ⟨x, h1, by rw [e, h2]⟩) h.1
    · exact ih h.2 x h1 y h2 e
abbrev born {g : IG} (l : List (EI g)) : List Nat := l.map fun e => e.1.n
theorem mu_step {es : List NE} {x : List Nat} {e : NE} (he : e ∈ es) (hn : e.n ∉ x) : (es.filter fun e' => !(x ++ [e.n]).contains e'.n).length < (es.filter fun e' => !x.contains e'.n).length := by
  have h1 : (es.filter fun e' => !(x ++ [e.n]).contains e'.n) = (es.filter fun e' => !x.contains e'.n).filter fun e' => e'.n != e.n := by
    rw [List.filter_filter]
    congr 1
    funext e'
    by_cases h1 : e'.n ∈ x <;> by_cases h2 : e'.n = e.n <;> simp [h1, h2]
  rw [h1]
  have hm : e ∈ es.filter fun e' => !x.contains e'.n := List.mem_filter.2 ⟨he, by simpa using hn⟩
  have := List.length_filter_lt_length_iff_exists (p := fun e' : NE => e'.n != e.n) (l := es.filter fun e' => !x.contains e'.n)
  exact this.2 ⟨e, hm, by simp⟩
theorem told_perm {g : IG} (hk : g.Ok) {x : List (EI g)} (hn : (born x).Nodup) (hall : ∀ y ∈ g.es.map NE.me, y.n ∈ born x) : (x.map fun e => e.1).Perm g.es := by
  have hnx : (x.map fun e => e.1).Nodup := by
    have : ((x.map fun e => e.1).map NE.n).Nodup := by rw [List.map_map]; exact hn
    exact nodup_of_map this
  refine (List.perm_ext_iff_of_nodup hnx (nodup_of_map hk.borns)).2 fun a => ⟨fun ha => ?_, fun ha => ?_⟩
  · obtain ⟨e, _, rfl⟩ := List.mem_map.1 ha
    exact e.2
  · have h1 := hall a.me (List.mem_map.2 ⟨a, ha, rfl⟩)
    obtain ⟨e, he, hen⟩ := List.mem_map.1 h1
    have : e.1 = a := ne_eq hk.borns e.1 e.2 a ha hen
    exact List.mem_map.2 ⟨e, he, this⟩
theorem sorted_end {g : IG} (hk : g.Ok) {k1 k2 : EX → Int} (hk2 : ∀ x, k2 x = x.id) {p : EX → Bool} {x : List (EI g)} (hn : (born x).Nodup) (hall : ∀ y ∈ g.es.map NE.me, y.n ∈ born x) :
    (sortE k1 k2 (x.filter fun e => p e.1.x)).map (fun e => e.1.x) = sortX k1 k2 (g.ents.filter p) := by
  have hp : (x.map fun e => e.1.x).Perm g.ents := by
    have := (told_perm hk hn hall).map NE.x
    rw [List.map_map] at this
    exact this
  have h1 : (sortE k1 k2 (x.filter fun e => p e.1.x)).map (fun e => e.1.x) = sortX k1 k2 ((x.filter fun e => p e.1.x).map fun e => e.1.x) := by
    unfold sortE sortX
    exact List.map_mergeSort fun a _ b _ => rfl
  rw [h1]
  have h2 : ((x.filter fun e => p e.1.x).map fun e => e.1.x) = (x.map fun e => e.1.x).filter p := by
    rw [List.filter_map]; rfl
  rw [h2]
  refine sortX_of_perm hk2 (hp.filter p) ?_
  have h3 : ((x.map fun e => e.1.x).map EX.id).Nodup := (hp.map EX.id).nodup_iff.2 hk.ids
  exact h3.sublist (List.filter_sublist.map _)
abbrev IG.LC (g : IG) (d : Nat) (Cr : Res) : List Res := [cl d 62 [.map (some g.mb)], mp g.mb (g.es.map NE.me) g.c, all (g.es.map entR), Cr]
theorem LC.wild {g : IG} {d : Nat} {Cr : Res} (hc : Cr.wild = false) : (all (g.LC d Cr)).wild = false := by
  show (g.LC d Cr).any (·.wild) = false
  simp only [IG.LC, List.any_cons, List.any_nil, Bool.or_false, hc]
  show (false || (false || (g.es.map entR).any (·.wild))) = false
  rw [Bool.false_or, Bool.false_or, List.any_eq_false]
  intro r hr
  obtain ⟨e, _, rfl⟩ := List.mem_map.1 hr
  exact Bool.false_ne_true
theorem LC.precise {g : IG} {d : Nat} {Cr : Res} (hc : Precise Cr) : Precise (all (g.LC d Cr)) := Precise.all fun r hr => by
  simp only [List.mem_cons, List.not_mem_nil, or_false] at hr
  rcases hr with rfl | rfl | rfl | rfl
  · exact Precise.pt _ _
  · exact Precise.pt _ _
  · exact Precise.all (Precise.map _ _ entR.precise)
  · exact hc
theorem filter_snoc {α : Type} {p : α → Bool} {l : List α} {e : α} : (l ++ [e]).filter p = l.filter p ++ (if p e then [e] else []) := by
  rw [List.filter_append]
  cases h : p e <;> simp [h]
theorem sl_one {w : World} {b : Nat} {v : Value} {E : TypeId} (h : w.heap[b]? = some (.cells [v].toArray E (0, 0))) : Sl w 1 (some ⟨b, 0, none⟩) 1 [v] := Sl.of_block h rfl
theorem ptrs_snoc {g : IG} {l : List (EI g)} {e : EI g} : ptrs (l ++ [e]) = ptrs l ++ [ptrE e.1.b] := by simp [ptrs]
theorem born_snoc {g : IG} {l : List (EI g)} {e : EI g} : born (l ++ [e]) = born l ++ [e.1.n] := by simp [born]
theorem told_next {g : IG} {l : List (EI g)} {e : NE} (he : e ∈ g.es) (hn : e.n ∉ born l) (hI : (born l).Nodup ∧ l.length + (g.es.filter fun e' => !(born l).contains e'.n).length ≤ g.es.length) :
    (born (l ++ [⟨e, he⟩])).Nodup ∧ (l ++ [(⟨e, he⟩ : EI g)]).length + (g.es.filter fun e' => !(born (l ++ [(⟨e, he⟩ : EI g)])).contains e'.n).length ≤ g.es.length := by
  rw [born_snoc]
  have h := mu_step he hn
  refine ⟨?_, ?_⟩
  · rw [List.nodup_append]
    refine ⟨hI.1, by simp, fun a ha b hb => ?_⟩
    simp only [List.mem_singleton] at hb
    subst hb
    intro e'
    exact hn (e' ▸ ha)
  · rw [List.length_append]
    simp only [List.length_cons, List.length_nil]
    have := hI.2
    omega
theorem sortE_length {g : IG} {k1 k2 : EX → Int} {l : List (EI g)} : (sortE k1 k2 l).length = l.length := by unfold sortE; rw [List.length_mergeSort]

theorem mk71 : K.mkOf Try.prog 71 = some (63, [.pointer none], 8) := by kernel_rfl
/- (*turntable/entry.Index).sorted -/
set_option maxHeartbeats 2000000 in
set_option maxRecDepth 100000 in
theorem sorted_con {d : Nat} {g : IG} (hk : g.Ok) (hz : g.es.length ≤ 9000) {gi gk : Nat} {cap : List Value} {Cr : Res} (hcp : Precise Cr ∧ Cr.wild = false) {p : EX → Bool} {k1 k2 : EX → Int} (hfi : ∀ args w, (callFunc gi args).run Try.prog w = .ok (.enter gi args) w) (hi : ∀ (w : World) (b : Nat) (x : EX) (a : Option Addr) (c : Nat), Cr.ok w.heap → Cells w b x a c → Calls Try.prog gi ([ptrE b] ++ cap).toArray w fun e w' => e = .returned (.bool (p x)) ∧ Tr w [] w' [])
    (hfk : ∀ args w, (callFunc gk args).run Try.prog w = .ok (.enter gk args) w) (hkey : KeyOk gk k1 k2) (hk2 : ∀ x, k2 x = x.id) {w : World} (ho : (all (g.LC d Cr)).ok w.heap) :
    Calls Try.prog 43 #[.pointer (some ⟨d, 0, none⟩), .func (.func gi) #[] cap.toArray, .func (.func gk) #[] #[]] w fun e w' => ∃ m : List (EI g), m.map (fun e => e.1.x) = sortX k1 k2 (g.ents.filter p) ∧ ∃ a c, e = .returned (.slice a m.length c) ∧ Tr w [] w' [row a c 1 63 (ptrs m)] := by
  refine K.enter (args := [_, _, _]) Try.func43 rfl Try.ntmps43 rfl (Disj.one _) (by intro x hx; simp only [List.mem_singleton] at hx; subst hx; exact ho) ?_
  refine K.GC.opened1 ?_
  refine K.GC.seq ?_
  refine K.GC.region ?_
  refine K.GL.box rfl rfl rfl (fun b5 => ?_)
  refine K.GL.det (K.e_assign rfl) rfl ?_
  refine K.GL.nil ?_
  refine K.GQ.go ?_
  refine K.GC.seq ?_
  refine K.GC.region ?_
  refine K.GL.det (K.e_assign rfl) rfl ?_
  refine K.GL.nil ?_
  refine K.GQ.go ?_
  refine K.GC.seq ?_
  refine K.GC.seq ?_
  refine K.GC.region ?_
  refine K.GL.det (K.e_move rfl) rfl ?_
  refine K.GL.det (K.e_nilCheck rfl) rfl ?_
  refine K.GL.det (K.e_fieldAddr fo62_0 rfl) rfl ?_
  first | refine K.GL.det (K.e_load Try.isAgg60 rfl rfl) rfl ?_ | refine K.GL.det (K.e_load0 Try.isAgg60 rfl (by assumption)) rfl ?_
  refine K.GL.range Try.underlying60 rfl rfl (fun b14 => ?_)
  refine K.GL.row0 1 63 ?_
  refine K.GL.nil ?_
  refine K.GQ.go ?_
  refine K.GC.block ?_
  refine K.GC.loopk (α := List (EI g) × Option Addr × Nat) [1, 5, 6, 14, 26, 27, 29] rfl (fun x => [(7, .slice x.2.1 (x.1.filter fun e => p e.1.x).length x.2.2)]) (fun x => [row x.2.1 x.2.2 1 63 (ptrs (x.1.filter fun e => p e.1.x)), iter b14 g.mb (born x.1) g.c, cl b5 74 [.func (.func gk) #[] #[]], cl d 62 [.map (some g.mb)], mp g.mb (g.es.map NE.me) g.c, all (g.es.map entR), Cr]) (fun x => (born x.1).Nodup ∧ x.1.length + (g.es.filter fun e => !(born x.1).contains e.n).length ≤ g.es.length) (fun x => (g.es.filter fun e => !(born x.1).contains e.n).length) ([], none, 0) ⟨by simp, by show 0 + _ ≤ _; rw [Nat.zero_add]; exact List.length_filter_le _ _⟩ (by (repeat refine ⟨rfl, ?_⟩); exact trivial) (K.Sub.refl _) (fun x hI => ?_)
  have hfl := List.length_filter_le (fun e : EI g => p e.1.x) x.1
  refine K.GC.seq ?_
  skip
  refine K.GC.region ?_
  refine K.GL.next rfl _ hk.mok.lt rfl (fun hall => ?_) (fun y hy hns => ?_)
  rotate_left
  obtain ⟨e1, he1, rfl⟩ := List.mem_map.1 hy
  rotate_left
  all_goals
    refine K.GL.det (K.e_extract rfl rfl) rfl ?_
    refine K.GL.nil ?_
    refine K.GQ.go ?_
    refine K.GC.seq ?_
    refine K.GC.condB rfl (fun h1 => ?_) (fun h1 => ?_)
    · first
      | exact absurd h1 (by decide)
      | try replace h1 := of_decide_eq_true h1
        refine K.GC.skip ?_
        refine K.GQ.go ?_
        refine K.GC.block ?_
        refine K.GC.seq ?_
        refine K.GC.region ?_
        refine K.GL.det (K.e_entry rfl hk.mok.born hy) rfl ?_
        refine K.GL.det (K.e_extract rfl rfl) rfl ?_
        refine K.GL.det (K.e_assign rfl) rfl ?_
        refine K.GL.nil ?_
        refine K.GQ.go ?_
        refine K.GC.seq ?_
        refine K.GC.region ?_
        refine K.GL.det (K.e_move rfl) rfl ?_
        refine K.GL.det (K.e_move rfl) rfl ?_
        refine K.GL.det (K.e_callV1 (u := .bool (p e1.x)) hfi rfl rfl (fun w hT => hi w e1.b e1.x e1.a e1.c (hT.ok Cr (by simp)) (ent_cells (hT.ok (all (g.es.map entR)) (by simp)) he1).1)) rfl ?_
        refine K.GL.nil ?_
        refine K.GQ.go ?_
        refine K.GC.condB rfl (fun h2 => ?_) (fun h2 => ?_)
        · first
          | exact absurd h2 (by decide)
          | try replace h2 := of_decide_eq_true h2
            refine K.GC.region ?_
            refine K.GL.det (K.e_move rfl) rfl ?_
            refine K.GL.det (K.e_move rfl) rfl ?_
            refine K.GL.buildSlice mk71 rfl rfl rfl (fun b24 => ?_)
            refine K.GL.append mk71 rfl rfl (by rw [ptrs_length]; exact (Nat.mul_one _).symm) rfl (fun w hT => sl_one (hT.ok _ (List.mem_of_getElem? (i := 0) rfl))) (by omega) (oneCells_spec (by rfl)) (by omega) (by omega) _ rfl (fun a25 c25 => ?_)
            refine K.GL.det (K.e_assign rfl) rfl ?_
            refine K.GL.nil ?_
            refine K.GQ.block_normal ?_
            first
              | (have hp1 : p e1.x = true := by assumption
                 have hfs : (x.1 ++ [(⟨e1, he1⟩ : EI g)]).filter (fun e : EI g => p e.1.x) = x.1.filter (fun e => p e.1.x) ++ [(⟨e1, he1⟩ : EI g)] := by rw [filter_snoc]; simp [hp1]
                 exact K.GQ.round (x.1 ++ [(⟨e1, he1⟩ : EI g)], a25, c25) (told_next he1 hns hI) (by simp only [born_snoc]; exact mu_step he1 hns) (by simp only [hfs, List.length_append]; (repeat refine ⟨rfl, ?_⟩); exact trivial) (by simp only [hfs, ptrs_snoc, born_snoc]; exact Sub.tail _ _))
              | (have hp1 : p e1.x = false := by assumption
                 have hfs : (x.1 ++ [(⟨e1, he1⟩ : EI g)]).filter (fun e : EI g => p e.1.x) = x.1.filter (fun e => p e.1.x) := by rw [filter_snoc]; simp [hp1]
                 exact K.GQ.round (x.1 ++ [(⟨e1, he1⟩ : EI g)], x.2.1, x.2.2) (told_next he1 hns hI) (by simp only [born_snoc]; exact mu_step he1 hns) (by simp only [hfs]; (repeat refine ⟨rfl, ?_⟩); exact trivial) (by simp only [hfs, born_snoc]; exact Sub.refl _))
        · first
          | exact absurd h2 (by decide)
          | try replace h2 := of_decide_eq_false h2
            refine K.GC.skip ?_
            refine K.GQ.block_normal ?_
            first
              | (have hp1 : p e1.x = true := by assumption
                 have hfs : (x.1 ++ [(⟨e1, he1⟩ : EI g)]).filter (fun e : EI g => p e.1.x) = x.1.filter (fun e => p e.1.x) ++ [(⟨e1, he1⟩ : EI g)] := by rw [filter_snoc]; simp [hp1]
                 exact K.GQ.round (x.1 ++ [(⟨e1, he1⟩ : EI g)], a25, c25) (told_next he1 hns hI) (by simp only [born_snoc]; exact mu_step he1 hns) (by simp only [hfs, List.length_append]; (repeat refine ⟨rfl, ?_⟩); exact trivial) (by simp only [hfs, ptrs_snoc, born_snoc]; exact Sub.tail _ _))
              | (have hp1 : p e1.x = false := by assumption
                 have hfs : (x.1 ++ [(⟨e1, he1⟩ : EI g)]).filter (fun e : EI g => p e.1.x) = x.1.filter (fun e => p e.1.x) := by rw [filter_snoc]; simp [hp1]
                 exact K.GQ.round (x.1 ++ [(⟨e1, he1⟩ : EI g)], x.2.1, x.2.2) (told_next he1 hns hI) (by simp only [born_snoc]; exact mu_step he1 hns) (by simp only [hfs]; (repeat refine ⟨rfl, ?_⟩); exact trivial) (by simp only [hfs, born_snoc]; exact Sub.refl _))
    · first
      | exact absurd h1 (by decide)
      | try replace h1 := of_decide_eq_false h1
        refine K.GC.exit ?_
        refine K.GQ.then_exit ?_
        refine K.GQ.then_exit ?_
        refine K.GQ.block_hit ?_
        refine K.GQ.go ?_
        refine K.GC.seq ?_
        refine K.GC.region ?_
        refine K.GL.det (K.e_move rfl) rfl ?_
        refine K.GL.det (K.e_makeFunc rfl) rfl ?_
        refine K.GL.callM (α := Unit) (l := [row x.2.1 x.2.2 1 63 (ptrs (x.1.filter fun e => p e.1.x))]) (F := iter b14 g.mb (born x.1) g.c :: cl b5 74 [.func (.func gk) #[] #[]] :: g.LC d Cr) (Pv := fun _ v => v = .tuple #[]) (l' := fun _ => [row x.2.1 x.2.2 1 63 (ptrs (sortE k1 k2 (x.1.filter fun e => p e.1.x)))]) Try.call50 rfl (K.Sub.refl _) (fun w hT => ?_) rfl (fun _ v hv => ?_)
        · have h2 := Tr.closed (l := [all (g.es.map entR), cl b5 74 [.func (.func gk) #[] #[]]]) (F := [row x.2.1 x.2.2 1 63 (ptrs (x.1.filter fun e => p e.1.x))]) (hT.sub (Sub.take (i := 5) rfl (Sub.take (i := 2) rfl (Sub.take (i := 0) rfl (Sub.nil _)))))
          exact (sortF_con hk hfk hkey hk2 (by omega) (hT.ok _ List.mem_cons_self) (h2.ok _ List.mem_cons_self) (fun b hb hb2 => h2.disj.head List.mem_cons_self b hb2 hb)).mono fun e w' ⟨h3, h4⟩ => ⟨(), _, h3, rfl, h4⟩
        subst hv
        refine K.GL.nil ?_
        refine K.GQ.go ?_
        refine K.GC.seq ?_
        refine K.GC.region ?_
        refine K.GL.det (K.e_move rfl) rfl ?_
        refine K.GL.det (K.e_assign rfl) rfl ?_
        refine K.GL.nil ?_
        refine K.GQ.go ?_
        refine K.GC.ret ?_
        refine K.GQ.ret1 Try.results43 rfl (fun w hT => ?_)
        exact ⟨_, sorted_end hk hk2 hI.1 hall, x.2.1, x.2.2, by rw [sortE_length], (Tr.closed (l := g.LC d Cr) (F := [row x.2.1 x.2.2 1 63 (ptrs (sortE k1 k2 (x.1.filter fun e => p e.1.x)))]) (hT.sub (Sub.take (i := 3) rfl (Sub.take (i := 3) rfl (Sub.take (i := 3) rfl (Sub.take (i := 3) rfl (Sub.take (i := 0) rfl (Sub.nil _)))))))).calmed ho (LC.precise hcp.1) (LC.wild hcp.2)⟩
end Go.Proofs.Ytcphpcjcbmennaa
