/- A list that is kept in order: what a map, sorted, is. -/
import Derived.Test.YtcphpcjcbmennaaEntM
namespace Go.Proofs.Ytcphpcjcbmennaa
open Go Go.K
set_option linter.unusedVariables false
set_option linter.unusedSimpArgs false
attribute [local irreducible] Calls Ev GL GC GQ GR Code.wp
/-! ### A list that is kept in order -/
theorem posE_trans {k1 k2 : EX → Int} {x y z : EX} (h1 : posE k1 k2 x y = true) (h2 : posE k1 k2 y z = true) : posE k1 k2 x z = true := by rw [posE_iff] at *; omega
theorem xget_all {k : Int} : ∀ {l : List EX}, xget k l = none → ∀ y ∈ l, y.id ≠ k
  | [], _, y, hy => by cases hy
  | z :: l, h, y, hy => by
    simp only [xget] at h
    by_cases hz : z.id = k
    · rw [if_pos hz] at h; cases h
    · rw [if_neg hz] at h
      rcases List.mem_cons.1 hy with rfl | h2
      · exact hz
      · exact xget_all h y h2
theorem xget_perm {k : Int} {l l' : List EX} (hp : l.Perm l') (hn : (l.map EX.id).Nodup) : xget k l = xget k l' := by
  have hn' : (l'.map EX.id).Nodup := ((hp.map EX.id).nodup_iff).1 hn
  cases h : xget k l with
  | none => exact (xget_none fun y hy => xget_all h y (hp.mem_iff.2 hy)).symm
  | some y =>
    obtain ⟨h1, h2⟩ := xget_mem h
    exact (xget_some hn' (hp.mem_iff.1 h1) h2).symm
theorem xdel_filter (k : Int) : ∀ {l : List EX}, (l.map EX.id).Nodup → xdel k l = l.filter fun y => decide (y.id ≠ k)
  | [], _ => rfl
  | y :: l, hn => by
    rw [List.map_cons, List.nodup_cons] at hn
    simp only [xdel]
    by_cases hy : y.id = k
    · rw [if_pos hy, List.filter_cons_of_neg (by simp [hy])]
      refine (List.filter_eq_self.2 fun z hz => ?_).symm
      rw [decide_eq_true_eq]
      intro e
      exact hn.1 (List.mem_map.2 ⟨z, hz, by omega⟩)
    · rw [if_neg hy, List.filter_cons_of_pos (by simp [hy]), xdel_filter k hn.2]
theorem xmod_map (k : Int) (f : EX → EX) : ∀ {l : List EX}, (l.map EX.id).Nodup → xmod k f l = l.map fun y => if y.id = k then f y else y
  | [], _ => rfl
  | y :: l, hn => by
    rw [List.map_cons, List.nodup_cons] at hn
    simp only [xmod, List.map_cons]
    by_cases hy : y.id = k
    · rw [if_pos hy, if_pos hy]
      congr 1
      have h2 : l.map (fun y => if y.id = k then f y else y) = l.map id := List.map_congr_left fun z hz => by
        rw [if_neg]; rfl
        intro e
        exact hn.1 (List.mem_map.2 ⟨z, hz, by omega⟩)
      rw [h2, List.map_id]
    · rw [if_neg hy, if_neg hy, xmod_map k f hn.2]
theorem xput_perm (x : EX) : ∀ l : List EX, (xput x l).Perm (x :: xdel x.id l)
  | [] => List.Perm.refl _
  | y :: l => by
    simp only [xput, xdel]
    by_cases hy : y.id = x.id
    · rw [if_pos hy, if_pos hy]
    · rw [if_neg hy, if_neg hy]
      exact ((xput_perm x l).cons y).trans (List.Perm.swap x y _)
abbrev srt (l : List EX) : List EX := sortX EX.tick EX.id l
theorem srt_ids {l : List EX} (hn : (l.map EX.id).Nodup) : ((srt l).map EX.id).Nodup := (((sortX_perm EX.tick EX.id l).map EX.id).nodup_iff).2 hn
theorem srt_get {k : Int} {l : List EX} (hn : (l.map EX.id).Nodup) : xget k (srt l) = xget k l := xget_perm (sortX_perm _ _ _) (srt_ids hn)
theorem srt_del {k : Int} {l : List EX} (hn : (l.map EX.id).Nodup) : srt (xdel k l) = xdel k (srt l) := by
  rw [xdel_filter k hn, xdel_filter k (srt_ids hn)]
  exact sortX_eq (fun _ => rfl) ((sortX_perm _ _ _).filter _) ((srt_ids hn).sublist (List.filter_sublist.map _)) ((sortX_pairwise _ _ _).sublist List.filter_sublist)
theorem srt_mod {k : Int} {f : EX → EX} {l : List EX} (hn : (l.map EX.id).Nodup) (hi : ∀ y, (f y).id = y.id) (ht : ∀ y, (f y).tick = y.tick) : srt (xmod k f l) = xmod k f (srt l) := by
  rw [xmod_map k f hn, xmod_map k f (srt_ids hn)]
  have e1 : ∀ y : EX, (if y.id = k then f y else y).id = y.id := fun y => by split <;> simp [hi]
  have e2 : ∀ y : EX, (if y.id = k then f y else y).tick = y.tick := fun y => by split <;> simp [ht]
  refine sortX_eq (fun _ => rfl) ((sortX_perm _ _ _).map _) ?_ ?_
  · rw [List.map_map, show (EX.id ∘ fun y => if y.id = k then f y else y) = EX.id from funext e1]; exact srt_ids hn
  · rw [List.pairwise_map]
    refine (sortX_pairwise EX.tick EX.id l).imp fun {a b} h => ?_
    rw [posE_iff] at h ⊢
    rw [e1, e1, e2, e2]
    exact h
theorem ins_sorted {k1 k2 : EX → Int} {s : List EX} {k : Nat} {x : EX} (hs : s.Pairwise fun x y => posE k1 k2 x y = true) (h1 : ∀ y ∈ s.take k, posE k1 k2 y x = true) (h2 : ∀ y ∈ s.drop k, posE k1 k2 x y = true) :
    (s.take k ++ x :: s.drop k).Pairwise fun x y => posE k1 k2 x y = true := by
  have h3 := hs
  rw [← List.take_append_drop k s, List.pairwise_append] at h3
  refine List.pairwise_append.2 ⟨h3.1, List.pairwise_cons.2 ⟨h2, h3.2.1⟩, fun a ha b hb => ?_⟩
  rcases List.mem_cons.1 hb with rfl | hb
  · exact h1 a ha
  · exact h3.2.2 a ha b hb
theorem ins_lo {k1 k2 : EX → Int} {s : List EX} {k : Nat} {x : EX} (hs : s.Pairwise fun x y => posE k1 k2 x y = true) (hk : k ≤ s.length) (h : k = 0 ∨ ∃ y, s[k - 1]? = some y ∧ posE k1 k2 y x = true) : ∀ y ∈ s.take k, posE k1 k2 y x = true := fun y hy => by
  obtain ⟨i, hi⟩ := List.getElem?_of_mem hy
  rw [List.getElem?_take] at hi
  split at hi
  · rename_i hik
    rcases h with h | ⟨z, hz, hzx⟩
    · omega
    · rcases Nat.lt_or_ge i (k - 1) with h4 | h4
      · obtain ⟨a1, a2⟩ := List.getElem?_eq_some_iff.1 hi
        obtain ⟨b1, b2⟩ := List.getElem?_eq_some_iff.1 hz
        have := List.pairwise_iff_getElem.1 hs i (k - 1) a1 b1 h4
        rw [a2, b2] at this
        exact posE_trans this hzx
      · have : i = k - 1 := by omega
        subst this
        rw [hi] at hz
        rw [Option.some.inj hz]; exact hzx
  · cases hi
theorem ins_hi {k1 k2 : EX → Int} {s : List EX} {k : Nat} {x : EX} (hs : s.Pairwise fun x y => posE k1 k2 x y = true) (h : s.length ≤ k ∨ ∃ y, s[k]? = some y ∧ posE k1 k2 x y = true) : ∀ y ∈ s.drop k, posE k1 k2 x y = true := fun y hy => by
  obtain ⟨i, hi⟩ := List.getElem?_of_mem hy
  rw [List.getElem?_drop] at hi
  obtain ⟨a1, a2⟩ := List.getElem?_eq_some_iff.1 hi
  rcases h with h | ⟨z, hz, hzx⟩
  · omega
  · obtain ⟨b1, b2⟩ := List.getElem?_eq_some_iff.1 hz
    rcases Nat.eq_zero_or_pos i with h0 | h0
    · subst h0
      rw [Nat.add_zero] at hi
      rw [hi] at hz
      rw [Option.some.inj hz]; exact hzx
    · have := List.pairwise_iff_getElem.1 hs k (k + i) b1 a1 (by omega)
      rw [a2, b2] at this
      exact posE_trans hzx this
theorem ins_perm {s : List EX} (k : Nat) (x : EX) : (s.take k ++ x :: s.drop k).Perm (x :: s) := by
  refine List.perm_middle.trans ?_
  rw [List.take_append_drop]
theorem srt_put {x : EX} {l : List EX} {k : Nat} (hn : (l.map EX.id).Nodup) (hk : k ≤ (srt (xdel x.id l)).length)
    (h1 : k = 0 ∨ ∃ y, (srt (xdel x.id l))[k - 1]? = some y ∧ (y.tick < x.tick ∨ (y.tick = x.tick ∧ y.id < x.id)))
    (h2 : (srt (xdel x.id l)).length ≤ k ∨ ∃ y, (srt (xdel x.id l))[k]? = some y ∧ ¬ (y.tick < x.tick ∨ (y.tick = x.tick ∧ y.id < x.id))) :
    srt (xput x l) = (srt (xdel x.id l)).take k ++ x :: (srt (xdel x.id l)).drop k := by
  have hd : ((xdel x.id l).map EX.id).Nodup := by rw [xdel_filter _ hn]; exact hn.sublist (List.filter_sublist.map _)
  have hs := sortX_pairwise EX.tick EX.id (xdel x.id l)
  refine sortX_eq (fun _ => rfl) ((ins_perm k x).trans (((sortX_perm _ _ _).cons x).trans (xput_perm x l).symm)) ?_ (ins_sorted hs (ins_lo hs hk ?_) (ins_hi hs ?_))
  · refine (((ins_perm k x).map EX.id).nodup_iff).2 ?_
    rw [List.map_cons, List.nodup_cons]
    refine ⟨fun h => ?_, srt_ids hd⟩
    obtain ⟨z, hz, e⟩ := List.mem_map.1 h
    have h4 := (sortX_perm EX.tick EX.id _).mem_iff.1 hz
    rw [xdel_filter _ hn, List.mem_filter, decide_eq_true_eq] at h4
    exact h4.2 e
  · rcases h1 with h | ⟨y, hy, h⟩
    · exact .inl h
    · exact .inr ⟨y, hy, by rw [posE_iff]; omega⟩
  · rcases h2 with h | ⟨y, hy, h⟩
    · exact .inl h
    · exact .inr ⟨y, hy, by rw [posE_iff]; omega⟩
/-- One more is laid among those of an extent. -/
theorem in_next {l : List EX} {s : Int} {i k : Nat} {x : EX} {acc : List EX} (hn : (l.map EX.id).Nodup) (hx : l[i]? = some x) (hsq : x.seq = s) (hacc : acc = sortX EX.at_ EX.id ((l.take i).filter fun y => decide (y.seq = s))) (hk : k ≤ acc.length)
    (h1 : k = 0 ∨ ∃ y, acc[k - 1]? = some y ∧ ¬ (x.at_ < y.at_ ∨ (x.at_ = y.at_ ∧ x.id < y.id))) (h2 : acc.length ≤ k ∨ ∃ y, acc[k]? = some y ∧ (x.at_ < y.at_ ∨ (x.at_ = y.at_ ∧ x.id < y.id))) :
    acc.take k ++ x :: acc.drop k = sortX EX.at_ EX.id ((l.take (i + 1)).filter fun y => decide (y.seq = s)) := by
  have hs := sortX_pairwise EX.at_ EX.id ((l.take i).filter fun y => decide (y.seq = s))
  rw [← hacc] at hs
  have hp : acc.Perm ((l.take i).filter fun y => decide (y.seq = s)) := by rw [hacc]; exact sortX_perm _ _ _
  have hf : (l.take (i + 1)).filter (fun y => decide (y.seq = s)) = (l.take i).filter (fun y => decide (y.seq = s)) ++ [x] := by
    rw [List.take_add_one, hx, Option.toList_some, List.filter_append, List.filter_cons_of_pos (by simp [hsq]), List.filter_nil]
  have hq : (acc.take k ++ x :: acc.drop k).Perm ((l.take (i + 1)).filter fun y => decide (y.seq = s)) := by
    rw [hf]
    refine (ins_perm k x).trans ((hp.cons x).trans ?_)
    exact (List.perm_append_comm (l₁ := [x])).trans (List.Perm.refl _)
  refine (sortX_eq (fun _ => rfl) hq ?_ (ins_sorted hs (ins_lo hs hk ?_) (ins_hi hs ?_))).symm
  · refine ((hq.map EX.id).nodup_iff).2 (hn.sublist ?_)
    exact (List.filter_sublist.trans (List.take_sublist _ _)).map _
  · rcases h1 with h | ⟨y, hy, h⟩
    · exact .inl h
    · exact .inr ⟨y, hy, by rw [posE_iff]; omega⟩
  · rcases h2 with h | ⟨y, hy, h⟩
    · exact .inl h
    · exact .inr ⟨y, hy, by rw [posE_iff]; omega⟩
theorem in_skip {l : List EX} {s : Int} {i : Nat} {x : EX} {acc : List EX} (hx : l[i]? = some x) (hsq : ¬ x.seq = s) (hacc : acc = sortX EX.at_ EX.id ((l.take i).filter fun y => decide (y.seq = s))) :
    acc = sortX EX.at_ EX.id ((l.take (i + 1)).filter fun y => decide (y.seq = s)) := by
  rw [List.take_add_one, hx, Option.toList_some, List.filter_append, List.filter_cons_of_neg (by simp [hsq]), List.filter_nil, List.append_nil]
  exact hacc
/-! ### Where one is -/
def atI (k : Int) (l : List OE) : Int := if l.findIdx (fun o => decide (o.x.id = k)) < l.length then (l.findIdx (fun o => decide (o.x.id = k)) : Int) else -1
theorem atI_no {k : Int} {l : List OE} (h : ∀ (j : Nat) o, l[j]? = some o → o.x.id ≠ k) : atI k l = -1 := by
  unfold atI
  rw [if_neg]
  intro h2
  have h3 := List.findIdx_getElem (w := h2)
  exact h _ _ (List.getElem?_eq_getElem h2) (of_decide_eq_true h3)
theorem atI_yes {k : Int} {l : List OE} {i : Nat} {o : OE} (ho : l[i]? = some o) (hi : o.x.id = k) (h : ∀ (j : Nat) o, j < i → l[j]? = some o → o.x.id ≠ k) : atI k l = (i : Int) := by
  obtain ⟨h1, h2⟩ := List.getElem?_eq_some_iff.1 ho
  have e : l.findIdx (fun o => decide (o.x.id = k)) = i := by
    rw [List.findIdx_eq h1]
    refine ⟨by rw [h2]; exact decide_eq_true hi, fun j hj => ?_⟩
    have := h j l[j] hj (List.getElem?_eq_getElem (by omega))
    simpa using this
  unfold atI
  rw [e, if_pos h1]
theorem atI_cases (k : Int) (l : List OE) : (atI k l = -1 ∧ ∀ o ∈ l, o.x.id ≠ k) ∨ ∃ (i : Nat) (o : OE), atI k l = (i : Int) ∧ l[i]? = some o ∧ o.x.id = k ∧ ∀ o' ∈ l.take i, o'.x.id ≠ k := by
  by_cases h : l.findIdx (fun o => decide (o.x.id = k)) < l.length
  · right
    refine ⟨_, _, by unfold atI; rw [if_pos h], List.getElem?_eq_getElem h, of_decide_eq_true (List.findIdx_getElem (w := h)), fun o' ho' => ?_⟩
    obtain ⟨j, hj⟩ := List.getElem?_of_mem ho'
    rw [List.getElem?_take] at hj
    split at hj
    · rename_i hlt
      obtain ⟨a1, a2⟩ := List.getElem?_eq_some_iff.1 hj
      have := List.not_of_lt_findIdx hlt
      rw [a2] at this
      simpa using this
    · cases hj
  · left
    refine ⟨by unfold atI; rw [if_neg h], fun o ho e => ?_⟩
    exact h (List.findIdx_lt_length_of_exists ⟨o, ho, decide_eq_true e⟩)
theorem split_at {l : List OE} {i : Nat} {o : OE} (ho : l[i]? = some o) : l = l.take i ++ o :: l.drop (i + 1) := by
  obtain ⟨h1, h2⟩ := List.getElem?_eq_some_iff.1 ho
  rw [← h2, List.getElem_cons_drop, List.take_append_drop]
theorem x_at {k : Int} {l : List OE} {i : Nat} {o : OE} (ho : l[i]? = some o) (hi : o.x.id = k) (h : ∀ o' ∈ l.take i, o'.x.id ≠ k) :
    xget k (l.map OE.x) = some o.x ∧ xdel k (l.map OE.x) = (l.take i ++ l.drop (i + 1)).map OE.x ∧ ∀ f : EX → EX, xmod k f (l.map OE.x) = (l.take i ++ ⟨f o.x, o.a, o.c⟩ :: l.drop (i + 1)).map OE.x := by
  have key : ∀ (A B : List OE), (∀ o' ∈ A, o'.x.id ≠ k) → xget k ((A ++ o :: B).map OE.x) = some o.x ∧ xdel k ((A ++ o :: B).map OE.x) = (A ++ B).map OE.x ∧ ∀ f : EX → EX, xmod k f ((A ++ o :: B).map OE.x) = (A ++ ⟨f o.x, o.a, o.c⟩ :: B).map OE.x := by
    intro A B hA
    induction A with
    | nil => simp [xget, xdel, xmod, hi]
    | cons z A ih =>
      obtain ⟨i1, i2, i3⟩ := ih fun o' h' => hA o' (List.mem_cons_of_mem _ h')
      have hz := hA z List.mem_cons_self
      simp only [List.cons_append, List.map_cons, xget, xdel, xmod]
      rw [if_neg hz, if_neg hz, i1, i2]
      refine ⟨rfl, rfl, fun f => ?_⟩
      rw [if_neg hz, i3]
  have h2 := key (l.take i) (l.drop (i + 1)) h
  rw [← split_at ho] at h2
  exact h2
theorem x_not {k : Int} {l : List OE} (h : ∀ o ∈ l, o.x.id ≠ k) : xget k (l.map OE.x) = none ∧ xdel k (l.map OE.x) = l.map OE.x ∧ ∀ f : EX → EX, xmod k f (l.map OE.x) = l.map OE.x := by
  induction l with
  | nil => exact ⟨rfl, rfl, fun _ => rfl⟩
  | cons z l ih =>
    obtain ⟨i1, i2, i3⟩ := ih fun o' h' => h o' (List.mem_cons_of_mem _ h')
    have hz := h z List.mem_cons_self
    simp only [List.map_cons, xget, xdel, xmod]
    rw [if_neg hz, if_neg hz, i1, i2]
    refine ⟨rfl, rfl, fun f => ?_⟩
    rw [if_neg hz, i3]

end Go.Proofs.Ytcphpcjcbmennaa
