/- Plain laws: what is made is well formed; states accept what derivatives accept. -/
import Derived.Test.YtbimpenhmefpeaaGreatDoorPart02
import Derived.Test.YtbimpenhmefpeaaGreatDoorPart01
set_option linter.all false
namespace Pv
def WFl (l : List R) : Prop := ∀ r ∈ l, WF r
theorem wf_mk {op : Nat} {s : S4} {ks : List R} : WF (.mk op s ks) ↔ op ≤ 7 ∧ (op ≠ 2 → s = S4.zero) ∧ (op = 3 ∨ op = 5 → ks ≠ []) ∧ WFl ks := by
  unfold WF; rw [WFs_iff]; rfl
theorem wf_kids {r : R} (h : WF r) : WFl r.kids := by
  cases r with
  | mk op s ks => rw [wf_mk] at h; exact h.2.2.2
theorem wfl_cons {r : R} {l : List R} : WFl (r :: l) ↔ WF r ∧ WFl l := by unfold WFl; simp
theorem wfl_nil : WFl [] := fun _ h => by cases h
theorem wfl_append {l m : List R} (h : WFl l) (k : WFl m) : WFl (l ++ m) := fun r hr => by
  rcases List.mem_append.1 hr with hr | hr
  · exact h r hr
  · exact k r hr
theorem wfl_sub {l m : List R} (h : WFl l) (k : ∀ r ∈ m, r ∈ l) : WFl m := fun r hr => h r (k r hr)
theorem wfl2 {a b : R} (ha : WF a) (hb : WF b) : WFl [a, b] := wfl_cons.2 ⟨ha, wfl_cons.2 ⟨hb, wfl_nil⟩⟩
theorem wf_nothing : WF nothing := by unfold nothing; rw [wf_mk]; exact ⟨by omega, fun _ => rfl, by omega, wfl_nil⟩
theorem wf_empty : WF empty := by unfold empty; rw [wf_mk]; exact ⟨by omega, fun _ => rfl, by omega, wfl_nil⟩
theorem wf_one (s : S4) : WF (one s) := by
  unfold one; split
  · exact wf_nothing
  · rw [wf_mk]; exact ⟨by omega, by omega, by omega, wfl_nil⟩
theorem wfl_flat {op : Nat} {l : List R} (h : WFl l) : WFl (flat op l) := by
  intro r hr
  unfold flat at hr
  obtain ⟨x, hx, hr⟩ := List.mem_flatMap.1 hr
  split at hr
  · exact wf_kids (h x hx) r hr
  · rw [List.mem_singleton.1 hr]; exact h x hx
theorem wf_thenOf {l : List R} (h : WFl l) : WF (thenOf l) := by
  unfold thenOf; split
  · exact wf_nothing
  · split
    · exact wf_empty
    · exact h _ (by simp)
    · rename_i h0 _
      rw [wf_mk]; exact ⟨by omega, fun _ => rfl, fun _ e => h0 e, h⟩
theorem wf_cat {l : List R} (h : WFl l) : WF (cat l) := by
  unfold cat
  exact wf_thenOf (wfl_sub (wfl_flat h) fun r hr => (List.mem_filter.1 hr).1)
theorem wf_word (l : List UInt8) : WF (word l) := wf_cat fun r hr => by
  obtain ⟨b, _, rfl⟩ := List.mem_map.1 hr
  exact wf_one _
theorem wf_many {r : R} (h : WF r) : WF (many r) := by
  unfold many; split
  · exact wf_empty
  · split
    · exact h
    · rw [wf_mk]; exact ⟨by omega, fun _ => rfl, fun _ => by simp, wfl_cons.2 ⟨h, wfl_nil⟩⟩
theorem wf_but {a b : R} (ha : WF a) (hb : WF b) : WF (but a b) := by
  unfold but; split
  · exact wf_nothing
  · split
    · exact ha
    · split
      · exact wf_one _
      · rw [wf_mk]; exact ⟨by omega, fun _ => rfl, by omega, wfl2 ha hb⟩
theorem wfl_joinGo {f : S4 → S4 → S4} : ∀ {l out : List R} {o : Option R}, WFl l → WFl out → (∀ x, o = some x → WF x) → WFl (joinGo f l out o)
  | [], out, o, _, ho, hx => by
    unfold joinGo
    refine wfl_sub (wfl_append ho (m := o.toList) fun r hr => ?_) fun r hr => mem_unique hr
    cases o with
    | none => cases hr
    | some x => simp at hr; subst hr; exact hx _ rfl
  | r :: l, out, o, hl, ho, hx => by
    obtain ⟨hr, hl⟩ := wfl_cons.1 hl
    unfold joinGo; split
    · cases o with
      | none => exact wfl_joinGo hl ho fun x e => by cases e; exact hr
      | some x =>
        simp only
        split
        · exact wfl_append ho (wfl_cons.2 ⟨wf_one _, wfl_nil⟩)
        · exact wfl_joinGo hl ho fun y e => by cases e; exact wf_one _
    · exact wfl_joinGo hl (wfl_append ho (wfl_cons.2 ⟨hr, wfl_nil⟩)) hx
theorem wf_any {l : List R} (h : WFl l) : WF (any l) := by
  unfold any
  have h1 : WFl ((join 4 l S4.or).filter fun r => !(r.op == 0)) :=
    wfl_sub (wfl_joinGo (wfl_flat h) wfl_nil (fun _ e => by cases e)) fun r hr => (List.mem_filter.1 hr).1
  unfold anyOf; split
  · exact wf_nothing
  · rename_i e; exact h1 _ (by rw [e]; simp)
  · rw [wf_mk]; exact ⟨by omega, fun _ => rfl, by omega, h1⟩
theorem wf_both {l : List R} (h : WFl l) : WF (both l) := by
  unfold both
  have h1 : WFl (join 6 l S4.and) := wfl_joinGo (wfl_flat h) wfl_nil (fun _ e => by cases e)
  unfold bothOf; split
  · exact wf_nothing
  · split
    · exact wf_many (wf_one _)
    · rename_i e; exact h1 _ (by rw [e]; simp)
    · rw [wf_mk]; exact ⟨by omega, fun _ => rfl, by omega, h1⟩
theorem wf_with {r : R} {ks : List R} (hr : WF r) (h : WFl ks) : WF (withKids r ks) := by
  unfold withKids
  split
  · exact wf_cat h
  split
  · exact wf_any h
  split
  · exact wf_both h
  split
  · split
    · exact wf_many (h _ (by simp))
    · exact hr
  split
  · split
    · exact wf_but (h _ (by simp)) (h _ (by simp))
    · exact hr
  · exact hr
theorem wf_byF (c : UInt8) : ∀ (n : Nat) {r : R}, WF r → WF (byF n c r)
  | 0, _, _ => wf_nothing
  | n + 1, r, h => by
    have hk := wf_kids h
    unfold byF
    split
    · split
      · exact wf_empty
      · exact wf_nothing
    split
    · split
      · exact wf_nothing
      · rename_i k rest e
        rw [e] at hk
        obtain ⟨h1, h2⟩ := wfl_cons.1 hk
        have hc := wf_cat h2
        have h3 : WF (cat [byF n c k, cat rest]) := wf_cat (wfl2 (wf_byF c n h1) hc)
        split
        · exact wf_any (wfl2 h3 (wf_byF c n hc))
        · exact h3
    split
    · split
      · exact wf_nothing
      · rename_i k rest e
        rw [e] at hk
        exact wf_cat (wfl2 (wf_byF c n (wfl_cons.1 hk).1) h)
    split
    · exact wf_with h fun x hx => by
        obtain ⟨k, hk', rfl⟩ := List.mem_map.1 hx
        exact wf_byF c n (hk k hk')
    · exact wf_nothing
theorem wf_by (c : UInt8) {r : R} (h : WF r) : WF (by_ c r) := wf_byF c _ h
theorem wf_reach {r x : R} (h : WF r) (hx : Reach r x) : WF x := by
  induction hx with
  | refl => exact h
  | step c _ ih => exact wf_by c ih
mutual
theorem wf_back : ∀ {r : R}, WF r → WF (back r)
  | .mk op s [], h => by unfold back; exact h
  | .mk op s (k :: ks), h => by
    unfold back
    have hb := wfl_backs (wf_kids h)
    refine wf_with h ?_
    split
    · exact wfl_sub hb fun r hr => List.mem_reverse.1 hr
    · exact hb
theorem wfl_backs : ∀ {l : List R}, WFl l → WFl (backs l)
  | [], _ => by unfold backs; exact wfl_nil
  | r :: l, h => by
    unfold backs
    obtain ⟨h1, h2⟩ := wfl_cons.1 h
    exact wfl_cons.2 ⟨wf_back h1, wfl_backs h2⟩
end

/-! ### Behind a text -/
def bys (r : R) (s : List UInt8) : R := s.foldl (fun x b => by_ b x) r
theorem bys_cons (r : R) (b : UInt8) (s : List UInt8) : bys r (b :: s) = bys (by_ b r) s := rfl
theorem bys_append (r : R) (s t : List UInt8) : bys r (s ++ t) = bys (bys r s) t := List.foldl_append
theorem reach_bys {r x : R} (hx : Reach r x) : ∀ s : List UInt8, Reach r (bys x s)
  | [] => hx
  | b :: s => reach_bys (.step b hx) s
theorem byF_none (c : UInt8) : ∀ (n : Nat) {r : R}, r.op = 0 → byF n c r = nothing
  | 0, _, _ => rfl
  | n + 1, r, h => by
    unfold byF
    rw [if_neg (by omega), if_neg (by omega), if_neg (by omega), if_neg (by omega)]
theorem bys_none {r : R} (h : r.op = 0) : ∀ s : List UInt8, (bys r s).op = 0
  | [] => h
  | b :: s => by
    have e : by_ b r = nothing := byF_none b _ h
    rw [bys_cons, e]
    exact bys_none rfl s
theorem null_none {r : R} (h : r.op = 0) : null r = false := by
  cases r with
  | mk op s ks =>
    simp only [R.op] at h
    subst h
    unfold null nullOf
    simp
theorem matchR_bys : ∀ (s : List UInt8) (r : R), matchR s r = null (bys r s)
  | [], r => by unfold matchR; rfl
  | b :: s, r => by
    unfold matchR
    simp only
    split
    · rename_i h
      rw [bys_cons, null_none (bys_none h s)]
    · rw [matchR_bys s, bys_cons]

/-- the state that a text leads to is of what stands behind it -/
theorem GoOk.step {r : R} {D : Dfa} {all : List R} (hp : D.parts = refine (allSets r)) (hG : GoOk r D.heads all.length all D.next) (hw : WF r) {q : Nat} (hq : q < all.length) (b : UInt8) :
    ∃ h : D.step q b.toNat < all.length, all[D.step q b.toNat] = by_ b all[q] := by
  have hqn : q < D.next.length := by rw [hG.len]; exact hq
  have hR := hG.row q hqn hq
  have hreach := hG.reach all[q] (List.getElem_mem hq)
  obtain ⟨hi, he⟩ := by_head hreach b
  have hat : D.at_ b.toNat = indexOf (refine (allSets r)) b.toNat := by unfold Dfa.at_; rw [hp]
  have hheads : D.heads = (refine (allSets r)).map Dfa.head := by unfold Dfa.heads; rw [hp]
  have hil : D.at_ b.toNat < D.heads.length := by rw [hheads, List.length_map, hat]; exact hi
  have hir : D.at_ b.toNat < (D.next[q]).length := by rw [hR.1]; exact hil
  have hst : D.step q b.toNat = D.next[q][D.at_ b.toNat] := by
    unfold Dfa.step
    have e1 : D.next.getD q [] = D.next[q] := by rw [List.getD_eq_getElem?_getD, List.getElem?_eq_getElem hqn]; rfl
    rw [e1, List.getD_eq_getElem?_getD, List.getElem?_eq_getElem hir]; rfl
  obtain ⟨h1, h2⟩ := hR.2 _ hir hil
  have h3 : D.heads[D.at_ b.toNat] = Dfa.head ((refine (allSets r))[indexOf (refine (allSets r)) b.toNat]) := by
    simp only [hheads, hat, List.getElem_map]
  rw [h3, ← he] at h2
  simp only [hst]
  exact ⟨h1, key_inj (wf_reach hw (hG.reach _ (List.getElem_mem _))) (wf_by b (wf_reach hw hreach)) h2⟩
theorem GoOk.run {r : R} {D : Dfa} {all : List R} (hp : D.parts = refine (allSets r)) (hG : GoOk r D.heads all.length all D.next) (hw : WF r) : ∀ (s : List UInt8) {q : Nat} (hq : q < all.length),
    ∃ h : D.run q s < all.length, all[D.run q s] = bys all[q] s
  | [], q, hq => ⟨hq, rfl⟩
  | b :: s, q, hq => by
    obtain ⟨h1, h2⟩ := GoOk.step hp hG hw hq b
    obtain ⟨h3, h4⟩ := GoOk.run hp hG hw s h1
    exact ⟨h3, by rw [bys_cons, ← h2]; exact h4⟩
/-- states accept what derivatives accept -/
theorem build_accepts {r : R} {l l' : Nat} {D : Dfa} (h : build r l = (l', some D)) (hw : WF r) (s : List UInt8) : D.accepts s = matchR s r := by
  obtain ⟨all, hp, hy, hG, _⟩ := build_spec h
  obtain ⟨t, ht⟩ := hG.first
  obtain ⟨h1, h2⟩ := GoOk.run hp hG hw s (q := 0) (by rw [ht]; simp)
  have h0 : all[0]'(by rw [ht]; simp) = r := by simp [ht]
  rw [matchR_bys, ← h0, ← h2]
  unfold Dfa.accepts Dfa.isYes
  rw [hy, List.getD_eq_getElem?_getD, List.getElem?_map, List.getElem?_eq_getElem h1]; rfl
/-- no expression behind a text is too great -/
theorem build_small {r : R} {l l' : Nat} {D : Dfa} (h : build r l = (l', some D)) (hw : WF r) (s : List UInt8) : size (bys r s) ≤ most := by
  obtain ⟨all, hp, hy, hG, _⟩ := build_spec h
  obtain ⟨t, ht⟩ := hG.first
  obtain ⟨h1, h2⟩ := GoOk.run hp hG hw s (q := 0) (by rw [ht]; simp)
  have h0 : all[0]'(by rw [ht]; simp) = r := by simp [ht]
  rw [← h0, ← h2]
  exact hG.st.size _ (List.getElem_mem _)
end Pv
namespace Pv
theorem Dfa.run_snoc (D : Dfa) (q : Nat) (s : List UInt8) (b : UInt8) : D.run q (s ++ [b]) = D.step (D.run q s) b.toNat := by
  unfold Dfa.run; rw [List.foldl_append]; rfl
/-- each spot but the first comes of an earlier one -/
def Good (A B : Dfa) (l : Trail) : Prop := ∀ (i : Nat) (x : Spot) (s : Step), l[i]? = some (x, s) → (s.from_ = -1 ∧ x = ⟨0, 0, 0, false⟩) ∨
  ∃ (j : Nat) (y : Spot) (t : Step), s.from_ = (j : Int) ∧ j < i ∧ l[j]? = some (y, t) ∧ ((s.free = true ∧ freeOf A y = some x) ∨ (s.free = false ∧ byOf A B y s.by_ = some x))
theorem Good.start (A B : Dfa) : Good A B [(⟨0, 0, 0, false⟩, ⟨-1, 0, false⟩)] := fun i x s h => by
  cases i with
  | zero => simp at h; obtain ⟨rfl, rfl⟩ := h; exact .inl ⟨rfl, rfl⟩
  | succ i => simp at h
theorem addSpot_spec {x : Spot} {s : Step} {l l' : Trail} {n n' : Nat} (h : addSpot x s l n = some (l', n')) : (l' = l ∧ n' = n) ∨ (l' = l ++ [(x, s)] ∧ n' + 1 = n) := by
  unfold addSpot at h
  split at h
  · cases h; exact .inl ⟨rfl, rfl⟩
  · split at h
    · cases h
    · cases h; exact .inr ⟨rfl, by omega⟩
theorem Good.add {A B : Dfa} {l l' : Trail} (hG : Good A B l) {j : Nat} {y : Spot} {t : Step} (hj : l[j]? = some (y, t)) {x : Spot} {b : UInt8} {fr : Bool}
    (hx : (fr = true ∧ freeOf A y = some x) ∨ (fr = false ∧ byOf A B y b = some x)) {n n' : Nat} (h : addSpot x ⟨j, b, fr⟩ l n = some (l', n')) : Good A B l' := by
  rcases addSpot_spec h with ⟨rfl, _⟩ | ⟨rfl, _⟩
  · exact hG
  · intro i z s hi
    have hjl := (List.getElem?_eq_some_iff.1 hj).1
    by_cases e : i < l.length
    · rw [List.getElem?_append_left e] at hi
      rcases hG i z s hi with h | ⟨j', y', t', h1, h2, h3, h4⟩
      · exact .inl h
      · exact .inr ⟨j', y', t', h1, h2, by rw [List.getElem?_append_left (by omega)]; exact h3, h4⟩
    · rw [List.getElem?_append_right (by omega)] at hi
      have e0 : i - l.length = 0 := by
        cases hk : i - l.length with
        | zero => rfl
        | succ k => rw [hk] at hi; simp at hi
      rw [e0] at hi
      simp at hi
      obtain ⟨rfl, rfl⟩ := hi
      exact .inr ⟨j, y, t, rfl, by omega, by rw [List.getElem?_append_left hjl]; exact hj, hx⟩
theorem catFree_good {A B : Dfa} : ∀ {f i : Nat} {l l' : Trail} {n n' : Nat}, catFree A f i l n = (n', some l') → Good A B l → Good A B l' ∧ (∃ m, l' = l ++ m) ∧ l'.length + n' = l.length + n
  | 0, _, _, _, _, _, h, _ => by cases h
  | f + 1, i, l, l', n, n', h, hG => by
    unfold catFree at h
    split at h
    · cases h; exact ⟨hG, ⟨[], by simp⟩, rfl⟩
    · rename_i x s hx
      split at h
      · exact catFree_good h hG
      · rename_i y hy
        split at h
        · cases h
        · rename_i l1 n1 ha
          obtain ⟨h1, ⟨m, h2⟩, h3⟩ := catFree_good h (hG.add hx (.inl ⟨rfl, hy⟩) ha)
          rcases addSpot_spec ha with ⟨rfl, rfl⟩ | ⟨rfl, e⟩
          · exact ⟨h1, ⟨m, h2⟩, h3⟩
          · exact ⟨h1, ⟨_, by rw [h2, List.append_assoc]⟩, by simp at h3; omega⟩
theorem catBytes_good {A B : Dfa} {i : Nat} {x : Spot} {s : Step} : ∀ {hs : List UInt8} {l l' : Trail} {n n' : Nat}, catBytes A B i x hs l n = (n', some l') → l[i]? = some (x, s) → Good A B l → Good A B l' ∧ (∃ m, l' = l ++ m) ∧ l'.length + n' = l.length + n
  | [], l, l', n, n', h, _, hG => by unfold catBytes at h; cases h; exact ⟨hG, ⟨[], by simp⟩, rfl⟩
  | b :: hs, l, l', n, n', h, hx, hG => by
    unfold catBytes at h
    split at h
    · exact catBytes_good h hx hG
    · rename_i y hy
      split at h
      · cases h
      · rename_i l1 n1 ha
        rcases addSpot_spec ha with ⟨rfl, rfl⟩ | ⟨rfl, e⟩
        · exact catBytes_good h hx hG
        · have hg := hG.add hx (.inr ⟨rfl, hy⟩) ha
          have hil := (List.getElem?_eq_some_iff.1 hx).1
          obtain ⟨h1, ⟨m, h2⟩, h3⟩ := catBytes_good h (by rw [List.getElem?_append_left hil]; exact hx) hg
          exact ⟨h1, ⟨_, by rw [h2, List.append_assoc]⟩, by simp at h3; omega⟩
theorem catMore_good {A B : Dfa} {heads : List UInt8} : ∀ {k i : Nat} {l l' : Trail} {n n' : Nat}, catMore A B heads k i l n = (n', some l') → Good A B l → Good A B l' ∧ (∃ m, l' = l ++ m) ∧ l'.length + n' = l.length + n
  | 0, _, _, _, _, _, h, hG => by unfold catMore at h; cases h; exact ⟨hG, ⟨[], by simp⟩, rfl⟩
  | k + 1, i, l, l', n, n', h, hG => by
    unfold catMore at h
    split at h
    · cases h; exact ⟨hG, ⟨[], by simp⟩, rfl⟩
    · rename_i x s hx
      split at h
      · cases h
      · rename_i n1 l1 hb
        obtain ⟨h1, ⟨m1, h2⟩, h3⟩ := catBytes_good hb hx hG
        obtain ⟨h4, ⟨m2, h5⟩, h6⟩ := catMore_good h h1
        exact ⟨h4, ⟨m1 ++ m2, by rw [h5, h2, List.append_assoc]⟩, by omega⟩
/-- what a spot's trail tells -/
inductive Tells (A B : Dfa) (x : Spot) : List UInt8 → List Nat → Prop where
  | ahead (u : List UInt8) : x.phase = 0 → x.p = A.run 0 u → x.q = 0 → Tells A B x u []
  | between (u v : List UInt8) : x.phase = 1 → A.isYes (A.run 0 u) = true → x.p = A.run 0 (u ++ v) → x.q = B.run 0 v → (x.moved = true → v ≠ []) → Tells A B x (u ++ v) [v.length]
  | behind (u v z : List UInt8) : x.phase = 2 → A.isYes (A.run 0 u) = true → A.isYes (A.run 0 (u ++ v)) = true → v ≠ [] → x.p = B.run 0 (v ++ z) → x.q = B.run 0 z →
      Tells A B x (u ++ (v ++ z)) [z.length, (v ++ z).length]
theorem twoGo_tells {A B : Dfa} {l : Trail} (hG : Good A B l) : ∀ (i : Nat) (x : Spot) (s : Step), l[i]? = some (x, s) → ∀ (f : Nat), i < f → ∃ u ps, Tells A B x u ps ∧
    ∀ out places, twoGo l f i out places = (out ++ u.reverse, places ++ ps.map (out.length + ·)) := by
  intro i
  induction i using Nat.strongRecOn with
  | _ i ih =>
    intro x s hx f hf
    obtain ⟨f, rfl⟩ : ∃ g, f = g + 1 := ⟨f - 1, by omega⟩
    rcases hG i x s hx with ⟨h1, rfl⟩ | ⟨j, y, t, h1, h2, h3, h4⟩
    · refine ⟨[], [], .ahead [] rfl rfl rfl, fun out places => ?_⟩
      unfold twoGo
      simp only [hx, h1]
      simp
    · obtain ⟨u, ps, hT, hE⟩ := ih j h2 y t h3 f (by omega)
      have hneg : ¬ (s.from_ < 0) := by omega
      have hto : s.from_.toNat = j := by omega
      rcases h4 with ⟨hfr, hy⟩ | ⟨hfr, hy⟩
      · have hgo : ∀ out places, twoGo l (f + 1) i out places = twoGo l f j out (places ++ [out.length]) := fun out places => by
          conv => lhs; unfold twoGo
          simp only [hx, hneg, if_false, hfr, if_true, hto]
        unfold freeOf at hy
        split at hy
        · rename_i e
          cases hy
          cases hT with
          | ahead u e1 e2 e3 =>
            refine ⟨u ++ [], [0], .between u [] rfl (by rw [← e2]; exact e.2) (by simpa using e2) rfl (fun h => by cases h), fun out places => ?_⟩
            rw [hgo, hE]; simp
          | between u v e1 => omega
          | behind u v z e1 => omega
        · split at hy
          · rename_i e
            cases hy
            cases hT with
            | ahead u e1 => omega
            | between u v e1 e2 e3 e4 e5 =>
              refine ⟨u ++ (v ++ []), [0, v.length], (by simpa using Tells.behind (A := A) (B := B) (x := ⟨2, y.q, 0, false⟩) u v [] rfl e2 (by rw [← e3]; exact e.2.2) (e5 e.2.1) (by simpa using e4) rfl), fun out places => ?_⟩
              rw [hgo, hE]; simp
            | behind u v z e1 => omega
          · cases hy
      · have hgo : ∀ out places, twoGo l (f + 1) i out places = twoGo l f j (out ++ [s.by_]) places := fun out places => by
          conv => lhs; unfold twoGo
          simp only [hx, hneg, if_false, hfr, hto]
          simp
        unfold byOf at hy
        simp only at hy
        split at hy
        · rename_i e
          split at hy
          · cases hy
            cases hT with
            | ahead u e1 e2 e3 =>
              refine ⟨u ++ [s.by_], [], .ahead _ rfl (by rw [Dfa.run_snoc, ← e2]) rfl, fun out places => ?_⟩
              rw [hgo, hE]; simp
            | between u v e1 => omega
            | behind u v z e1 => omega
          · cases hy
        · rename_i e0
          split at hy
          · rename_i e
            split at hy
            · cases hy
              cases hT with
              | ahead u e1 => omega
              | between u v e1 e2 e3 e4 e5 =>
                refine ⟨u ++ (v ++ [s.by_]), [(v ++ [s.by_]).length], .between u _ rfl e2 (by rw [← List.append_assoc, Dfa.run_snoc, ← e3]) (by rw [Dfa.run_snoc, ← e4]) (fun _ => by simp), fun out places => ?_⟩
                rw [hgo, hE]; simp; omega
              | behind u v z e1 => omega
            · cases hy
          · split at hy
            · cases hy
              cases hT with
              | ahead u e1 => omega
              | between u v e1 => omega
              | behind u v z e1 e2 e3 e4 e5 e6 =>
                refine ⟨u ++ (v ++ (z ++ [s.by_])), [(z ++ [s.by_]).length, (v ++ (z ++ [s.by_])).length], .behind u v _ rfl e2 e3 e4 (by rw [← List.append_assoc, Dfa.run_snoc, ← e5]) (by rw [Dfa.run_snoc, ← e6]), fun out places => ?_⟩
                rw [hgo, hE]; simp; omega
            · cases hy
/-- spots are of states -/
theorem tells_lt {A B : Dfa} (hA : A.Ok) (hB : B.Ok) {x : Spot} {u : List UInt8} {ps : List Nat} (h : Tells A B x u ps) :
    (x.phase ≤ 2) ∧ (x.phase ≤ 1 → x.p < A.yes.length) ∧ (x.phase = 2 → x.p < B.yes.length) ∧ x.q < B.yes.length := by
  cases h with
  | ahead u e1 e2 e3 => exact ⟨by omega, fun _ => by rw [e2]; exact hA.run_lt _ hA.pos, by omega, by rw [e3]; exact hB.pos⟩
  | between u v e1 e2 e3 e4 => exact ⟨by omega, fun _ => by rw [e3]; exact hA.run_lt _ hA.pos, by omega, by rw [e4]; exact hB.run_lt _ hB.pos⟩
  | behind u v z e1 e2 e3 e4 e5 e6 => exact ⟨by omega, by omega, fun _ => by rw [e5]; exact hB.run_lt _ hB.pos, by rw [e6]; exact hB.run_lt _ hB.pos⟩
theorem Good.spot {A B : Dfa} (hA : A.Ok) (hB : B.Ok) {l : Trail} (hG : Good A B l) {i : Nat} {x : Spot} {s : Step} (h : l[i]? = some (x, s)) :
    (x.phase ≤ 2) ∧ (x.phase ≤ 1 → x.p < A.yes.length) ∧ (x.phase = 2 → x.p < B.yes.length) ∧ x.q < B.yes.length := by
  obtain ⟨u, ps, hT, _⟩ := twoGo_tells hG i x s h (i + 1) (by omega)
  exact tells_lt hA hB hT
end Pv
namespace Pv
theorem nodup_lt : ∀ (n : Nat) (l : List Nat), l.Nodup → (∀ x ∈ l, x < n) → l.length ≤ n
  | 0, l, _, h => by
    cases l with
    | nil => simp
    | cons x l => have := h x (by simp); omega
  | n + 1, l, hn, h => by
    have h1 := nodup_lt n (l.erase n) (hn.erase n) (fun x hx => by
      have hx1 := List.mem_of_mem_erase hx
      have := h x hx1
      have hne : x ≠ n := fun e => by
        subst e
        exact absurd hx (hn.not_mem_erase)
      omega)
    by_cases hm : n ∈ l
    · have := List.length_erase_of_mem hm
      omega
    · rw [List.erase_of_not_mem hm] at h1
      omega
structure CameOk (D : Dfa) (c : Came) : Prop where
  first : c[0]? = some (0, -1, 0)
  lt : ∀ x ∈ c, x.1 < D.yes.length
  nd : (c.map (·.1)).Nodup
  pre : ∀ i x, c[i + 1]? = some x → ∃ j y, j ≤ i ∧ c[j]? = some y ∧ x.2.1 = (y.1 : Int)
theorem CameOk.start {D : Dfa} (hD : D.Ok) : CameOk D [(0, -1, 0)] :=
  ⟨rfl, fun x hx => by rw [List.mem_singleton.1 hx]; exact hD.pos, by simp, fun i x h => by simp at h⟩
theorem CameOk.len {D : Dfa} {c : Came} (h : CameOk D c) : c.length ≤ D.yes.length := by
  have := nodup_lt D.yes.length (c.map (·.1)) h.nd (fun x hx => by
    obtain ⟨y, hy, rfl⟩ := List.mem_map.1 hx
    exact h.lt y hy)
  simpa using this
theorem CameOk.add {D : Dfa} {c : Came} (h : CameOk D c) {i : Nat} {x : Nat × Int × UInt8} (hi : c[i]? = some x) {to : Nat} (hto : to < D.yes.length) (b : UInt8) (hn : ¬ c.any (fun y => y.1 == to) = true) : CameOk D (c ++ [(to, (x.1 : Int), b)]) := by
  have hi' := (List.getElem?_eq_some_iff.1 hi).1
  refine ⟨?_, ?_, ?_, ?_⟩
  · rw [List.getElem?_append_left (by omega)]; exact h.first
  · intro y hy
    rcases List.mem_append.1 hy with hy | hy
    · exact h.lt y hy
    · rw [List.mem_singleton.1 hy]; exact hto
  · rw [List.map_append, List.nodup_append]
    refine ⟨h.nd, by simp, ?_⟩
    intro a ha b' hb e
    simp at hb
    subst hb
    subst e
    obtain ⟨y, hy, e⟩ := List.mem_map.1 ha
    exact hn (List.any_eq_true.2 ⟨y, hy, by simp [e]⟩)
  · intro k y hk
    by_cases hkl : k + 1 < c.length
    · rw [List.getElem?_append_left hkl] at hk
      obtain ⟨j, z, h1, h2, h3⟩ := h.pre k y hk
      exact ⟨j, z, h1, by rw [List.getElem?_append_left (by omega)]; exact h2, h3⟩
    · rw [List.getElem?_append_right (by omega)] at hk
      obtain ⟨e1, e2⟩ := List.getElem?_eq_some_iff.1 hk
      simp at e1
      have e3 : k + 1 = c.length := by omega
      have : y = (to, (x.1 : Int), b) := by
        have h0 : k + 1 - c.length = 0 := by omega
        rw [h0] at hk
        simpa using hk.symm
      subst this
      exact ⟨i, x, by omega, by rw [List.getElem?_append_left hi']; exact hi, rfl⟩
theorem cameOf_at {c : Came} : (c.map (·.1)).Nodup → ∀ {i : Nat} {x : Nat × Int × UInt8}, c[i]? = some x → cameOf c x.1 = x.2 := by
  intro hn i x hi
  unfold cameOf
  have : c.find? (fun y => y.1 == x.1) = some x := by
    induction c generalizing i with
    | nil => simp at hi
    | cons y c ih =>
      rw [List.find?_cons]
      cases i with
      | zero => simp at hi; subst hi; simp
      | succ i =>
        simp only [List.map_cons, List.nodup_cons] at hn
        have hx : x ∈ c := List.mem_of_getElem? (by simpa using hi)
        have hne : (y.1 == x.1) = false := by
          simp only [beq_eq_false_iff_ne]
          intro e
          exact hn.1 (by rw [e]; exact List.mem_map_of_mem hx)
        rw [hne]
        exact ih hn.2 (by simpa using hi)
  rw [this]
theorem textTo_zero {c : Came} {f : Nat} {out : List UInt8} : textTo c (f + 1) 0 out = out := by simp [textTo]
theorem textTo_step {c : Came} {f q : Nat} {out : List UInt8} (hq : q ≠ 0) : textTo c (f + 1) q out = textTo c f (cameOf c q).1.toNat ((cameOf c q).2 :: out) := by
  rw [textTo, if_neg hq]
theorem nodup_idx {c : Came} (hn : (c.map (·.1)).Nodup) {i j : Nat} {x y : Nat × Int × UInt8} (hi : c[i]? = some x) (hj : c[j]? = some y) (e : x.1 = y.1) : i = j := by
  have h1 : (c.map (·.1))[i]? = some x.1 := by rw [List.getElem?_map, hi]; rfl
  have h2 : (c.map (·.1))[j]? = some y.1 := by rw [List.getElem?_map, hj]; rfl
  have hil := (List.getElem?_eq_some_iff.1 h1).1
  rw [e] at h1
  exact (List.getElem?_inj hil hn).1 (h1.trans h2.symm)
def foldShort (D : Dfa) (q : Nat) (c : Came) (hs : List UInt8) : Came := hs.foldl (shortStep D q) c
theorem shortStep_new {D : Dfa} {q : Nat} {c : Came} {h : UInt8} (hn : c.any (fun x => x.1 == D.step q h.toNat) = false) : shortStep D q c h = c ++ [(D.step q h.toNat, (q : Int), h)] := by
  unfold shortStep; simp [hn]
theorem shortStep_old {D : Dfa} {q : Nat} {c : Came} {h : UInt8} (hn : c.any (fun x => x.1 == D.step q h.toNat) = true) : shortStep D q c h = c := by
  unfold shortStep; simp [hn]
theorem shortGo_yes {D : Dfa} {f i : Nat} {c : Came} {x : Nat × Int × UInt8} (hi : c[i]? = some x) (hy : D.isYes x.1 = true) : shortGo D (f + 1) i c = some (textTo c (D.yes.length + 1) x.1 []) := by
  rw [shortGo, hi]; simp [hy]
theorem shortGo_no {D : Dfa} {f i : Nat} {c : Came} {x : Nat × Int × UInt8} (hi : c[i]? = some x) (hy : D.isYes x.1 = false) : shortGo D (f + 1) i c = shortGo D f (i + 1) (D.heads.foldl (shortStep D x.1) c) := by
  rw [shortGo, hi]; simp [hy]
theorem shortGo_end {D : Dfa} {f i : Nat} {c : Came} (hi : c.length ≤ i) : shortGo D f i c = none := by
  cases f with
  | zero => rfl
  | succ f => rw [shortGo, List.getElem?_eq_none hi]
end Pv
namespace Pv
theorem stateOf_mono {x : R} {all a : List R} {l l' q : Nat} (m : Nat) (h : stateOf x all l = some (a, l', q)) : stateOf x all (l + m) = some (a, l' + m, q) := by
  unfold stateOf at h ⊢
  split at h
  · rename_i e; cases h; first | rfl | rw [e]
  · rename_i e
    try rw [e]
    try simp only
    split at h
    · cases h
    · rename_i e2
      rw [if_neg e2]
      split at h
      · cases h
      · cases h
        rw [if_neg (by omega)]
        congr 3; omega
theorem buildRow_mono {x : R} (m : Nat) : ∀ {hs : List UInt8} {all : List R} {l l' : Nat} {row : List Nat} {res : List R × List Nat}, buildRow x hs all l row = (l', some res) → buildRow x hs all (l + m) row = (l' + m, some res)
  | [], all, l, l', row, res, h => by unfold buildRow at h ⊢; cases h; rfl
  | b :: hs, all, l, l', row, res, h => by
    unfold buildRow at h ⊢
    split at h
    · cases h
    · rename_i e
      rw [stateOf_mono m e]
      exact buildRow_mono m h
theorem buildGo_mono {heads : List UInt8} (m k : Nat) : ∀ {f q : Nat} {all : List R} {l l' : Nat} {next : List (List Nat)} {res : List R × List (List Nat)}, buildGo heads f q all l next = (l', some res) → buildGo heads (f + k) q all (l + m) next = (l' + m, some res)
  | 0, _, _, _, _, _, _, h => by cases h
  | f + 1, q, all, l, l', next, res, h => by
    rw [Nat.add_right_comm]
    unfold buildGo at h ⊢
    split at h
    · rename_i e; cases h; first | rfl | rw [e]
    · rename_i e
      try rw [e]
      try simp only
      split at h
      · cases h
      · rename_i e2
        rw [buildRow_mono m e2]
        exact buildGo_mono m k h
theorem build_mono {r : R} {l l' : Nat} {D : Dfa} (m : Nat) (h : build r l = (l', some D)) : build r (l + m) = (l' + m, some D) := by
  unfold build at h ⊢
  simp only at h ⊢
  split at h
  · cases h
  · rename_i e
    rw [stateOf_mono m e]
    simp only
    split at h
    · cases h
    · rename_i e2
      cases h
      rw [show l + m + 2 = l + 2 + m by omega, buildGo_mono m m e2]
/-- whatever both tell is the same -/
theorem told_same {α : Type} {F : Nat → Nat × Option α} (hF : ∀ {l l' : Nat} {a : α} (m : Nat), F l = (l', some a) → F (l + m) = (l' + m, some a)) {l k l' k' : Nat} {a b : α} (h : F l = (l', some a)) (h' : F k = (k', some b)) : a = b ∧ l + k' = k + l' := by
  rcases Nat.le_total l k with e | e
  · have := hF (k - l) h
    rw [show l + (k - l) = k by omega, h'] at this
    injection this with e1 e2
    injection e2 with e2
    exact ⟨e2.symm, by omega⟩
  · have := hF (l - k) h'
    rw [show k + (l - k) = l by omega, h] at this
    injection this with e1 e2
    injection e2 with e2
    exact ⟨e2, by omega⟩
theorem witness_mono {r : R} {l l' : Nat} {a : Option (List UInt8)} (m : Nat) (h : witness r l = (l', some a)) : witness r (l + m) = (l' + m, some a) := by
  unfold witness at h ⊢
  split at h
  · cases h
  · rename_i e
    cases h
    rw [build_mono m e]
theorem side_mono {r : R} {l l' : Nat} {a : Side} (m : Nat) (h : side r l = (l', some a)) : side r (l + m) = (l' + m, some a) := by
  unfold side at h ⊢
  split at h
  · cases h
  · rename_i e
    rw [build_mono m e]
    simp only
    split at h
    · cases h
    · rename_i e2
      cases h
      rw [build_mono m e2]
theorem addSpot_mono {x : Spot} {s : Step} {l l' : Trail} {n n' : Nat} (m : Nat) (h : addSpot x s l n = some (l', n')) : addSpot x s l (n + m) = some (l', n' + m) := by
  unfold addSpot at h ⊢
  split at h
  · rename_i e; cases h; rw [if_pos e]
  · rename_i e
    rw [if_neg e]
    split at h
    · cases h
    · cases h
      rw [if_neg (by omega)]
      congr 2; omega
theorem catFree_mono {A : Dfa} (m k : Nat) : ∀ {f i : Nat} {l l' : Trail} {n n' : Nat}, catFree A f i l n = (n', some l') → catFree A (f + k) i l (n + m) = (n' + m, some l')
  | 0, _, _, _, _, _, h => by cases h
  | f + 1, i, l, l', n, n', h => by
    rw [Nat.add_right_comm]
    unfold catFree at h ⊢
    split at h
    · rename_i e; cases h; first | rfl | rw [e]
    · rename_i e
      try rw [e]
      try simp only
      split at h
      · rename_i e2
        try rw [e2]
        exact catFree_mono m k h
      · rename_i e2
        try rw [e2]
        try simp only
        split at h
        · cases h
        · rename_i e3
          rw [addSpot_mono m e3]
          exact catFree_mono m k h
theorem catBytes_mono {A B : Dfa} {i : Nat} {x : Spot} (m : Nat) : ∀ {hs : List UInt8} {l l' : Trail} {n n' : Nat}, catBytes A B i x hs l n = (n', some l') → catBytes A B i x hs l (n + m) = (n' + m, some l')
  | [], l, l', n, n', h => by unfold catBytes at h ⊢; cases h; rfl
  | b :: hs, l, l', n, n', h => by
    unfold catBytes at h ⊢
    split at h
    · rename_i e; try rw [e]
      exact catBytes_mono m h
    · rename_i e
      try rw [e]
      try simp only
      split at h
      · cases h
      · rename_i e2
        rw [addSpot_mono m e2]
        exact catBytes_mono m h
theorem catMore_mono {A B : Dfa} {heads : List UInt8} (m : Nat) : ∀ {k i : Nat} {l l' : Trail} {n n' : Nat}, catMore A B heads k i l n = (n', some l') → catMore A B heads k i l (n + m) = (n' + m, some l')
  | 0, _, _, _, _, _, h => by unfold catMore at h ⊢; cases h; rfl
  | k + 1, i, l, l', n, n', h => by
    unfold catMore at h ⊢
    split at h
    · rename_i e; cases h; first | rfl | rw [e]
    · rename_i e
      try rw [e]
      try simp only
      split at h
      · cases h
      · rename_i e2
        rw [catBytes_mono m e2]
        exact catMore_mono m h
theorem catGo_mono {A B : Dfa} {heads : List UInt8} (m k : Nat) : ∀ {f i : Nat} {l : Trail} {n n' : Nat} {r : Option Two}, catGo A B heads f i l n = (n', some r) → catGo A B heads (f + k) i l (n + m) = (n' + m, some r)
  | 0, _, _, _, _, _, h => by cases h
  | f + 1, i, l, n, n', r, h => by
    rw [Nat.add_right_comm]
    unfold catGo at h ⊢
    split at h
    · rename_i hlt
      rw [if_pos hlt]
      split at h
      · cases h
      · rename_i n1 l1 e
        rw [show n + m + l.length + 1 - i = (n + l.length + 1 - i) + m by omega, catFree_mono m m e]
        simp only
        split at h
        · rename_i e2; cases h; first | rfl | rw [e2]
        · rename_i e2
          try rw [e2]
          try simp only
          split at h
          · cases h
          · rename_i e3
            rw [catMore_mono m e3]
            exact catGo_mono m k h
    · rename_i hlt
      cases h; rw [if_neg (by assumption)]
theorem ambigCat_mono {x y : R} {l l' : Nat} {a : Option Two} (m : Nat) (h : ambigCat x y l = (l', some a)) : ambigCat x y (l + m) = (l' + m, some a) := by
  unfold ambigCat at h ⊢
  split at h
  · cases h
  · rename_i e
    rw [build_mono m e]
    simp only
    split at h
    · cases h
    · rename_i e2
      rw [build_mono m e2]
      simp only
      split at h
      · cases h
      · rename_i e3
        rw [addSpot_mono m e3]
        simp only
        have := catGo_mono m m h
        rw [Nat.add_right_comm] at this
        exact this
theorem ambigIter_mono {x : R} {l l' : Nat} {a : Option Two} (m : Nat) (h : ambigIter x l = (l', some a)) : ambigIter x (l + m) = (l' + m, some a) := by
  unfold ambigIter at h ⊢
  split at h
  · rename_i e; cases h; rw [if_pos e]
  · rename_i e; rw [if_neg e]; exact ambigCat_mono m h
end Pv
namespace Pv
/-- a term: what it is (0 Name, 1 Re, 2 Copy, 3 Key, 4 Const, 5 Del, 6 Ins, 7 Or, 8 Cat, 9 Star, 10 Swap, 11 Seq, 12 Inv, 13 Dict, 14 Left, 15 Right, 16 Keep, 17 Norm), where, ... -/
inductive T where
  | mk (op : Nat) (at_ : Int) (name : List UInt8) (re : Option R) (text back : List UInt8) (kids : List T)
instance : Inhabited T := ⟨.mk 0 0 [] none [] [] []⟩
namespace T
def op : T → Nat | mk o .. => o
def at_ : T → Int | mk _ a .. => a
def name : T → List UInt8 | mk _ _ n .. => n
def re : T → Option R | mk _ _ _ r .. => r
def text : T → List UInt8 | mk _ _ _ _ t _ _ => t
def back : T → List UInt8 | mk _ _ _ _ _ b _ => b
def kids : T → List T | mk _ _ _ _ _ _ k => k
end T
mutual
def tsize : T → Nat
  | .mk _ _ _ _ _ _ ks => 1 + tsizes ks
def tsizes : List T → Nat
  | [] => 0
  | t :: ts => tsize t + tsizes ts
end
mutual
def weight : T → Nat
  | .mk _ _ _ _ tx bk ks => 1 + tx.length + bk.length + weights ks
def weights : List T → Nat
  | [] => 0
  | t :: ts => weight t + weights ts
end
def sameO : Option R → Option R → Bool
  | none, none => true
  | some a, some b => same a b
  | _, _ => false
mutual
def tsame : T → T → Bool
  | .mk o _ n r tx bk ks, t => o == t.op && n == t.name && sameO r t.re && tx == t.text && bk == t.back && tsames ks t.kids
def tsames : List T → List T → Bool
  | [], [] => true
  | t :: ts, u :: us => tsame t u && tsames ts us
  | _, _ => false
end
/-- a term's sort: 0 none, 1 of an expression, 2 of a lens, 3 of a canonizer -/
def sortOf : T → Nat
  | .mk op _ _ _ _ _ ks =>
    if op = 1 then 1 else if op = 16 ∨ op = 17 then 3
    else if op = 7 ∨ op = 8 ∨ op = 9 then (match ks with | [] => 0 | k :: _ => let s := sortOf k; if s = 1 then 0 else s)
    else if 2 ≤ op ∧ op ≤ 15 then 2 else 0
/-- has a term as many parts as it must, and its expression? -/
def shapedOf (op : Nat) (re : Bool) (n : Nat) : Bool :=
  if op = 1 ∨ op = 2 ∨ op = 3 ∨ op = 4 ∨ op = 5 ∨ op = 16 ∨ op = 17 then re && n == 0
  else if op = 6 then n == 0
  else if op = 7 ∨ op = 8 ∨ op = 11 ∨ op = 10 ∨ op = 14 ∨ op = 15 then n == 2
  else if op = 9 ∨ op = 12 ∨ op = 13 then n == 1
  else false
def shaped (t : T) : Bool := shapedOf t.op t.re.isSome t.kids.length

structure Fault where
  e : Nat := 0
  op : Nat := 0
  at_ : Int := 0
  view : Bool := false
  text : List UInt8 := []
  i : Int := 0
  j : Int := 0
deriving DecidableEq
/-- a Checker: what is left of its budget, its fault -/
structure Ck where
  left : Nat
  fault : Fault := {}
deriving DecidableEq
def Ck.ok (c : Ck) : Bool := c.fault.e == 0
def Ck.fail (c : Ck) (e : Nat) (t : Option T) (view : Bool) (text : List UInt8) : Ck :=
  if c.ok then { c with fault := { e := e, op := (t.map T.op).getD 0, at_ := (t.map T.at_).getD 0, view := view, text := text } } else c
/-- a layer's answer: none: its budget was too small -/
def Ck.told (c : Ck) (fault : Nat) (t : T) (view : Bool) (r : Nat × Option (Option (List UInt8))) : Ck × Bool :=
  match r with
  | (l, none) => ({ left := l, fault := if c.ok then { e := 5 } else c.fault }, false)
  | (l, some none) => ({ c with left := l }, true)
  | (l, some (some w)) => (({ c with left := l } : Ck).fail fault (some t) view w, false)
def Ck.apart (c : Ck) (t : T) (view : Bool) (x y : R) : Ck × Bool := if c.ok then c.told 22 t view (shared x y c.left) else (c, false)
def Ck.alike (c : Ck) (t : T) (view : Bool) (x y : R) : Ck × Bool := if c.ok then c.told 24 t view (unlike x y c.left) else (c, false)
def Ck.alone (c : Ck) (t : T) (x : R) (text : List UInt8) : Ck × Bool := if c.ok then c.told 25 t false (outside x (word text) c.left) else (c, false)
def Ck.within (c : Ck) (t : T) (text : List UInt8) (x : R) : Ck × Bool :=
  if c.ok then (if matchR text x then (c, true) else (c.fail 23 (some t) false text, false)) else (c, false)
def Ck.two (c : Ck) (fault : Nat) (t : T) (view : Bool) (r : Nat × Option (Option Two)) : Ck × Bool :=
  match r with
  | (l, none) => ({ left := l, fault := if c.ok then { e := 5 } else c.fault }, false)
  | (l, some none) => ({ c with left := l }, true)
  | (l, some (some w)) => let d := ({ c with left := l } : Ck).fail fault (some t) view w.text
    ({ d with fault := { d.fault with i := w.i, j := w.j } }, false)
def Ck.splits (c : Ck) (t : T) (view : Bool) (x y : R) : Ck × Bool := if c.ok then c.two 20 t view (ambigCat x y c.left) else (c, false)
def Ck.iterates (c : Ck) (t : T) (view : Bool) (x : R) : Ck × Bool := if c.ok then c.two 21 t view (ambigIter x c.left) else (c, false)
def Ck.side (c : Ck) (r : R) : Ck × Option Side :=
  if c.ok then (match Pv.side r c.left with
    | (l, none) => ({ left := l, fault := { e := 5 } }, none)
    | (l, some s) => ({ c with left := l }, some s))
  else (c, none)
/-- one question, then another one -/
def Ck.both (a : Ck × Bool) (f : Ck → Ck × Bool) : Ck × Bool := if a.2 then f a.1 else a

/-- a canonizer -/
inductive C where
  | mk (term : T) (whole core : R) (kids : List C) (ws cs : Side)
namespace C
def term : C → T | mk t .. => t
def whole : C → R | mk _ w .. => w
def core : C → R | mk _ _ c .. => c
def kids : C → List C | mk _ _ _ k _ _ => k
def ws : C → Side | mk _ _ _ _ s _ => s
def cs : C → Side | mk _ _ _ _ _ s => s
end C
def nth (l : List C) (i : Nat) : R × R := match l[i]? with | some c => (c.whole, c.core) | none => (nothing, nothing)
/-- the types of a canonizer, and its conditions -/
def ctypes (t : T) (kids : List C) (c : Ck) : (Ck × Bool) × R × R :=
  let r := t.re.getD nothing
  if t.op = 16 then ((c, true), r, r)
  else if t.op = 17 then (c.within t t.text r, r, word t.text)
  else
    let k := nth kids 0
    if t.op = 9 then (Ck.both (c.iterates t false k.1) (·.iterates t true k.2), many k.1, many k.2)
    else
      let l := nth kids 1
      if t.op = 7 then (c.apart t false k.1 l.1, any [k.1, l.1], any [k.2, l.2])
      else (Ck.both (c.splits t false k.1 l.1) (·.splits t true k.2 l.2), cat [k.1, l.1], cat [k.2, l.2])
def isCanonOp (op : Nat) : Bool := op == 16 || op == 17 || op == 7 || op == 8 || op == 9
/-- what is made of a canonizer whose parts are made -/
def canonEnd (t : T) (kids : List C) (c : Ck) : Ck × Option C :=
  match ctypes t kids c with
  | ((c, false), _, _) => (c, none)
  | ((c, true), w, k) =>
    let a := c.side w
    let b := a.1.side k
    match a.2, b.2 with
    | some ws, some cs => (b.1, some (.mk t w k kids ws cs))
    | _, _ => (b.1, none)
mutual
def canonOf : T → Ck → Ck × Option C
  | .mk op a n r tx bk ks, c =>
    if !(shapedOf op r.isSome ks.length) || !(isCanonOp op) then (c.fail 8 (some (.mk op a n r tx bk ks)) false [], none)
    else match canonsOf ks c with
      | (c, none) => (c, none)
      | (c, some kids) => canonEnd (.mk op a n r tx bk ks) kids c
def canonsOf : List T → Ck → Ck × Option (List C)
  | [], c => (c, some [])
  | t :: ts, c => match canonOf t c with
    | (c, none) => (c, none)
    | (c, some k) => match canonsOf ts c with
      | (c, none) => (c, none)
      | (c, some l) => (c, some (k :: l))
end
/-- a term's canonizer, or what is wrong with it -/
def canonMake (t : T) (left : Nat) : Ck × Option C := canonOf t { left := left }
def faultNil (left : Nat) : Ck := ({ left := left } : Ck).fail 8 none false []

/-! ### What a canonizer makes -/
structure Run where
  fuel : Fuel
  e : Nat := 0
deriving DecidableEq
def C.side (k : C) (core : Bool) : Side := if core then k.cs else k.ws
def Run.burn (r : Run) (n : Nat) : Run × Nat := let b := r.fuel.burn n; ({ r with fuel := b.1 }, b.2)
def Run.failed (r : Run) (e : Nat) : Run × Bool := let r' : Run := if r.e = 0 then { r with e := e } else r; (r', r'.e != 0)
def Side.accepts (S : Side) (t : List UInt8) : Bool := S.fore.accepts t
def leafOf (k : C) (s : List UInt8) (r : Run) : Run × List UInt8 :=
  let out := if k.term.op = 17 then k.term.text else s
  let b := r.burn (s.length + out.length + 1)
  let f := b.1.failed b.2
  (f.1, if f.2 then [] else out)
def cutAt (t : List UInt8) : Nat → List Nat → List (List UInt8)
  | _, [] => []
  | from_, p :: ps => (t.drop from_).take (p - from_) :: cutAt t p ps
end Pv
