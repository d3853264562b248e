/- Plain laws of parts and states: what build makes is whole. -/
import Derived.Test.YtbimpenhmefpeaaGreatDoorS01
set_option linter.all false
namespace Pv
/-! ### Sets -/
theorem S4.word_map2 (F : BitVec 64 → BitVec 64 → BitVec 64) (s t : S4) (k : Nat) : (S4.map2 F s t).word k = F (s.word k) (t.word k) := by
  unfold S4.map2 S4.word; split; rfl; split; rfl; split; rfl; rfl
theorem S4.has_and (s t : S4) (b : Nat) : (s.and t).has b = (s.has b && t.has b) := by
  unfold S4.has S4.and; rw [S4.word_map2, BitVec.getLsbD_and]
theorem S4.has_or (s t : S4) (b : Nat) : (s.or t).has b = (s.has b || t.has b) := by
  unfold S4.has S4.or; rw [S4.word_map2, BitVec.getLsbD_or]
theorem S4.has_minus (s t : S4) (b : Nat) : (s.minus t).has b = (s.has b && !t.has b) := by
  unfold S4.has S4.minus; rw [S4.word_map2]; unfold nand
  rw [BitVec.getLsbD_and, BitVec.getLsbD_not, decide_eq_true (Nat.mod_lt _ (by omega : 64 > 0)), Bool.true_and]
theorem S4.has_all (b : Nat) : S4.all.has b = true := by
  unfold S4.has S4.all S4.not
  rw [S4.word_map2]; unfold inv
  rw [BitVec.getLsbD_not, decide_eq_true (Nat.mod_lt _ (by omega : 64 > 0))]
  have : S4.zero.word (b / 64) = 0 := by unfold S4.zero S4.word; split; rfl; split; rfl; split; rfl; rfl
  rw [this]; simp
theorem S4.has_zero (b : Nat) : S4.zero.has b = false := by
  unfold S4.has
  have : S4.zero.word (b / 64) = 0 := by unfold S4.zero S4.word; split; rfl; split; rfl; split; rfl; rfl
  rw [this]; simp
theorem S4.not_empty {s : S4} {b : Nat} (h : s.has b = true) : s.isEmpty = false := by
  cases hs : s.isEmpty with
  | false => rfl
  | true =>
    have : s = S4.zero := by simpa [S4.isEmpty] using hs
    rw [this, S4.has_zero] at h; cases h

/-! ### Parts -/
theorem refineStep_cover {parts : List S4} {s : S4} {b : Nat} (h : ∃ p ∈ parts, p.has b = true) : ∃ p ∈ refineStep parts s, p.has b = true := by
  obtain ⟨p, hp, hb⟩ := h
  by_cases hs : s.has b = true
  · have h1 : (p.and s).has b = true := by rw [S4.has_and, hb, hs]; rfl
    exact ⟨p.and s, List.mem_flatMap.2 ⟨p, hp, by simp [S4.not_empty h1]⟩, h1⟩
  · have h1 : (p.minus s).has b = true := by rw [S4.has_minus, hb]; simpa using hs
    exact ⟨p.minus s, List.mem_flatMap.2 ⟨p, hp, by simp [S4.not_empty h1]⟩, h1⟩
theorem refineAll_cover (b : Nat) : ∀ (l : List S4) (parts : List S4), (∃ p ∈ parts, p.has b = true) → ∃ p ∈ l.foldl refineStep parts, p.has b = true
  | [], _, h => h
  | s :: l, parts, h => refineAll_cover b l _ (refineStep_cover h)
theorem refineStep_sub {parts : List S4} {s p : S4} (h : p ∈ refineStep parts s) : ∃ p0 ∈ parts, (p = p0.and s ∨ p = p0.minus s) ∧ p.isEmpty = false := by
  obtain ⟨p0, h0, h⟩ := List.mem_flatMap.1 h
  simp only [List.mem_filter, List.mem_cons, List.not_mem_nil, or_false] at h
  exact ⟨p0, h0, h.1, by simpa using h.2⟩
/-- two bytes that a set doesn't tell apart -/
def S4.alike (s : S4) (b c : Nat) : Prop := s.has b = s.has c
theorem refineAll_alike {b c : Nat} : ∀ (l : List S4) (parts : List S4), ∀ p ∈ l.foldl refineStep parts, p.has b = true → p.has c = true → (∀ s ∈ l, s.alike b c) ∧ ∃ p0 ∈ parts, p0.has b = true ∧ p0.has c = true
  | [], _, p, hp, hb, hc => ⟨by simp, p, hp, hb, hc⟩
  | s :: l, parts, p, hp, hb, hc => by
    obtain ⟨h1, p1, hp1, hb1, hc1⟩ := refineAll_alike l _ p hp hb hc
    obtain ⟨p0, hp0, hd, _⟩ := refineStep_sub hp1
    have : s.alike b c ∧ p0.has b = true ∧ p0.has c = true := by
      rcases hd with rfl | rfl
      · rw [S4.has_and, Bool.and_eq_true] at hb1 hc1
        exact ⟨by unfold S4.alike; rw [hb1.2, hc1.2], hb1.1, hc1.1⟩
      · rw [S4.has_minus, Bool.and_eq_true] at hb1 hc1
        have h2 := hb1.2
        have h3 := hc1.2
        simp at h2 h3
        exact ⟨by unfold S4.alike; rw [h2, h3], hb1.1, hc1.1⟩
    refine ⟨fun x hx => ?_, p0, hp0, this.2⟩
    rcases List.mem_cons.1 hx with rfl | hx
    · exact this.1
    · exact h1 x hx
theorem sortedGo_len (parts : List S4) : ∀ (n b : Nat) (out : List S4) (seen : S4), (sortedGo parts n b out seen).length ≤ out.length + n
  | 0, _, _, _ => Nat.le_refl _
  | n + 1, b, out, seen => by
    unfold sortedGo; split
    · have := sortedGo_len parts n (b + 1) out seen; omega
    · split
      · rename_i p _
        have := sortedGo_len parts n (b + 1) (out ++ [p]) (seen.or p)
        simp at this; omega
      · have := sortedGo_len parts n (b + 1) out seen; omega
theorem sortedGo_mem (parts : List S4) : ∀ (n b : Nat) (out : List S4) (seen : S4), ∀ p ∈ sortedGo parts n b out seen, p ∈ out ∨ p ∈ parts
  | 0, _, _, _, p, h => .inl h
  | n + 1, b, out, seen, p, h => by
    unfold sortedGo at h; split at h
    · exact sortedGo_mem parts n _ _ _ p h
    · split at h
      · rename_i q hq
        rcases sortedGo_mem parts n _ _ _ p h with h | h
        · rcases List.mem_append.1 h with h | h
          · exact .inl h
          · rw [List.mem_singleton.1 h]; exact .inr (List.mem_of_find?_eq_some hq)
        · exact .inr h
      · exact sortedGo_mem parts n _ _ _ p h
theorem sortedGo_cover {parts : List S4} (hc : ∀ b, b < 256 → ∃ p ∈ parts, p.has b = true) : ∀ (n b : Nat) (out : List S4) (seen : S4), b + n = 256 →
    (∀ c, seen.has c = true → ∃ p ∈ out, p.has c = true) → (∀ c, c < b → ∃ p ∈ out, p.has c = true) → ∀ c, c < 256 → ∃ p ∈ sortedGo parts n b out seen, p.has c = true
  | 0, b, out, seen, hb, _, h2, c, hcc => h2 c (by omega)
  | n + 1, b, out, seen, hb, h1, h2, c, hcc => by
    unfold sortedGo; split
    · rename_i hs
      refine sortedGo_cover hc n (b + 1) out seen (by omega) h1 (fun c hc' => ?_) c hcc
      by_cases e : c = b
      · subst e; exact h1 c hs
      · exact h2 c (by omega)
    · split
      · rename_i p hp
        refine sortedGo_cover hc n (b + 1) _ _ (by omega) (fun c hs => ?_) (fun c hc' => ?_) c hcc
        · rw [S4.has_or, Bool.or_eq_true] at hs
          rcases hs with hs | hs
          · obtain ⟨q, hq, h⟩ := h1 c hs; exact ⟨q, List.mem_append_left _ hq, h⟩
          · exact ⟨p, by simp, hs⟩
        · by_cases e : c = b
          · subst e; exact ⟨p, by simp, by simpa using List.find?_some hp⟩
          · obtain ⟨q, hq, h⟩ := h2 c (by omega); exact ⟨q, List.mem_append_left _ hq, h⟩
      · rename_i hp
        obtain ⟨q, hq, h⟩ := hc b (by omega)
        have := List.find?_eq_none.1 hp q hq
        simp [h] at this
theorem refine_cover (l : List S4) (c : Nat) (hc : c < 256) : ∃ p ∈ refine l, p.has c = true :=
  sortedGo_cover (fun b _ => refineAll_cover b l [S4.all] ⟨S4.all, by simp, S4.has_all b⟩) 256 0 [] S4.zero rfl (fun c h => by rw [S4.has_zero] at h; cases h) (fun c h => by omega) c hc
theorem refine_len (l : List S4) : (refine l).length ≤ 256 := by
  have := sortedGo_len (l.foldl refineStep [S4.all]) 256 0 [] S4.zero
  simpa [refine, sortedParts] using this
theorem refine_pos (l : List S4) : 0 < (refine l).length := by
  obtain ⟨p, hp, _⟩ := refine_cover l 0 (by omega)
  exact List.length_pos_of_mem hp
theorem refine_alike {l : List S4} {p : S4} (hp : p ∈ refine l) {b c : Nat} (hb : p.has b = true) (hc : p.has c = true) : ∀ s ∈ l, s.alike b c := by
  have h := sortedGo_mem _ _ _ _ _ p hp
  rcases h with h | h
  · cases h
  · exact (refineAll_alike l [S4.all] p h hb hc).1
theorem indexGo (b : Nat) : ∀ (parts : List S4) (n k : Nat), (∃ p ∈ parts, p.has b = true) → ∃ i, ∃ h : i < parts.length, (parts.zipIdx n).foldl (fun k (x : S4 × Nat) => if x.1.has b then x.2 else k) k = n + i ∧ parts[i].has b = true
  | [], n, k, ⟨p, h, _⟩ => by cases h
  | p :: parts, n, k, h => by
    rw [List.zipIdx_cons, List.foldl_cons]
    by_cases hr : ∃ q ∈ parts, q.has b = true
    · obtain ⟨i, hi, h1, h2⟩ := indexGo b parts (n + 1) (if p.has b then n else k) hr
      exact ⟨i + 1, by simpa using hi, by rw [h1]; omega, by simpa using h2⟩
    · obtain ⟨q, hq, hb⟩ := h
      rcases List.mem_cons.1 hq with rfl | hq
      · refine ⟨0, by simp, ?_, by simpa using hb⟩
        rw [if_pos hb]
        have : ∀ (l : List S4) (m k : Nat), (∀ q ∈ l, q.has b = false) → (l.zipIdx m).foldl (fun k (x : S4 × Nat) => if x.1.has b then x.2 else k) k = k := by
          intro l
          induction l with
          | nil => intros; rfl
          | cons a l ih => intro m k hl; rw [List.zipIdx_cons, List.foldl_cons, if_neg (by rw [hl a (by simp)]; simp)]; exact ih _ _ fun q hq => hl q (by simp [hq])
        exact this parts _ _ fun q hq => by
          cases hqb : q.has b with
          | false => rfl
          | true => exact absurd ⟨q, hq, hqb⟩ hr
      · exact absurd ⟨q, hq, hb⟩ hr
/-- a byte is in the part of its index -/
theorem indexOf_spec (l : List S4) (b : Nat) (hb : b < 256) : ∃ h : indexOf (refine l) b < (refine l).length, (refine l)[indexOf (refine l) b].has b = true := by
  obtain ⟨i, hi, h1, h2⟩ := indexGo b (refine l) 0 0 (refine_cover l b hb)
  have := refine_len l
  have e : indexOf (refine l) b = i := by unfold indexOf; rw [h1]; omega
  exact ⟨by omega, by simp only [e]; exact h2⟩
theorem leastFrom_spec (s : S4) : ∀ (n b : Nat), (∃ c, b ≤ c ∧ c < b + n ∧ s.has c = true) → ∃ m, s.leastFrom n b = some m ∧ b ≤ m ∧ m < b + n ∧ s.has m = true ∧ ∀ c, b ≤ c → c < m → s.has c = false
  | 0, b, ⟨c, h1, h2, _⟩ => by omega
  | n + 1, b, ⟨c, h1, h2, h3⟩ => by
    unfold S4.leastFrom
    by_cases hb : s.has b = true
    · rw [if_pos hb]; exact ⟨b, rfl, by omega, by omega, hb, fun c h1 h2 => by omega⟩
    · rw [if_neg hb]
      obtain ⟨m, e1, e2, e3, e4, e5⟩ := leastFrom_spec s n (b + 1) ⟨c, by
        by_cases e : c = b
        · subst e; exact absurd h3 hb
        · omega, by omega, h3⟩
      refine ⟨m, e1, by omega, by omega, e4, fun c h1 h2 => ?_⟩
      by_cases e : c = b
      · subst e; simpa using hb
      · exact e5 c (by omega) h2
theorem least_spec {s : S4} (h : ∃ c, c < 256 ∧ s.has c = true) : ∃ m, s.least = some m ∧ m < 256 ∧ s.has m = true ∧ ∀ c, c < m → s.has c = false := by
  obtain ⟨c, h1, h2⟩ := h
  obtain ⟨m, e1, _, e3, e4, e5⟩ := leastFrom_spec s 256 0 ⟨c, by omega, by omega, h2⟩
  exact ⟨m, e1, by omega, e4, fun c h => e5 c (by omega) h⟩

/-! ### States -/
theorem findKey_spec {k : List UInt8} : ∀ {l : List R} {i q : Nat}, findKey k l i = some q → i ≤ q ∧ ∃ h : q - i < l.length, key l[q - i] = k
  | r :: l, i, q, h => by
    unfold findKey at h; split at h
    · cases h; exact ⟨Nat.le_refl _, by simp, by simpa⟩
    · obtain ⟨h1, h2, h3⟩ := findKey_spec h
      refine ⟨by omega, by simp; omega, ?_⟩
      have e : q - i = (q - (i + 1)) + 1 := by omega
      simp only [e, List.getElem_cons_succ]; exact h3
theorem findKey_none {k : List UInt8} : ∀ {l : List R} {i : Nat}, findKey k l i = none → ∀ x ∈ l, key x ≠ k
  | [], _, _, x, hx => by cases hx
  | r :: l, i, h, x, hx => by
    unfold findKey at h; split at h
    · cases h
    · rcases List.mem_cons.1 hx with rfl | hx
      · assumption
      · exact findKey_none h x hx
theorem findKey_some {k : List UInt8} : ∀ {l : List R} {i : Nat}, (∃ x ∈ l, key x = k) → ∃ q, findKey k l i = some q
  | [], _, ⟨x, hx, _⟩ => by cases hx
  | r :: l, i, ⟨x, hx, hk⟩ => by
    unfold findKey; split
    · exact ⟨_, rfl⟩
    · rcases List.mem_cons.1 hx with rfl | hx
      · contradiction
      · exact findKey_some ⟨x, hx, hk⟩
/-- states as they are found: each by its key once, none too great -/
structure States (all : List R) : Prop where
  size : ∀ x ∈ all, Pv.size x ≤ most
  nodup : (all.map key).Nodup
theorem States.nil : States [] := ⟨by simp, by simp⟩
theorem stateOf_spec {x : R} {all all' : List R} {l l' q : Nat} (h : stateOf x all l = some (all', l', q)) (hS : States all) :
    States all' ∧ (∃ ys, all' = all ++ ys ∧ ∀ y ∈ ys, y = x) ∧ all'.length + l' = all.length + l ∧ ∃ hq : q < all'.length, key all'[q] = key x := by
  unfold stateOf at h
  split at h
  · rename_i q' hf
    cases h
    obtain ⟨_, h2, h3⟩ := findKey_spec hf
    exact ⟨hS, ⟨[], by simp, by simp⟩, rfl, by simpa using h2, by simpa using h3⟩
  · rename_i hf
    split at h
    · cases h
    · split at h
      · cases h
      · cases h
        refine ⟨⟨fun y hy => ?_, ?_⟩, ⟨[x], rfl, by simp⟩, by simp; omega, by simp, by simp⟩
        · rcases List.mem_append.1 hy with hy | hy
          · exact hS.size y hy
          · rw [List.mem_singleton.1 hy]; omega
        · rw [List.map_append, List.nodup_append]
          refine ⟨hS.nodup, by simp, fun a ha b hb => ?_⟩
          obtain ⟨y, hy, rfl⟩ := List.mem_map.1 ha
          simp at hb; subst hb
          exact findKey_none hf y hy
theorem buildRow_spec {x : R} : ∀ {hs : List UInt8} {all all' : List R} {l l' : Nat} {row row' : List Nat}, buildRow x hs all l row = (l', some (all', row')) → States all →
    States all' ∧ (∃ ys, all' = all ++ ys ∧ ∀ y ∈ ys, ∃ h ∈ hs, y = by_ h x) ∧ all'.length + l' = all.length + l ∧
    ∃ ext, row' = row ++ ext ∧ ext.length = hs.length ∧ ∀ i (h1 : i < ext.length) (h2 : i < hs.length), ∃ hq : ext[i] < all'.length, key all'[ext[i]] = key (by_ hs[i] x)
  | [], all, all', l, l', row, row', h, hS => by
    unfold buildRow at h; cases h
    exact ⟨hS, ⟨[], by simp, by simp⟩, rfl, [], by simp, rfl, fun i h _ => by cases h⟩
  | b :: hs, all, all', l, l', row, row', h, hS => by
    unfold buildRow at h
    split at h
    · cases h
    · rename_i all1 l1 q hst
      obtain ⟨s1, ⟨ys1, e1, y1⟩, n1, q1, k1⟩ := stateOf_spec hst hS
      obtain ⟨s2, ⟨ys2, e2, y2⟩, n2, ext, e3, e4, e5⟩ := buildRow_spec h s1
      refine ⟨s2, ⟨ys1 ++ ys2, by rw [e2, e1, List.append_assoc], fun y hy => ?_⟩, by omega, q :: ext, by rw [e3]; simp, by simp [e4], fun i h1 h2 => ?_⟩
      · rcases List.mem_append.1 hy with hy | hy
        · exact ⟨b, by simp, y1 y hy⟩
        · obtain ⟨h, hh, e⟩ := y2 y hy; exact ⟨h, by simp [hh], e⟩
      · cases i with
        | zero =>
          simp only [List.getElem_cons_zero]
          refine ⟨by rw [e2]; simp; omega, ?_⟩
          simp only [e2, List.getElem_append_left q1]; exact k1
        | succ i => simpa using e5 i (by simpa using h1) (by simpa using h2)
theorem buildRow_left {x : R} : ∀ {hs : List UInt8} {all : List R} {l : Nat} {row : List Nat}, (buildRow x hs all l row).1 ≤ l
  | [], _, _, _ => Nat.le_refl _
  | b :: hs, all, l, row => by
    unfold buildRow
    split
    · exact Nat.le_refl _
    · rename_i all1 l1 q hst
      have := buildRow_left (x := x) (hs := hs) (all := all1) (l := l1) (row := row ++ [q])
      have : l1 ≤ l := by
        unfold stateOf at hst
        split at hst
        · cases hst; omega
        · split at hst
          · cases hst
          · split at hst
            · cases hst
            · cases hst; omega
      omega
/-- a state's row -/
def RowOk (heads : List UInt8) (all : List R) (x : R) (row : List Nat) : Prop :=
  row.length = heads.length ∧ ∀ i (h1 : i < row.length) (h2 : i < heads.length), ∃ hq : row[i] < all.length, key all[row[i]] = key (by_ heads[i] x)
theorem RowOk.more {heads : List UInt8} {all : List R} {x : R} {row : List Nat} (h : RowOk heads all x row) (ys : List R) : RowOk heads (all ++ ys) x row :=
  ⟨h.1, fun i h1 h2 => let ⟨hq, hk⟩ := h.2 i h1 h2; ⟨by simp; omega, by rw [List.getElem_append_left hq]; exact hk⟩⟩
/-- behind b, from x on, so many bytes -/
inductive Reach (r : R) : R → Prop where
  | refl : Reach r r
  | step {x : R} (h : UInt8) : Reach r x → Reach r (by_ h x)
structure GoOk (r : R) (heads : List UInt8) (q : Nat) (all : List R) (next : List (List Nat)) : Prop where
  st : States all
  first : ∃ t, all = r :: t
  le : q ≤ all.length
  len : next.length = q
  row : ∀ k (h1 : k < next.length) (h2 : k < all.length), RowOk heads all all[k] next[k]
  reach : ∀ x ∈ all, Reach r x
theorem buildGo_spec {r : R} {heads : List UInt8} : ∀ {f q : Nat} {all all' : List R} {l l' : Nat} {next next' : List (List Nat)}, buildGo heads f q all l next = (l', some (all', next')) → GoOk r heads q all next →
    GoOk r heads all'.length all' next' ∧ all'.length + l' = all.length + l
  | 0, _, _, _, _, _, _, _, h, _ => by cases h
  | f + 1, q, all, all', l, l', next, next', h, hG => by
    unfold buildGo at h
    split at h
    · rename_i hq
      cases h
      have hq' : all.length ≤ q := by simpa using hq
      have := hG.le
      have e : q = all.length := by omega
      subst e
      exact ⟨hG, rfl⟩
    · rename_i x hx
      obtain ⟨hxl, hxe⟩ := List.getElem?_eq_some_iff.1 hx
      split at h
      · cases h
      · rename_i l1 all1 row1 hb
        obtain ⟨s1, ⟨ys, e1, y1⟩, n1, ext, e2, e3, e4⟩ := buildRow_spec hb hG.st
        rw [List.nil_append] at e2
        subst e2
        subst e1
        obtain ⟨t, ht⟩ := hG.first
        have hlen := hG.len
        obtain ⟨h1, h2⟩ := buildGo_spec (r := r) h {
          st := s1
          first := ⟨t ++ ys, by rw [ht]; rfl⟩
          le := by simp; omega
          len := by simp [hlen]
          row := fun k k1 k2 => by
            by_cases e : k = q
            · subst e
              rw [List.getElem_append_left hxl, List.getElem_append_right (by omega), hxe]
              simp only [hlen, Nat.sub_self, List.getElem_cons_zero]
              exact ⟨e3, e4⟩
            · simp at k1
              rw [List.getElem_append_left (by omega), List.getElem_append_left (by omega)]
              exact (hG.row k (by omega) (by omega)).more ys
          reach := fun y hy => by
            rcases List.mem_append.1 hy with hy | hy
            · exact hG.reach y hy
            · obtain ⟨b, _, rfl⟩ := y1 y hy
              exact .step b (hG.reach x (List.mem_of_getElem? hx)) }
        exact ⟨h1, by omega⟩
theorem build_spec {r : R} {l l' : Nat} {D : Dfa} (h : build r l = (l', some D)) : ∃ all, D.parts = refine (allSets r) ∧ D.yes = all.map null ∧ GoOk r D.heads all.length all D.next ∧ all.length + l' = l := by
  unfold build at h
  simp only at h
  split at h
  · cases h
  · rename_i all0 l0 q0 hst
    obtain ⟨s1, ⟨ys, e1, y1⟩, n1, q1, k1⟩ := stateOf_spec hst States.nil
    split at h
    · cases h
    · rename_i l1 all1 next1 hg
      cases h
      have hall : all0 = [r] := by
        unfold stateOf at hst
        simp only [findKey] at hst
        split at hst
        · cases hst
        · split at hst
          · cases hst
          · cases hst; rfl
      subst hall
      obtain ⟨h1, h2⟩ := buildGo_spec (r := r) hg { st := s1, first := ⟨[], rfl⟩, le := Nat.zero_le _, len := rfl, row := (fun k h _ => by cases h), reach := fun x hx => by rw [List.mem_singleton.1 hx]; exact .refl }
      refine ⟨all1, rfl, rfl, h1, ?_⟩
      simp at n1; simp at h2; omega
theorem build_ok {r : R} {l l' : Nat} {D : Dfa} (h : build r l = (l', some D)) : D.Ok ∧ D.yes.length + l' = l := by
  obtain ⟨all, hp, hy, hG, hl⟩ := build_spec h
  have hlen : D.yes.length = all.length := by rw [hy]; simp
  obtain ⟨t, ht⟩ := hG.first
  refine ⟨⟨by rw [hG.len, hlen], by rw [hlen, ht]; simp, fun row hrow => ?_, by rw [hp]; exact refine_pos _, by rw [hp]; exact refine_len _⟩, by omega⟩
  obtain ⟨k, hk, rfl⟩ := List.getElem_of_mem hrow
  have hR := hG.row k hk (by have := hG.len; omega)
  refine ⟨by rw [hR.1]; simp [Dfa.heads], fun to hto => ?_⟩
  obtain ⟨i, hi, rfl⟩ := List.getElem_of_mem hto
  obtain ⟨hq, _⟩ := hR.2 i hi (by rw [← hR.1]; exact hi)
  omega
theorem Dfa.Ok.at_lt {D : Dfa} (h : D.Ok) (b : Nat) : D.at_ b < D.parts.length := by
  have h1 := h.pp
  have h2 := h.p256
  unfold Dfa.at_ indexOf
  have : ∀ (l : List (S4 × Nat)) (k m : Nat), k < m → (∀ x ∈ l, x.2 < m) → l.foldl (fun k x => if x.1.has b then x.2 else k) k < m := by
    intro l
    induction l with
    | nil => intro k m hk _; exact hk
    | cons a l ih =>
      intro k m hk hl
      rw [List.foldl_cons]
      refine ih _ m ?_ fun x hx => hl x (by simp [hx])
      split
      · exact hl a (by simp)
      · exact hk
  have h3 := this D.parts.zipIdx 0 D.parts.length h1 (fun x hx => by have := List.snd_lt_of_mem_zipIdx hx; omega)
  omega
theorem Dfa.Ok.step_lt {D : Dfa} (h : D.Ok) {q : Nat} (hq : q < D.yes.length) (b : Nat) : D.step q b < D.yes.length := by
  have hq' : q < D.next.length := by rw [h.len]; exact hq
  have hr := h.row D.next[q] (List.getElem_mem hq')
  have ha := h.at_lt b
  unfold Dfa.step
  have e1 : D.next.getD q [] = D.next[q] := by rw [List.getD_eq_getElem?_getD, List.getElem?_eq_getElem hq']; rfl
  rw [e1, List.getD_eq_getElem?_getD, List.getElem?_eq_getElem (by rw [hr.1]; exact ha), Option.getD_some]
  exact hr.2 _ (List.getElem_mem _)
theorem Dfa.Ok.run_lt {D : Dfa} (h : D.Ok) : ∀ (s : List UInt8) {q : Nat}, q < D.yes.length → D.run q s < D.yes.length
  | [], _, hq => hq
  | b :: s, _, hq => Dfa.Ok.run_lt h s (h.step_lt hq b.toNat)
end Pv
namespace Pv
/-- kept by what is done with sets -/
structure Closed (P : S4 → Prop) : Prop where
  all : P S4.all
  or : ∀ {s t}, P s → P t → P (s.or t)
  and : ∀ {s t}, P s → P t → P (s.and t)
  minus : ∀ {s t}, P s → P t → P (s.minus t)
def AllP (P : S4 → Prop) (r : R) : Prop := ∀ s ∈ allSets r, P s
def AllPs (P : S4 → Prop) (l : List R) : Prop := ∀ r ∈ l, AllP P r
variable {P : S4 → Prop}
theorem allSetsL_flat : ∀ l : List R, allSetsL l = l.flatMap allSets
  | [] => rfl
  | r :: l => by rw [allSetsL, allSetsL_flat l, List.flatMap_cons]
theorem allP_mk {op : Nat} {s : S4} {ks : List R} : AllP P (.mk op s ks) ↔ if op = 2 then P s else AllPs P ks := by
  unfold AllP
  rw [allSets]
  split
  · simp
  · rw [allSetsL_flat]
    constructor
    · intro h r hr x hx; exact h x (List.mem_flatMap.2 ⟨r, hr, hx⟩)
    · intro h x hx
      obtain ⟨r, hr, hx⟩ := List.mem_flatMap.1 hx
      exact h r hr x hx
theorem allP_set {r : R} (h : AllP P r) (h2 : r.op = 2) : P r.set := by
  cases r with
  | mk op s ks => rw [allP_mk] at h; simp only [R.op] at h2; rw [if_pos h2] at h; exact h
theorem allP_kids {r : R} (h : AllP P r) (h2 : r.op ≠ 2) : AllPs P r.kids := by
  cases r with
  | mk op s ks => rw [allP_mk] at h; simp only [R.op] at h2; rw [if_neg h2] at h; exact h
theorem allPs_cons {r : R} {l : List R} : AllPs P (r :: l) ↔ AllP P r ∧ AllPs P l := by
  unfold AllPs; simp
theorem allPs_append {l m : List R} (h : AllPs P l) (k : AllPs P m) : AllPs P (l ++ m) := fun r hr => by
  rcases List.mem_append.1 hr with hr | hr
  · exact h r hr
  · exact k r hr
theorem allPs_sub {l m : List R} (h : AllPs P l) (k : ∀ r ∈ m, r ∈ l) : AllPs P m := fun r hr => h r (k r hr)
theorem allPs_nil : AllPs P [] := fun _ h => by cases h
theorem allP_nothing : AllP P nothing := by unfold nothing; rw [allP_mk]; simp [AllPs]
theorem allP_empty : AllP P empty := by unfold empty; rw [allP_mk]; simp [AllPs]
theorem allP_one {s : S4} (h : P s) : AllP P (one s) := by
  unfold one; split
  · exact allP_nothing
  · rw [allP_mk, if_pos rfl]; exact h
theorem allPs_flat {op : Nat} (h2 : op ≠ 2) {l : List R} (h : AllPs P l) : AllPs P (flat op l) := by
  intro r hr
  unfold flat at hr
  obtain ⟨x, hx, hr⟩ := List.mem_flatMap.1 hr
  split at hr
  · rename_i e
    exact allP_kids (h x hx) (by omega) r hr
  · rw [List.mem_singleton.1 hr]; exact h x hx
theorem allP_thenOf {l : List R} (h : AllPs P l) : AllP P (thenOf l) := by
  unfold thenOf; split
  · exact allP_nothing
  · split
    · exact allP_empty
    · exact h _ (by simp)
    · rw [allP_mk]; simpa using h
theorem allP_cat {l : List R} (h : AllPs P l) : AllP P (cat l) := by
  unfold cat
  exact allP_thenOf (allPs_sub (allPs_flat (by omega) h) fun r hr => (List.mem_filter.1 hr).1)
theorem allP_many {r : R} (h : AllP P r) : AllP P (many r) := by
  unfold many; split
  · exact allP_empty
  · split
    · exact h
    · rw [allP_mk]; simp; exact allPs_cons.2 ⟨h, allPs_nil⟩
theorem allP_but (hC : Closed P) {a b : R} (ha : AllP P a) (hb : AllP P b) : AllP P (but a b) := by
  unfold but; split
  · exact allP_nothing
  · split
    · exact ha
    · split
      · rename_i e; exact allP_one (hC.minus (allP_set ha e.1) (allP_set hb e.2))
      · rw [allP_mk]; simp; exact allPs_cons.2 ⟨ha, allPs_cons.2 ⟨hb, allPs_nil⟩⟩
theorem mem_ins {r x : R} : ∀ {l : List R}, x ∈ ins r l → x = r ∨ x ∈ l
  | [], h => by simp [ins] at h; exact .inl h
  | y :: l, h => by
    unfold ins at h; split at h
    · rcases List.mem_cons.1 h with h | h
      · exact .inr (by simp [h])
      · rcases mem_ins h with h | h
        · exact .inl h
        · exact .inr (by simp [h])
    · rcases List.mem_cons.1 h with h | h
      · exact .inl h
      · exact .inr h
theorem mem_isort {x : R} : ∀ {l : List R}, x ∈ isort l → x ∈ l
  | [], h => h
  | r :: l, h => by
    unfold isort at h
    rcases mem_ins h with h | h
    · simp [h]
    · simp [mem_isort h]
theorem mem_compact {x : R} : ∀ {l : List R}, x ∈ compact l → x ∈ l
  | [], h => h
  | r :: l, h => by
    unfold compact at h
    split at h
    · rename_i e
      simp at h; simp [h]
    · rename_i y m e
      split at h
      · rcases List.mem_cons.1 h with h | h
        · simp [h]
        · exact List.mem_cons_of_mem _ (mem_compact (by rw [e]; simp [h]))
      · rcases List.mem_cons.1 h with h | h
        · simp [h]
        · exact List.mem_cons_of_mem _ (mem_compact (by rw [e]; exact h))
theorem mem_unique {x : R} {l : List R} (h : x ∈ unique l) : x ∈ l := mem_isort (mem_compact h)
theorem allPs_joinGo {f : S4 → S4 → S4} (hf : ∀ {s t}, P s → P t → P (f s t)) : ∀ {l out : List R} {o : Option R}, AllPs P l → AllPs P out → (∀ x, o = some x → AllP P x ∧ x.op = 2) → AllPs P (joinGo f l out o)
  | [], out, o, _, ho, hx => by
    unfold joinGo
    refine allPs_sub (allPs_append ho (m := o.toList) fun r hr => ?_) fun r hr => mem_unique hr
    cases o with
    | none => cases hr
    | some x => simp at hr; subst hr; exact (hx _ rfl).1
  | r :: l, out, o, hl, ho, hx => by
    obtain ⟨hr, hl⟩ := allPs_cons.1 hl
    unfold joinGo; split
    · rename_i h2
      cases o with
      | none => exact allPs_joinGo hf hl ho fun x e => by cases e; exact ⟨hr, h2⟩
      | some x =>
        have hp := hf (allP_set (hx x rfl).1 (hx x rfl).2) (allP_set hr h2)
        simp only
        split
        · exact allPs_append ho (allPs_cons.2 ⟨allP_one hp, allPs_nil⟩)
        · rename_i e0
          refine allPs_joinGo hf hl ho fun y e => ?_
          cases e
          refine ⟨allP_one hp, ?_⟩
          revert e0; unfold one; split
          · intro e0; exact absurd rfl e0
          · intro _; rfl
    · exact allPs_joinGo hf hl (allPs_append ho (allPs_cons.2 ⟨hr, allPs_nil⟩)) hx
theorem allP_any (hC : Closed P) {l : List R} (h : AllPs P l) : AllP P (any l) := by
  unfold any
  have h1 : AllPs P ((join 4 l S4.or).filter fun r => !(r.op == 0)) :=
    allPs_sub (allPs_joinGo (fun a b => hC.or a b) (allPs_flat (by omega) h) allPs_nil (fun _ e => by cases e)) fun r hr => (List.mem_filter.1 hr).1
  unfold anyOf; split
  · exact allP_nothing
  · rename_i e; exact h1 _ (by rw [e]; simp)
  · rw [allP_mk]; simpa using h1
theorem allP_both (hC : Closed P) {l : List R} (h : AllPs P l) : AllP P (both l) := by
  unfold both
  have h1 : AllPs P (join 6 l S4.and) := allPs_joinGo (fun a b => hC.and a b) (allPs_flat (by omega) h) allPs_nil (fun _ e => by cases e)
  unfold bothOf; split
  · exact allP_nothing
  · split
    · exact allP_many (allP_one hC.all)
    · rename_i e; exact h1 _ (by rw [e]; simp)
    · rw [allP_mk]; simpa using h1
theorem allP_with (hC : Closed P) {r : R} {ks : List R} (hr : AllP P r) (h : AllPs P ks) : AllP P (withKids r ks) := by
  unfold withKids
  split
  · exact allP_cat h
  split
  · exact allP_any hC h
  split
  · exact allP_both hC h
  split
  · split
    · exact allP_many (h _ (by simp))
    · exact hr
  split
  · split
    · exact allP_but hC (h _ (by simp)) (h _ (by simp))
    · exact hr
  · exact hr
theorem allPs_list2 {a b : R} (ha : AllP P a) (hb : AllP P b) : AllPs P [a, b] := allPs_cons.2 ⟨ha, allPs_cons.2 ⟨hb, allPs_nil⟩⟩
theorem allP_byF (hC : Closed P) (c : UInt8) : ∀ (n : Nat) {r : R}, AllP P r → AllP P (byF n c r)
  | 0, _, _ => allP_nothing
  | n + 1, r, h => by
    unfold byF
    split
    · split
      · exact allP_empty
      · exact allP_nothing
    rename_i e2
    have hk := allP_kids h e2
    split
    · split
      · exact allP_nothing
      · rename_i k rest e
        rw [e] at hk
        obtain ⟨h1, h2⟩ := allPs_cons.1 hk
        have hc := allP_cat h2
        have h3 : AllP P (cat [byF n c k, cat rest]) := allP_cat (allPs_list2 (allP_byF hC c n h1) hc)
        split
        · exact allP_any hC (allPs_list2 h3 (allP_byF hC c n hc))
        · exact h3
    split
    · split
      · exact allP_nothing
      · rename_i k rest e
        rw [e] at hk
        exact allP_cat (allPs_list2 (allP_byF hC c n (allPs_cons.1 hk).1) h)
    split
    · exact allP_with hC h fun x hx => by
        obtain ⟨k, hk', rfl⟩ := List.mem_map.1 hx
        exact allP_byF hC c n (hk k hk')
    · exact allP_nothing
theorem allP_by (hC : Closed P) (c : UInt8) {r : R} (h : AllP P r) : AllP P (by_ c r) := allP_byF hC c _ h
theorem allP_reach (hC : Closed P) {r x : R} (h : AllP P r) (hx : Reach r x) : AllP P x := by
  induction hx with
  | refl => exact h
  | step c _ ih => exact allP_by hC c ih
theorem closed_alike (b c : Nat) : Closed fun s => s.alike b c where
  all := by unfold S4.alike; rw [S4.has_all, S4.has_all]
  or := fun h k => by unfold S4.alike at *; rw [S4.has_or, S4.has_or, h, k]
  and := fun h k => by unfold S4.alike at *; rw [S4.has_and, S4.has_and, h, k]
  minus := fun h k => by unfold S4.alike at *; rw [S4.has_minus, S4.has_minus, h, k]
/-- of bytes that no set tells apart derivatives are the same -/
theorem byF_alike {b c : UInt8} : ∀ (n : Nat) {r : R}, AllP (fun s => s.alike b.toNat c.toNat) r → byF n b r = byF n c r
  | 0, _, _ => rfl
  | n + 1, r, h => by
    have hC := closed_alike b.toNat c.toNat
    unfold byF
    split
    · rename_i e
      rw [show r.set.has b.toNat = r.set.has c.toNat from allP_set h e]
    rename_i e2
    have hk := allP_kids h e2
    split
    · split
      · rfl
      · rename_i k rest e
        rw [e] at hk
        obtain ⟨h1, h2⟩ := allPs_cons.1 hk
        rw [byF_alike n h1, byF_alike n (allP_cat h2)]
    split
    · split
      · rfl
      · rename_i k rest e
        rw [e] at hk
        rw [byF_alike n (allPs_cons.1 hk).1]
    split
    · congr 1
      exact List.map_congr_left fun k hk' => byF_alike n (hk k hk')
    · rfl
theorem by_alike {b c : UInt8} {r : R} (h : AllP (fun s => s.alike b.toNat c.toNat) r) : by_ b r = by_ c r := byF_alike _ h
/-- a byte leads where its part's head does -/
theorem by_head {r x : R} (hx : Reach r x) (b : UInt8) : ∃ h : indexOf (refine (allSets r)) b.toNat < (refine (allSets r)).length,
    by_ b x = by_ (Dfa.head ((refine (allSets r))[indexOf (refine (allSets r)) b.toNat])) x := by
  obtain ⟨h1, h2⟩ := indexOf_spec (allSets r) b.toNat b.toNat_lt
  refine ⟨h1, by_alike (allP_reach (closed_alike _ _) ?_ hx)⟩
  obtain ⟨m, e1, e2, e3, _⟩ := least_spec ⟨b.toNat, b.toNat_lt, h2⟩
  have : (Dfa.head (refine (allSets r))[indexOf (refine (allSets r)) b.toNat]).toNat = m := by
    unfold Dfa.head; rw [e1]; simp; omega
  rw [this]
  exact fun s hs => refine_alike (List.getElem_mem h1) h2 e3 s hs
end Pv
namespace Pv
def S4.cnt (s : S4) : Nat := (List.range 256).countP fun b => s.has b
theorem countP_split (p q : Nat → Bool) : ∀ l : List Nat, l.countP (fun b => p b && q b) + l.countP (fun b => p b && !q b) = l.countP p
  | [] => rfl
  | a :: l => by
    have := countP_split p q l
    simp only [List.countP_cons]
    cases p a <;> cases q a <;> simp <;> omega
theorem cnt_split (p s : S4) : (p.and s).cnt + (p.minus s).cnt = p.cnt := by
  unfold S4.cnt
  rw [← countP_split (fun b => p.has b) (fun b => s.has b)]
  congr 1
  · exact List.countP_congr fun b _ => by rw [S4.has_and]
  · exact List.countP_congr fun b _ => by rw [S4.has_minus]
theorem S4.ext_has {s t : S4} (h : ∀ b, b < 256 → s.has b = t.has b) : s = t := by
  have hw : ∀ k, k < 4 → s.word k = t.word k := fun k hk => by
    ext i hi
    have := h (64 * k + i) (by omega)
    unfold S4.has at this
    rw [show (64 * k + i) / 64 = k by omega, show (64 * k + i) % 64 = i by omega] at this
    simpa [BitVec.getLsbD_eq_getElem hi] using this
  have h0 := hw 0 (by omega)
  have h1 := hw 1 (by omega)
  have h2 := hw 2 (by omega)
  have h3 := hw 3 (by omega)
  cases s; cases t
  simp [S4.word] at h0 h1 h2 h3
  subst h0; subst h1; subst h2; subst h3; rfl
theorem cnt_pos {s : S4} (h : s.isEmpty = false) : 1 ≤ s.cnt := by
  have : ∃ b, b < 256 ∧ s.has b = true := by
    refine Classical.byContradiction fun hn => ?_
    have : s = S4.zero := S4.ext_has fun b hb => by
      rw [S4.has_zero]
      cases hs : s.has b with
      | false => rfl
      | true => exact absurd ⟨b, hb, hs⟩ hn
    rw [S4.isEmpty, this] at h
    simp at h
  obtain ⟨b, hb, hs⟩ := this
  unfold S4.cnt
  exact List.countP_pos_iff.2 ⟨b, List.mem_range.2 hb, hs⟩
theorem cnt_zero {s : S4} (h : s.isEmpty = true) : s.cnt = 0 := by
  have : s = S4.zero := by simpa [S4.isEmpty] using h
  subst this
  unfold S4.cnt
  rw [List.countP_eq_zero]
  intro b _
  rw [S4.has_zero]; simp
def cnts (l : List S4) : Nat := (l.map S4.cnt).sum
theorem cnts_append (l m : List S4) : cnts (l ++ m) = cnts l + cnts m := by simp [cnts]
theorem cnts_filter : ∀ l : List S4, cnts (l.filter fun q => !q.isEmpty) = cnts l
  | [] => rfl
  | q :: l => by
    rw [List.filter_cons]
    cases h : q.isEmpty
    · simp only [Bool.not_false, if_true]
      show q.cnt + cnts _ = q.cnt + cnts l
      rw [cnts_filter l]
    · simp only [Bool.not_true, Bool.false_eq_true, if_false]
      show cnts _ = q.cnt + cnts l
      rw [cnts_filter l, cnt_zero h]; omega
theorem cnts_step (s : S4) : ∀ parts : List S4, cnts (refineStep parts s) = cnts parts
  | [] => rfl
  | p :: parts => by
    unfold refineStep
    rw [List.flatMap_cons, cnts_append, cnts_filter]
    have := cnts_step s parts
    unfold refineStep at this
    rw [this]
    have := cnt_split p s
    simp [cnts]; omega
def NoE (l : List S4) : Prop := ∀ p ∈ l, p.isEmpty = false
theorem noE_step {parts : List S4} {s : S4} : NoE (refineStep parts s) := fun p hp => let ⟨_, _, _, h⟩ := refineStep_sub hp; h
theorem len_cnts : ∀ {l : List S4}, NoE l → l.length ≤ cnts l
  | [], _ => Nat.zero_le _
  | p :: l, h => by
    have h1 := cnt_pos (h p (by simp))
    have h2 := len_cnts (l := l) fun q hq => h q (by simp [hq])
    show l.length + 1 ≤ p.cnt + cnts l
    omega
theorem cnts_fold : ∀ (l parts : List S4), cnts (l.foldl refineStep parts) = cnts parts
  | [], _ => rfl
  | s :: l, parts => by rw [List.foldl_cons, cnts_fold l, cnts_step]
theorem cnt_all : S4.all.cnt = 256 := by decide +kernel
theorem noE_fold : ∀ (l parts : List S4), NoE parts → NoE (l.foldl refineStep parts)
  | [], _, h => h
  | s :: l, parts, _ => noE_fold l _ noE_step
/-- so many parts at most, at whatever place -/
theorem parts_len (l : List S4) : (l.foldl refineStep [S4.all]).length ≤ 256 := by
  have h1 := len_cnts (noE_fold l [S4.all] fun p hp => by rw [List.mem_singleton.1 hp]; decide +kernel)
  rw [cnts_fold] at h1
  have : cnts [S4.all] = 256 := by simp [cnts, cnt_all]
  omega
theorem step_take_len (parts : List S4) (s : S4) (j : Nat) : (refineStep (parts.take j) s).length ≤ (refineStep parts s).length := by
  unfold refineStep
  conv => rhs; rw [← List.take_append_drop j parts, List.flatMap_append, List.length_append]
  omega
end Pv
namespace Pv
def WFl (l : List R) : Prop := ∀ r ∈ l, WF r
theorem wf_mk {op : Nat} {s : S4} {ks : List R} : WF (.mk op s ks) ↔ op ≤ 7 ∧ (op ≠ 2 → s = S4.zero) ∧ (op = 3 ∨ op = 5 → ks ≠ []) ∧ WFl ks := by
  unfold WF; rw [WFs_iff]; rfl
theorem wf_kids {r : R} (h : WF r) : WFl r.kids := by
  cases r with
  | mk op s ks => rw [wf_mk] at h; exact h.2.2.2
theorem wfl_cons {r : R} {l : List R} : WFl (r :: l) ↔ WF r ∧ WFl l := by unfold WFl; simp
theorem wfl_nil : WFl [] := fun _ h => by cases h
theorem wfl_append {l m : List R} (h : WFl l) (k : WFl m) : WFl (l ++ m) := fun r hr => by
  rcases List.mem_append.1 hr with hr | hr
  · exact h r hr
  · exact k r hr
theorem wfl_sub {l m : List R} (h : WFl l) (k : ∀ r ∈ m, r ∈ l) : WFl m := fun r hr => h r (k r hr)
theorem wfl2 {a b : R} (ha : WF a) (hb : WF b) : WFl [a, b] := wfl_cons.2 ⟨ha, wfl_cons.2 ⟨hb, wfl_nil⟩⟩
theorem wf_nothing : WF nothing := by unfold nothing; rw [wf_mk]; exact ⟨by omega, fun _ => rfl, by omega, wfl_nil⟩
theorem wf_empty : WF empty := by unfold empty; rw [wf_mk]; exact ⟨by omega, fun _ => rfl, by omega, wfl_nil⟩
theorem wf_one (s : S4) : WF (one s) := by
  unfold one; split
  · exact wf_nothing
  · rw [wf_mk]; exact ⟨by omega, by omega, by omega, wfl_nil⟩
theorem wfl_flat {op : Nat} {l : List R} (h : WFl l) : WFl (flat op l) := by
  intro r hr
  unfold flat at hr
  obtain ⟨x, hx, hr⟩ := List.mem_flatMap.1 hr
  split at hr
  · exact wf_kids (h x hx) r hr
  · rw [List.mem_singleton.1 hr]; exact h x hx
theorem wf_thenOf {l : List R} (h : WFl l) : WF (thenOf l) := by
  unfold thenOf; split
  · exact wf_nothing
  · split
    · exact wf_empty
    · exact h _ (by simp)
    · rename_i h0 _
      rw [wf_mk]; exact ⟨by omega, fun _ => rfl, fun _ e => h0 e, h⟩
theorem wf_cat {l : List R} (h : WFl l) : WF (cat l) := by
  unfold cat
  exact wf_thenOf (wfl_sub (wfl_flat h) fun r hr => (List.mem_filter.1 hr).1)
theorem wf_many {r : R} (h : WF r) : WF (many r) := by
  unfold many; split
  · exact wf_empty
  · split
    · exact h
    · rw [wf_mk]; exact ⟨by omega, fun _ => rfl, fun _ => by simp, wfl_cons.2 ⟨h, wfl_nil⟩⟩
theorem wf_but {a b : R} (ha : WF a) (hb : WF b) : WF (but a b) := by
  unfold but; split
  · exact wf_nothing
  · split
    · exact ha
    · split
      · exact wf_one _
      · rw [wf_mk]; exact ⟨by omega, fun _ => rfl, by omega, wfl2 ha hb⟩
theorem wfl_joinGo {f : S4 → S4 → S4} : ∀ {l out : List R} {o : Option R}, WFl l → WFl out → (∀ x, o = some x → WF x) → WFl (joinGo f l out o)
  | [], out, o, _, ho, hx => by
    unfold joinGo
    refine wfl_sub (wfl_append ho (m := o.toList) fun r hr => ?_) fun r hr => mem_unique hr
    cases o with
    | none => cases hr
    | some x => simp at hr; subst hr; exact hx _ rfl
  | r :: l, out, o, hl, ho, hx => by
    obtain ⟨hr, hl⟩ := wfl_cons.1 hl
    unfold joinGo; split
    · cases o with
      | none => exact wfl_joinGo hl ho fun x e => by cases e; exact hr
      | some x =>
        simp only
        split
        · exact wfl_append ho (wfl_cons.2 ⟨wf_one _, wfl_nil⟩)
        · exact wfl_joinGo hl ho fun y e => by cases e; exact wf_one _
    · exact wfl_joinGo hl (wfl_append ho (wfl_cons.2 ⟨hr, wfl_nil⟩)) hx
theorem wf_any {l : List R} (h : WFl l) : WF (any l) := by
  unfold any
  have h1 : WFl ((join 4 l S4.or).filter fun r => !(r.op == 0)) :=
    wfl_sub (wfl_joinGo (wfl_flat h) wfl_nil (fun _ e => by cases e)) fun r hr => (List.mem_filter.1 hr).1
  unfold anyOf; split
  · exact wf_nothing
  · rename_i e; exact h1 _ (by rw [e]; simp)
  · rw [wf_mk]; exact ⟨by omega, fun _ => rfl, by omega, h1⟩
theorem wf_both {l : List R} (h : WFl l) : WF (both l) := by
  unfold both
  have h1 : WFl (join 6 l S4.and) := wfl_joinGo (wfl_flat h) wfl_nil (fun _ e => by cases e)
  unfold bothOf; split
  · exact wf_nothing
  · split
    · exact wf_many (wf_one _)
    · rename_i e; exact h1 _ (by rw [e]; simp)
    · rw [wf_mk]; exact ⟨by omega, fun _ => rfl, by omega, h1⟩
theorem wf_with {r : R} {ks : List R} (hr : WF r) (h : WFl ks) : WF (withKids r ks) := by
  unfold withKids
  split
  · exact wf_cat h
  split
  · exact wf_any h
  split
  · exact wf_both h
  split
  · split
    · exact wf_many (h _ (by simp))
    · exact hr
  split
  · split
    · exact wf_but (h _ (by simp)) (h _ (by simp))
    · exact hr
  · exact hr
theorem wf_byF (c : UInt8) : ∀ (n : Nat) {r : R}, WF r → WF (byF n c r)
  | 0, _, _ => wf_nothing
  | n + 1, r, h => by
    have hk := wf_kids h
    unfold byF
    split
    · split
      · exact wf_empty
      · exact wf_nothing
    split
    · split
      · exact wf_nothing
      · rename_i k rest e
        rw [e] at hk
        obtain ⟨h1, h2⟩ := wfl_cons.1 hk
        have hc := wf_cat h2
        have h3 : WF (cat [byF n c k, cat rest]) := wf_cat (wfl2 (wf_byF c n h1) hc)
        split
        · exact wf_any (wfl2 h3 (wf_byF c n hc))
        · exact h3
    split
    · split
      · exact wf_nothing
      · rename_i k rest e
        rw [e] at hk
        exact wf_cat (wfl2 (wf_byF c n (wfl_cons.1 hk).1) h)
    split
    · exact wf_with h fun x hx => by
        obtain ⟨k, hk', rfl⟩ := List.mem_map.1 hx
        exact wf_byF c n (hk k hk')
    · exact wf_nothing
theorem wf_by (c : UInt8) {r : R} (h : WF r) : WF (by_ c r) := wf_byF c _ h
theorem wf_reach {r x : R} (h : WF r) (hx : Reach r x) : WF x := by
  induction hx with
  | refl => exact h
  | step c _ ih => exact wf_by c ih

/-! ### Behind a text -/
def bys (r : R) (s : List UInt8) : R := s.foldl (fun x b => by_ b x) r
theorem bys_cons (r : R) (b : UInt8) (s : List UInt8) : bys r (b :: s) = bys (by_ b r) s := rfl
/-- the state that a text leads to is of what stands behind it -/
theorem GoOk.step {r : R} {D : Dfa} {all : List R} (hp : D.parts = refine (allSets r)) (hG : GoOk r D.heads all.length all D.next) (hw : WF r) {q : Nat} (hq : q < all.length) (b : UInt8) :
    ∃ h : D.step q b.toNat < all.length, all[D.step q b.toNat] = by_ b all[q] := by
  have hqn : q < D.next.length := by rw [hG.len]; exact hq
  have hR := hG.row q hqn hq
  have hreach := hG.reach all[q] (List.getElem_mem hq)
  obtain ⟨hi, he⟩ := by_head hreach b
  have hat : D.at_ b.toNat = indexOf (refine (allSets r)) b.toNat := by unfold Dfa.at_; rw [hp]
  have hheads : D.heads = (refine (allSets r)).map Dfa.head := by unfold Dfa.heads; rw [hp]
  have hil : D.at_ b.toNat < D.heads.length := by rw [hheads, List.length_map, hat]; exact hi
  have hir : D.at_ b.toNat < (D.next[q]).length := by rw [hR.1]; exact hil
  have hst : D.step q b.toNat = D.next[q][D.at_ b.toNat] := by
    unfold Dfa.step
    have e1 : D.next.getD q [] = D.next[q] := by rw [List.getD_eq_getElem?_getD, List.getElem?_eq_getElem hqn]; rfl
    rw [e1, List.getD_eq_getElem?_getD, List.getElem?_eq_getElem hir]; rfl
  obtain ⟨h1, h2⟩ := hR.2 _ hir hil
  have h3 : D.heads[D.at_ b.toNat] = Dfa.head ((refine (allSets r))[indexOf (refine (allSets r)) b.toNat]) := by
    simp only [hheads, hat, List.getElem_map]
  rw [h3, ← he] at h2
  simp only [hst]
  exact ⟨h1, key_inj (wf_reach hw (hG.reach _ (List.getElem_mem _))) (wf_by b (wf_reach hw hreach)) h2⟩
theorem GoOk.run {r : R} {D : Dfa} {all : List R} (hp : D.parts = refine (allSets r)) (hG : GoOk r D.heads all.length all D.next) (hw : WF r) : ∀ (s : List UInt8) {q : Nat} (hq : q < all.length),
    ∃ h : D.run q s < all.length, all[D.run q s] = bys all[q] s
  | [], q, hq => ⟨hq, rfl⟩
  | b :: s, q, hq => by
    obtain ⟨h1, h2⟩ := GoOk.step hp hG hw hq b
    obtain ⟨h3, h4⟩ := GoOk.run hp hG hw s h1
    exact ⟨h3, by rw [bys_cons, ← h2]; exact h4⟩
end Pv
