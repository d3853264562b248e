/- The walks of package split: steps, sides, Match. -/
import Derived.Test.YtbimpenhmefpeaaGreatDoorS18
import Derived.Test.YtbimpenhmefpeaaGreatDoorS10
import Derived.Test.YtbimpenhmefpeaaGreatDoorS20
import Derived.Test.YtbimpenhmefpeaaGreatDoorS12
import Derived.Test.YtbimpenhmefpeaaGreatDoorS01
import Derived.Test.YtbimpenhmefpeaaGreatDoorS15
import Derived.Test.YtbimpenhmefpeaaGreatDoorS11
set_option linter.all false
namespace Pv
theorem stateOf_left {x : R} {all : List R} {l : Nat} {t : List R × Nat × Nat} (h : stateOf x all l = some t) : t.2.1 ≤ l := by
  unfold stateOf at h
  split at h
  · injection h with h; subst h; exact Nat.le_refl _
  · split at h
    · cases h
    · split at h
      · cases h
      · injection h with h; subst h; exact Nat.sub_le _ _
theorem buildGo_left {heads : List UInt8} : ∀ {f q : Nat} {all : List R} {l : Nat} {next : List (List Nat)}, (buildGo heads f q all l next).1 ≤ l
  | 0, _, _, l, _ => Nat.le_refl l
  | f + 1, q, all, l, next => by
    rw [buildGo]
    split
    · exact Nat.le_refl _
    · rename_i x _
      have h1 := buildRow_left (x := x) (hs := heads) (all := all) (l := l) (row := [])
      split
      · rename_i e; rw [e] at h1; exact h1
      · rename_i e; rw [e] at h1; exact Nat.le_trans buildGo_left h1
theorem build_left (r : R) (l : Nat) : (build r l).1 ≤ l := by
  unfold build
  simp only
  split
  · exact Nat.le_refl _
  · rename_i hs
    have h1 := stateOf_left hs
    simp only at h1
    split
    · rename_i e
      have h2 := congrArg Prod.fst e
      simp only at h2
      exact Nat.le_trans (h2 ▸ buildGo_left) h1
    · rename_i e
      have h2 := congrArg Prod.fst e
      simp only at h2
      exact Nat.le_trans (h2 ▸ buildGo_left) h1
end Pv
namespace Go.Proofs.YtbimpenhmefpeaaGreatDoor
open Go.RowKit
variable {H : Nat → Prop}

/-! ### Steps -/
/-- steps that are left, and were done -/
def FuelAt (w : World) (b : Nat) (f : Pv.Fuel) : Prop := f.left + f.used < 4611686018427387904 ∧ w.heap[b]? = some (.cells #[.int .i64 (f.left : Int), .int .i64 (f.used : Int)] 136)
theorem FuelAt.later {w w' : World} {b : Nat} {f : Pv.Fuel} (h : FuelAt w b f) (hb : Below w.heap.size w w') : FuelAt w' b f := ⟨h.1, later_blk hb h.2⟩
theorem FuelAt.keep {w w' : World} {b : Nat} {f : Pv.Fuel} (h : FuelAt w b f) (hb : Keep H w w') (hn : ¬ H b) : FuelAt w' b f := ⟨h.1, hb.blk hn h.2⟩
theorem fill_any (n : Nat) (hn : n < 4611686018427387904) (w : World) : Calls Tryz.prog 48 #[.int .i64 (n : Int)] w fun e w' =>
    e = .returned (Ptr w.heap.size) ∧ FuelAt w' w.heap.size ⟨n, 0⟩ ∧ Below w.heap.size w w' ∧ w.heap.size < w'.heap.size := by
  have hmax : max (n : Int) 0 = n := by omega
  go_enter Tryz.func48, Tryz.ntmps48
  go_wp2_with fail
  go_ret
  exact ⟨rfl, ⟨by simp only; omega, blk_new rfl⟩, (Below.refl _ _).alloc (Nat.le_refl _) _, by simp⟩
set_option maxRecDepth 20000 in
theorem burn_any (b n : Nat) (f : Pv.Fuel) (w : World) (h : FuelAt w b f) (hn : n < 4611686018427387904) : Calls Tryz.prog 141 #[Ptr b, .int .i64 (n : Int)] w fun e w' =>
    e = .returned (.int .i64 ((f.burn n).2 : Int)) ∧ FuelAt w' b (f.burn n).1 ∧ Keep (· = b) w w' := by
  obtain ⟨l, u⟩ := f
  obtain ⟨hlu, h2⟩ := h
  simp only at hlu h2
  have h0 := cell_of_blk (o := 0) h2 rfl
  have h1 := cell_of_blk (o := 1) h2 rfl
  have f0 := frozen_of_blk (o := 0) h2
  have f1 := frozen_of_blk (o := 1) h2
  have hn0 : (0 : Int) ≤ n := by omega
  have H2 := Lib.hid h2
  clear h2
  unfold Pv.Fuel.burn
  simp only
  by_cases hl : l < n
  · have hl' : (l : Int) < n := by omega
    rw [if_pos hl]
    go_enter Tryz.func141, Tryz.ntmps141
    go_wp2_with fail
    go_ret
    refine ⟨rfl, ⟨by simp only; omega, ?_⟩, Keep.set rfl⟩
    exact blk_set H2.out
  · have hl' : (n : Int) ≤ l := by omega
    rw [if_neg hl]
    have hw1 : IntKind.i64.wrap ((l : Int) - n) = ((l - n : Nat) : Int) := by rw [IntKind.wrap_i64] <;> omega
    have hw2 : IntKind.i64.wrap ((u : Int) + n) = ((u + n : Nat) : Int) := by rw [IntKind.wrap_i64] <;> omega
    go_enter Tryz.func141, Tryz.ntmps141
    go_wp2_with fail
    go_ret
    refine ⟨rfl, ⟨by simp only; omega, ?_⟩, Keep.trans (H := (· = b)) (Keep.set rfl) (Keep.set rfl)⟩
    have := blk_set (o := 1) (v := .int .i64 ((u : Int) + n)) (blk_set (o := 0) (v := .int .i64 ((l - n : Nat) : Int)) H2.out)
    simpa using this
/-! ### Sides -/
def SideAt (H : Nat → Prop) (w : World) (S : Pv.Side) (s : Nat) : Prop := ¬ H s ∧ ∃ f b, w.heap[s]? = some (.cells #[Ptr f, Ptr b] 174) ∧ DfaAt H w S.fore f ∧ DfaAt H w S.back b
theorem SideAt.keep {w w' : World} {S : Pv.Side} {s : Nat} (h : SideAt H w S s) {H' : Nat → Prop} (hk : Keep H' w w') (hH : ∀ k, H' k → H k ∨ w.heap.size ≤ k) (hd : ∀ (k : Nat) (cs : Array Value) (fr : Nat × Nat), w.heap[k]? = some (.cells cs 207 fr) → ¬ H' k) : SideAt H w' S s := by
  obtain ⟨h0, f, b, h1, ⟨hv, nv, yv, rest, rs, h2⟩, ⟨hv', nv', yv', rest', rs', h3⟩⟩ := h
  refine ⟨h0, f, b, hk.blk (fun hs => ?_) h1, DfaAt.keep ⟨hv, nv, yv, rest, rs, h2⟩ hk hH (hd _ _ _ h2.1), DfaAt.keep ⟨hv', nv', yv', rest', rs', h3⟩ hk hH (hd _ _ _ h3.1)⟩
  rcases hH _ hs with h | h
  · exact h0 h
  · have := blk_lt h1; omega
theorem SideAt.later {w w' : World} {S : Pv.Side} {s : Nat} (h : SideAt H w S s) (hb : Below w.heap.size w w') : SideAt H w' S s :=
  h.keep (H' := fun _ => False) (Keep.of_below hb) (fun _ h => h.elim) (fun _ _ _ _ h => h)
def _root_.Pv.Side.Ok (S : Pv.Side) : Prop := S.fore.Ok ∧ S.back.Ok
theorem smatch_any (S : Pv.Side) (hS : S.Ok) (s b : Nat) (f : Pv.Fuel) (t : List UInt8) (w : World) (h : SideAt H w S s) (hf : FuelAt w b f) (ht : t.length < 1099511627776) (hb : H b) :
    Calls Tryz.prog 112 #[Ptr s, Str t, Ptr b] w fun e w' =>
      e = .returned (.tuple #[.bool ((f.burn (t.length + 1)).2 == 0 && S.fore.accepts t), .int .i64 ((f.burn (t.length + 1)).2 : Int)]) ∧ FuelAt w' b (f.burn (t.length + 1)).1 ∧ Keep (· = b) w w' := by
  have hbu := burn_any b (t.length + 1) f w hf (by omega)
  rw [show ((t.length + 1 : Nat) : Int) = (t.length : Int) + 1 by omega] at hbu
  have hwr : IntKind.i64.wrap ((t.length : Int) + 1) = (t.length : Int) + 1 := by rw [IntKind.wrap_i64] <;> omega
  have HA := Lib.hid h
  have HF := Lib.hid hf.2
  have he : (f.burn (t.length + 1)).2 = 0 ∨ (f.burn (t.length + 1)).2 = 31 := by unfold Pv.Fuel.burn; split <;> simp
  generalize (f.burn (t.length + 1)).2 = e1 at *
  generalize (f.burn (t.length + 1)).1 = f1 at *
  clear h hf
  go_enter Tryz.func112, Tryz.ntmps112
  go_wp2_with fail
  refine hbu.mono ?_
  rintro e w' ⟨rfl, hf1, hk⟩
  have HS := Lib.hid (HA.out.keep hk (fun k e => .inl (by rw [e]; exact hb)) (fun k cs fr e hk => by
    have h2 := HF.out
    rw [hk] at e
    rw [e] at h2
    cases h2))
  have HF1 := Lib.hid hf1
  have HK := Lib.hid hk
  clear hf1 hk HA HF hbu
  rcases he with rfl | rfl
  · obtain ⟨hns, fo, ba, x0, hd1, _⟩ := HS.out
    have x1 := cell_of_blk (o := 0) x0 rfl
    have hm := match_any S.fore hS.1 fo t w' hd1 ht
    have HM := Lib.hid hm
    clear x0 hd1 hm
    go_wp2_with fail
    refine HM.out.mono ?_
    rintro e w2 ⟨rfl, hb2⟩
    have HB2 := Lib.hid hb2
    clear hb2 HM x1
    go_wp2_with fail
    refine bodyPost_ret (v := .tuple #[.bool (S.fore.accepts t), .int .i64 0]) ?_ rfl ⟨?_, HF1.out.later HB2.out, HK.out.trans (Keep.of_below HB2.out)⟩
    · simp [results, Tryz.results112, go_sem]
    · simp
  · go_wp2_with fail
    refine bodyPost_ret (v := .tuple #[.bool false, .int .i64 31]) ?_ rfl ⟨?_, HF1.out, HK.out⟩
    · simp [results, Tryz.results112, go_sem]
    · simp

set_option maxRecDepth 20000 in
set_option maxHeartbeats 1000000 in
theorem sbuild_any (R : Ending → World → Prop) (r : Pv.R) (b bb l u : Nat) (w : World) (hT : Tab w) (hat : ReAt H w r b) (hbud : BudAt w bb l u) (hbb : H bb) (hH : ∀ h, H h → h < w.heap.size) (hsz : Pv.size r < 137438953472) (hl : l < 274877906944)
    (r1 : ∀ w', (Pv.side r l).2 = none → BudAt w' bb (Pv.side r l).1 (u + (l - (Pv.side r l).1)) → Keep (· = bb) w w' → R (.returned (.tuple #[.pointer none, .int .i64 5])) w')
    (r2 : ∀ w' S s, (Pv.side r l).2 = some S → SideAt H w' S s → S.Ok → w.heap.size ≤ s → BudAt w' bb (Pv.side r l).1 (u + (l - (Pv.side r l).1)) → Keep (· = bb) w w' → R (.returned (.tuple #[Ptr s, .int .i64 0])) w') :
    Calls Tryz.prog 60 #[Ptr b, Ptr bb] w R := by
  have HAt := Lib.hid hat
  have HT := Lib.hid hT
  have HBud := Lib.hid hbud
  have R1 := Lib.hid r1
  have R2 := Lib.hid r2
  clear hat hT hbud r1 r2
  go_enter Tryz.func60, Tryz.ntmps60
  go_wp2_with fail
  refine build_main (H := H) _ r b bb l u w HT.out HAt.out HBud.out hbb hH (by omega) hl ?_ ?_
  · intro w1 hb1 hbd hk
    have hs : Pv.side r l = ((Pv.build r l).1, none) := by
      unfold Pv.side
      rw [show Pv.build r l = ((Pv.build r l).1, (Pv.build r l).2) from rfl, hb1]
    have h := R1.out w1
    rw [hs] at h
    have HR := Lib.hid (h rfl hbd hk)
    clear h hs hb1 hbd hk
    go_wp2_with fail
    exact HR.out
  · intro w1 D d hb1 hd0 hdz hbd hk
    have hd : DfaAt H w1 D d := hd0.widen fun k h => .inl (.inl h)
    clear hd0
    obtain ⟨l1, hl1⟩ : ∃ l1, (Pv.build r l).1 = l1 := ⟨_, rfl⟩
    have hl1l : l1 ≤ l := by rw [← hl1]; exact Pv.build_left r l
    rw [hl1] at hbd
    have hbe : Pv.build r l = (l1, some D) := by rw [← hl1, ← hb1]
    have hDok := (Pv.build_ok hbe).1
    have hszw := hk.size
    have hbbw := hH _ hbb
    have hat1 := HAt.out.keep (hk.wide fun x e => .inl (by rw [e]; exact hbb))
    have hback := back_any _ H r b w1 (Nat.le_refl _) hat1 (fun h hh => by have := hH h hh; omega) (by omega)
    have HBack := Lib.hid hback
    have Hd := Lib.hid hd
    have Hbd := Lib.hid hbd
    have HK := Lib.hid hk
    have HT1 := Lib.hid (HT.out.keep hk (fun e => HT.out.bud HBud.out e.symm))
    have hl1n : (0 : Int) ≤ 5 := by decide
    clear hat1 hback hd hbd hk hb1
    go_wp2_with fail
    refine HBack.out.mono ?_
    rintro e w2 ⟨b2, rfl, hat2, hbl2⟩
    have HA2 := Lib.hid hat2
    have HB2 := Lib.hid hbl2
    have hsz2 := hbl2.size
    clear hat2 hbl2 HBack
    go_wp2_with fail
    have hsb := size_back r
    refine build_main (H := H) _ (Pv.back r) b2 bb l1 (u + (l - l1)) w2 (HT1.out.later HB2.out) HA2.out (Hbd.out.later HB2.out) hbb (fun h hh => by have := hH h hh; omega) (by omega) (by omega) ?_ ?_
    · intro w3 hb3 hbd3 hk3
      have hl2 : (Pv.build (Pv.back r) l1).1 ≤ l1 := Pv.build_left _ _
      have hs : Pv.side r l = ((Pv.build (Pv.back r) l1).1, none) := by
        unfold Pv.side
        rw [hbe]
        simp only
        rw [show Pv.build (Pv.back r) l1 = ((Pv.build (Pv.back r) l1).1, (Pv.build (Pv.back r) l1).2) from rfl, hb3]
      have h := R1.out w3
      rw [hs] at h
      have HR := Lib.hid (h rfl (by simp only; rw [show u + (l - (Pv.build (Pv.back r) l1).1) = u + (l - l1) + (l1 - (Pv.build (Pv.back r) l1).1) by omega]; exact hbd3) ((HK.out.trans (Keep.of_below HB2.out)).trans hk3))
      clear h hs hb3 hbd3 hk3
      go_wp2_with fail
      exact HR.out
    · intro w3 D3 d3 hb3 hd30 hdz3 hbd3 hk3
      have hd3 : DfaAt H w3 D3 d3 := hd30.widen fun k h => .inl (.inl h)
      clear hd30
      have hl2 : (Pv.build (Pv.back r) l1).1 ≤ l1 := Pv.build_left _ _
      have hbe3 : Pv.build (Pv.back r) l1 = ((Pv.build (Pv.back r) l1).1, some D3) := by rw [← hb3]
      have hs : Pv.side r l = ((Pv.build (Pv.back r) l1).1, some ⟨D, D3⟩) := by
        unfold Pv.side
        rw [hbe]
        simp only
        rw [hbe3]
      have hDok3 := (Pv.build_ok hbe3).1
      have hd1 : DfaAt H w3 D d := (Hd.out.later HB2.out).keep hk3 (fun k e => .inl (by rw [e]; exact hbb)) (fun e => by omega)
      have hsz3 := hk3.size
      have hsa : SideAt H (w3.alloc (.cells #[Ptr d, Ptr d3] 174)) ⟨D, D3⟩ w3.heap.size := by
        have hB : Below w3.heap.size w3 (w3.alloc (.cells #[Ptr d, Ptr d3] 174)) := (Below.refl _ _).alloc (Nat.le_refl _) _
        exact ⟨fun hh => by have := hH _ hh; omega, d, d3, blk_new rfl, hd1.later hB, hd3.later hB⟩
      have h := R2.out (w3.alloc (.cells #[Ptr d, Ptr d3] 174)) ⟨D, D3⟩ w3.heap.size
      rw [hs] at h
      have HR := Lib.hid (h rfl hsa ⟨hDok, hDok3⟩ (by omega) (by
        simp only
        rw [show u + (l - (Pv.build (Pv.back r) l1).1) = u + (l - l1) + (l1 - (Pv.build (Pv.back r) l1).1) by omega]
        exact hbd3.later ((Below.refl _ _).alloc (Nat.le_refl _) _)) (((HK.out.trans (Keep.of_below HB2.out)).trans hk3).trans (Keep.alloc _ _)))
      clear h hs hb3 hbd3 hk3 hsa hd1 hd3 hbe3
      go_wp2_with fail
      exact HR.out
end Go.Proofs.YtbimpenhmefpeaaGreatDoor
namespace Go.Proofs.YtbimpenhmefpeaaGreatDoor
open Go.RowKit Go.Maps
variable {H : Nat → Prop}

end Go.Proofs.YtbimpenhmefpeaaGreatDoor
namespace Go.Proofs.YtbimpenhmefpeaaGreatDoor
open Go.RowKit Go.Maps
variable {H : Nat → Prop}

theorem Sl.of_blk2 {w : World} {g e : Nat} {x y : Value} (h : w.heap[g]? = some (.cells #[x, y] e)) : Sl w (some ⟨g, 0, none⟩) 2 [x, y] := by
  refine ⟨Nat.le_refl _, fun h => (by cases h), fun i hi => ⟨g, 0, rfl, ?_⟩⟩
  rw [Nat.zero_add]
  refine cell_of_blk h ?_
  simp at hi
  match i, hi with
  | 0, _ => rfl
  | 1, _ => rfl
end Go.Proofs.YtbimpenhmefpeaaGreatDoor
namespace Go.Eaq
open Go Go.RowKit
open Go.Eag (Sch runVal)
open Go.Eak
section
variable {P : Program} {ops : Array Oper} {Q : Exit → Act → World → Prop} {md : Region.Mode}
variable {Rl : World → World → Prop} [hPre : Pre Rl]
/-- Rl, or whatever, where q says so -/
def Orq (Rl : World → World → Prop) (q : Bool) (w w' : World) : Prop := Rl w w' ∨ q = true
instance (q : Bool) : Pre (Orq Rl q) := ⟨fun w => .inl (hPre.rf w), fun h k => by
  rcases h with h | h
  · rcases k with k | k
    · exact .inl (hPre.tr h k)
    · exact .inr k
  · exact .inr h⟩
def freeE (ops : Array Oper) (M : Array Nat) (ex an : Nat → Bool) (l : Array Bool) (i : Nat) : Bool :=
  match ops[i]? with
  | none => false
  | some oi => (List.range ops.size).all fun j => j == i || l.getD j true || (M.getD j 0).testBit i || (match ops[j]? with | some oj => oi.apart ops oj && (!ex j || an i) | none => true)
def okSch (ops : Array Oper) (M : Array Nat) (ex an : Nat → Bool) : Sch → Array Bool → Nat → Bool
  | .fin, l, n => n == 0 && (Region.ready .any ops l).isEmpty
  | .mov i s, l, n => n != 0 && (Region.ready .any ops l).contains i && freeE ops M ex an l i && okSch ops M ex an s (l.setIfInBounds i true) (n - 1)
  | .anc i s, l, n => n != 0 && Region.ready .any ops l == [i] && okSch ops M ex an s (l.setIfInBounds i true) (n - 1)
  | .two i s j t, l, n => n != 0 && Region.ready .any ops l == [i, j] && okSch ops M ex an s (l.setIfInBounds i true) (n - 1) && okSch ops M ex an t (l.setIfInBounds j true) (n - 1)
def wpSch (Rl : World → World → Prop) (P : Program) (ops : Array Oper) (K : Act → World → Prop) (ex an : Nat → Bool) : Sch → Act → World → Prop
  | .fin, a, w => K a w
  | .mov i s, a, w => ∃ o v, ops[i]? = some o ∧ Gives (Orq Rl (an i)) P ops w o v a ∧ wpSch Rl P ops K ex an s (a.put o.dst v) w
  | .anc i s, a, w => wpOp P ops noEnd i (fun a' w' => (ex i = true ∨ Rl w w') ∧ wpSch Rl P ops K ex an s a' w') a w
  | .two i s j t, a, w => wpOp P ops noEnd i (fun a' w' => (ex i = true ∨ Rl w w') ∧ wpSch Rl P ops K ex an s a' w') a w ∧
      wpOp P ops noEnd j (fun a' w' => (ex j = true ∨ Rl w w') ∧ wpSch Rl P ops K ex an t a' w') a w
theorem E_take {ex : Nat → Bool} {q : Bool} {M : Array Nat} (hM : okMask ops M = true) (hsel : Region.noSelect ops = true) {i : Nat} {oi : Oper} {v : Value} (hi : ops[i]? = some oi)
    (hQ : ∀ c a w, Q (.panic c) a w → False) :
    ∀ (n : Nat) (l : Array Bool) (a : Act) (w : World), Shut ops l →
      (∀ j oj, ops[j]? = some oj → j ≠ i → l.getD j true = false → (M.getD j 0).testBit i = false → oi.apart ops oj = true ∧ (ex j = false ∨ q = true)) →
      i ∈ Region.ready .any ops l → Gives (Orq Rl q) P ops w oi v a →
      wpE Rl P .any ops Q ex n (l.setIfInBounds i true) (a.put oi.dst v) w → wpE Rl P .any ops Q ex (n + 1) l a w := by
  intro n
  induction n with
  | zero =>
    intro l a w _ _ hr hy H
    refine ⟨fun h => (by rw [h] at hr; cases hr), fun j hj => ?_⟩
    by_cases hji : j = i
    · subst hji; exact hy.op hi ⟨.inr (hPre.rf _), H⟩
    · have := ready_mono hj hji; rw [H.1] at this; cases this
  | succ n ih =>
    intro l a w hl hf hr hy H
    refine ⟨fun h => (by rw [h] at hr; cases hr), fun j hj => ?_⟩
    by_cases hji : j = i
    · subst hji; exact hy.op hi ⟨.inr (hPre.rf _), H⟩
    · obtain ⟨hun, oj, hoj, hall⟩ := mem_ready.1 hj
      have hmask : (M.getD j 0).testBit i = false := by
        cases hb : (M.getD j 0).testBit i with
        | false => rfl
        | true =>
          have := listed_of_mask hM hl j (mem_ready_lt hj) i (mem_ready_lt hr) hb (fun o ho e he hbi => by rw [hoj] at ho; obtain rfl := Option.some.inj ho; exact hall e he hbi)
          rw [unlisted_false (mem_ready.1 hr).1] at this; cases this
      obtain ⟨hap, hex⟩ := hf j oj hoj hji hun hmask
      have h2 := op_put hoj hap (fun cs b => Region.noSelect_spec hsel i oi cs b hi) (fun cs b => Region.noSelect_spec hsel j oj cs b hoj) (fun c a w h => (hQ _ _ _ h).elim) hy (H.2 j (ready_mono hj hji))
      refine wpOp_mono (fun a' w' h3 => ?_) h2
      obtain ⟨hg, hbel, hE⟩ := h3
      have hg2 : Gives (Orq Rl q) P ops w' oi v a' := hg.later (by
        rcases hex with hex | hex
        · exact .inl (hbel.resolve_left (by rw [hex]; simp))
        · exact .inr hex)
      refine ⟨hbel, ih _ a' w' (shut_set hl hj) ?_ (ready_mono hr (Ne.symm hji)) hg2 ?_⟩
      · intro k ok hk hki hkun hkno
        refine hf k ok hk hki ?_ hkno
        by_cases hjk : j = k
        · subst hjk; exact hun
        · rw [getD_set_ne true hjk] at hkun; exact hkun
      · rw [Array.setIfInBounds_comm _ _ hji]; exact hE
theorem E_of_sch {K : Act → World → Prop} {ex an : Nat → Bool} {M : Array Nat} (hM : okMask ops M = true) (hsel : Region.noSelect ops = true) :
    ∀ (s : Sch) (n : Nat) (l : Array Bool) (a : Act) (w : World), Shut ops l → okSch ops M ex an s l n = true → wpSch Rl P ops K ex an s a w → wpE Rl P .any ops (calm K) ex n l a w
  | .fin, n, l, a, w, _, ho, h => by
    simp only [okSch, Bool.and_eq_true, beq_iff_eq, List.isEmpty_iff] at ho
    obtain ⟨rfl, hr⟩ := ho
    exact ⟨hr, h⟩
  | .mov i s, n, l, a, w, hl, ho, h => by
    obtain ⟨n, rfl⟩ : ∃ m, n = m + 1 := ⟨n - 1, by simp only [okSch, Bool.and_eq_true, bne_iff_ne, ne_eq] at ho; omega⟩
    obtain ⟨o, v, hi, hg, h⟩ := h
    simp only [okSch, Bool.and_eq_true, Nat.add_sub_cancel] at ho
    obtain ⟨⟨⟨_, hr⟩, hf⟩, ho⟩ := ho
    have hr' : i ∈ Region.ready .any ops l := by simpa using hr
    refine E_take hM hsel hi (fun c a w h => h) n l a w hl ?_ hr' hg (E_of_sch hM hsel s n _ _ w (shut_set hl hr') ho h)
    intro j oj hj hne hun hm
    simp only [freeE, hi, List.all_eq_true, List.mem_range] at hf
    have := hf j (Array.getElem?_eq_some_iff.1 hj).1
    have hm' : ((M[j]?.getD 0).testBit i) = false := by simpa using hm
    simp only [hj, hm', Bool.or_eq_true, beq_iff_eq, hne, false_or] at this
    rw [hun, hm] at this
    simpa using this
  | .anc i s, n, l, a, w, hl, ho, h => by
    obtain ⟨n, rfl⟩ : ∃ m, n = m + 1 := ⟨n - 1, by simp only [okSch, Bool.and_eq_true, bne_iff_ne, ne_eq] at ho; omega⟩
    simp only [okSch, Bool.and_eq_true, Nat.add_sub_cancel, beq_iff_eq] at ho
    obtain ⟨⟨_, hr⟩, ho⟩ := ho
    refine ⟨fun h0 => absurd (hr.symm.trans h0) (List.cons_ne_nil _ _), fun j hj => ?_⟩
    rw [hr, List.mem_singleton] at hj; subst hj
    exact wpOp_mono (fun a' w' k => ⟨k.1, E_of_sch hM hsel s n _ a' w' (shut_set hl (by rw [hr]; simp)) ho k.2⟩) (noEnd_op h)
  | .two i s j t, n, l, a, w, hl, ho, h => by
    obtain ⟨n, rfl⟩ : ∃ m, n = m + 1 := ⟨n - 1, by simp only [okSch, Bool.and_eq_true, bne_iff_ne, ne_eq] at ho; omega⟩
    simp only [okSch, Bool.and_eq_true, Nat.add_sub_cancel, beq_iff_eq] at ho
    obtain ⟨⟨⟨_, hr⟩, ho⟩, ho2⟩ := ho
    refine ⟨fun h0 => absurd (hr.symm.trans h0) (List.cons_ne_nil _ _), fun k hk => ?_⟩
    rw [hr] at hk
    simp only [List.mem_cons, List.not_mem_nil, or_false] at hk
    rcases hk with rfl | rfl
    · exact wpOp_mono (fun a' w' q => ⟨q.1, E_of_sch hM hsel s n _ a' w' (shut_set hl (by rw [hr]; simp)) ho q.2⟩) (noEnd_op h.1)
    · exact wpOp_mono (fun a' w' q => ⟨q.1, E_of_sch hM hsel t n _ a' w' (shut_set hl (by rw [hr]; simp)) ho2 q.2⟩) (noEnd_op h.2)
def okAll (ops : Array Oper) (ex an : Nat → Bool) (s : Sch) : Bool :=
  okMask ops (Region.before ops) && (Region.noSelect ops && okSch ops (Region.before ops) ex an s (Array.replicate ops.size false) ops.size)
theorem region (Rl : World → World → Prop) [hPre : Pre Rl] {id : Nat} {l : List Oper} {a : Act} {w : World} (s : Sch) (exs ans : List Nat) (hm : P.follows .mixedOrders = true)
    (hk : okAll l.toArray (fun i => exs.contains i) (fun i => ans.contains i) s = true)
    (h : ∀ (K : Act → World → Prop) (ops : Array Oper), Hid (ops = l.toArray) → (∀ a w, Q .normal a w → K a w) → wpSch Rl P ops K (fun i => exs.contains i) (fun i => ans.contains i) s a w.drew) : (Code.region id l.toArray true).wp P Q a w := by
  simp only [okAll, Bool.and_eq_true] at hk
  refine Wp_calm (K := Q .normal) (fun _ _ h => h) (wp_region_any hm (wpAny_of_E _ _ _ _ (E_of_sch hk.1 hk.2.1 s _ _ a _ ?_ hk.2.2 (h _ _ rfl (fun _ _ h => h)))))
  intro j o _ hj
  simp [Array.getElem?_replicate] at hj
  split at hj <;> simp at hj
theorem mov {l : List Oper} (hops : Hid (ops = l.toArray)) {K : Act → World → Prop} {i : Nat} {s : Sch} {ex an : Nat → Bool} {a : Act} {w : World} {o : Oper} (hi : l.toArray[i]? = some o) (hg : o.guard = none) (hn : an i = false)
    (hr : ∀ w', Rl w w' → (execOp a.eval o).run P w' = .ok (.value (runVal ((execOp a.eval o).run P w))) w')
    (h : wpSch Rl P ops K ex an s (a.put o.dst (runVal ((execOp a.eval o).run P w))) w) : wpSch Rl P ops K ex an (.mov i s) a w :=
  ⟨o, _, (congrArg (fun q : Array Oper => q[i]?) hops.out).trans hi, .inl ⟨by simp [Region.wanted, hg], fun w' hb => .inl (hr w' (hb.resolve_right (by rw [hn]; simp)))⟩, h⟩
theorem movA {l : List Oper} (hops : Hid (ops = l.toArray)) {K : Act → World → Prop} {i : Nat} {s : Sch} {ex an : Nat → Bool} {a : Act} {w : World} {o : Oper} (hi : l.toArray[i]? = some o) (hg : o.guard = none)
    (hr : ∀ w', (execOp a.eval o).run P w' = .ok (.value (runVal ((execOp a.eval o).run P w))) w')
    (h : wpSch Rl P ops K ex an s (a.put o.dst (runVal ((execOp a.eval o).run P w))) w) : wpSch Rl P ops K ex an (.mov i s) a w :=
  ⟨o, _, (congrArg (fun q : Array Oper => q[i]?) hops.out).trans hi, .inl ⟨by simp [Region.wanted, hg], fun w' _ => .inl (hr w')⟩, h⟩
theorem movG {l : List Oper} (hops : Hid (ops = l.toArray)) {K : Act → World → Prop} {i : Nat} {s : Sch} {ex an : Nat → Bool} {a : Act} {w : World} {o : Oper} (hi : l.toArray[i]? = some o) (hg : Region.wanted o (yielded l.toArray a.tmps) = true) (hn : an i = false)
    (hr : ∀ w', Rl w w' → (execOp a.eval o).run P w' = .ok (.value (runVal ((execOp a.eval o).run P w))) w')
    (h : wpSch Rl P ops K ex an s (a.put o.dst (runVal ((execOp a.eval o).run P w))) w) : wpSch Rl P ops K ex an (.mov i s) a w :=
  ⟨o, _, (congrArg (fun q : Array Oper => q[i]?) hops.out).trans hi, .inl ⟨by rw [hops.out]; exact hg, fun w' hb => .inl (hr w' (hb.resolve_right (by rw [hn]; simp)))⟩, h⟩
theorem ancG {l : List Oper} (hops : Hid (ops = l.toArray)) {K : Act → World → Prop} {i : Nat} {s : Sch} {ex an : Nat → Bool} {a : Act} {w : World} {o : Oper} (hi : l.toArray[i]? = some o) (hg : Region.wanted o (yielded l.toArray a.tmps) = true)
    (h : o.wp P a w (fun a' w' => (ex i = true ∨ Rl w w') ∧ wpSch Rl P ops K ex an s a' w') noEnd) : wpSch Rl P ops K ex an (.anc i s) a w := by
  show wpOp P ops noEnd i _ a w
  have hi' : ops[i]? = some o := (congrArg (fun q : Array Oper => q[i]?) hops.out).trans hi
  unfold wpOp; simp only [hi']; rw [if_pos (by rw [hops.out]; exact hg)]; exact .inl h
theorem anc {l : List Oper} (hops : Hid (ops = l.toArray)) {K : Act → World → Prop} {i : Nat} {s : Sch} {ex an : Nat → Bool} {a : Act} {w : World} {o : Oper} (hi : l.toArray[i]? = some o) (hg : o.guard = none)
    (h : o.wp P a w (fun a' w' => (ex i = true ∨ Rl w w') ∧ wpSch Rl P ops K ex an s a' w') noEnd) : wpSch Rl P ops K ex an (.anc i s) a w := by
  show wpOp P ops noEnd i _ a w
  have hi' : ops[i]? = some o := (congrArg (fun q : Array Oper => q[i]?) hops.out).trans hi
  unfold wpOp; simp only [hi']; rw [if_pos (by simp [Region.wanted, hg])]; exact .inl h
theorem two {l : List Oper} (hops : Hid (ops = l.toArray)) {K : Act → World → Prop} {i j : Nat} {s t : Sch} {ex an : Nat → Bool} {a : Act} {w : World} {o q : Oper} (hi : l.toArray[i]? = some o) (hg : o.guard = none) (hj : l.toArray[j]? = some q) (hg2 : q.guard = none)
    (h : o.wp P a w (fun a' w' => (ex i = true ∨ Rl w w') ∧ wpSch Rl P ops K ex an s a' w') noEnd)
    (k : q.wp P a w (fun a' w' => (ex j = true ∨ Rl w w') ∧ wpSch Rl P ops K ex an t a' w') noEnd) : wpSch Rl P ops K ex an (.two i s j t) a w :=
  ⟨anc (s := s) hops hi hg h, anc (s := t) hops hj hg2 k⟩
theorem fin {K : Act → World → Prop} {ex an : Nat → Bool} {a : Act} {w : World} (h : K a w) : wpSch Rl P ops K ex an .fin a w := h
end
end Go.Eaq
namespace Go.Proofs.YtbimpenhmefpeaaGreatDoor
open Go.RowKit Go.Maps
variable {H : Nat → Prop}

abbrev faultC (f : Pv.Fault) : Array Value := #[.int .i64 (f.e : Int), .int .i64 (f.op : Int), .int .i64 f.at_, .bool f.view, Str f.text, .int .i64 f.i, .int .i64 f.j]
/-- a Checker -/
def CkAt (w : World) (c bb : Nat) (f : Pv.Fault) : Prop := w.heap[c]? = some (.cells #[Ptr bb, .int .i64 (f.e : Int), .int .i64 (f.op : Int), .int .i64 f.at_, .bool f.view, Str f.text, .int .i64 f.i, .int .i64 f.j] 38)
/-- a term's first two cells -/
def HeadAt (w : World) (tb op : Nat) (at_ : Int) : Prop := ∃ cs, w.heap[tb]? = some (.cells cs 30) ∧ cs[0]? = some (.int .i64 (op : Int)) ∧ cs[1]? = some (.int .i64 at_)
theorem CkAt.later {w w' : World} {c bb : Nat} {f : Pv.Fault} (h : CkAt w c bb f) (hb : Below w.heap.size w w') : CkAt w' c bb f := later_blk hb h
theorem CkAt.keep {w w' : World} {c bb : Nat} {f : Pv.Fault} (h : CkAt w c bb f) (hb : Keep H w w') (hn : ¬ H c) : CkAt w' c bb f := hb.blk hn h
theorem HeadAt.keep {w w' : World} {tb op : Nat} {at_ : Int} (h : HeadAt w tb op at_) (hb : Keep H w w') (hn : ¬ H tb) : HeadAt w' tb op at_ := by
  obtain ⟨cs, h1, h2⟩ := h
  exact ⟨cs, hb.blk hn h1, h2⟩
theorem HeadAt.later {w w' : World} {tb op : Nat} {at_ : Int} (h : HeadAt w tb op at_) (hb : Below w.heap.size w w') : HeadAt w' tb op at_ := h.keep (H := fun _ => False) (Keep.of_below hb) (fun h => h)
theorem HeadAt.ne {w : World} {tb op : Nat} {at_ : Int} (h : HeadAt w tb op at_) {b : Nat} {cs : Array Value} {t : TypeId} {fr : Nat × Nat} (hb : w.heap[b]? = some (.cells cs t fr)) (ht : t ≠ 30) : tb ≠ b := by
  obtain ⟨c1, h1, _⟩ := h
  rintro rfl
  rw [h1] at hb
  injection hb with hb
  injection hb with _ hb
  exact ht hb.symm
theorem e_eq (n : Nat) : ((n : Int) == 0) = (n == 0) := by rw [Bool.eq_iff_iff]; simp
theorem ok_any (c bb : Nat) (f : Pv.Fault) (w : World) (h : CkAt w c bb f) : Pure 11 #[Ptr c] w (.bool (f.e == 0)) := by
  have h1 : w.cell? ⟨c, 1, none⟩ = some (.int .i64 (f.e : Int)) := cell_of_blk (o := 1) h rfl
  have e := e_eq f.e
  clear h
  obtain ⟨z, hz⟩ : ∃ z, (f.e == 0) = z := ⟨_, rfl⟩
  rw [hz] at e ⊢
  clear hz
  go_enter Tryz.func11, Tryz.ntmps11
  go_wp2_with fail
  go_ret
  exact ⟨rfl, rfl⟩
theorem ck_set {w : World} {c bb : Nat} {f : Pv.Fault} (h : CkAt w c bb f) (g : Pv.Fault) :
    CkAt (((((((w.setCell ⟨c, 1, none⟩ (.int .i64 (g.e : Int))).setCell ⟨c, 2, none⟩ (.int .i64 (g.op : Int))).setCell ⟨c, 3, none⟩ (.int .i64 g.at_)).setCell ⟨c, 4, none⟩ (.bool g.view)).setCell ⟨c, 5, none⟩ (Str g.text)).setCell ⟨c, 6, none⟩ (.int .i64 g.i)).setCell ⟨c, 7, none⟩ (.int .i64 g.j)) c bb g ∧
    Keep (· = c) w (((((((w.setCell ⟨c, 1, none⟩ (.int .i64 (g.e : Int))).setCell ⟨c, 2, none⟩ (.int .i64 (g.op : Int))).setCell ⟨c, 3, none⟩ (.int .i64 g.at_)).setCell ⟨c, 4, none⟩ (.bool g.view)).setCell ⟨c, 5, none⟩ (Str g.text)).setCell ⟨c, 6, none⟩ (.int .i64 g.i)).setCell ⟨c, 7, none⟩ (.int .i64 g.j)) := by
  have K : ∀ (W : World) (o : Nat) (v : Value), Keep (· = c) W (W.setCell ⟨c, o, none⟩ v) := fun W o v => Keep.set rfl
  refine ⟨?_, ((((((K _ _ _).trans (K _ _ _)).trans (K _ _ _)).trans (K _ _ _)).trans (K _ _ _)).trans (K _ _ _)).trans (K _ _ _)⟩
  unfold CkAt at h ⊢
  rw [blk_set (blk_set (blk_set (blk_set (blk_set (blk_set (blk_set h))))))]
  rfl
theorem fail_nil (c bb : Nat) (f : Pv.Fault) (w : World) (h : CkAt w c bb f) (hf : f.e = 0) (e : Nat) (view : Bool) (text : List UInt8) :
    Calls Tryz.prog 13 #[Ptr c, .int .i64 (e : Int), .pointer none, .bool view, Str text] w fun en w' => en = .returned (.bool false) ∧ CkAt w' c bb { e := e, view := view, text := text } ∧ Keep (· = c) w w' := by
  have hok := ok_any c bb f w h
  rw [show (f.e == 0) = true by simpa using hf] at hok
  have h1 := cell_of_blk (o := 1) h rfl
  have h2 := cell_of_blk (o := 2) h rfl
  have h3 := cell_of_blk (o := 3) h rfl
  have h4 := cell_of_blk (o := 4) h rfl
  have h5 := cell_of_blk (o := 5) h rfl
  have h6 := cell_of_blk (o := 6) h rfl
  have h7 := cell_of_blk (o := 7) h rfl
  have fr : ∀ o, w.frozen? ⟨c, o, none⟩ = false := fun o => frozen_of_blk h
  have HC := Lib.hid h
  have HOk := Lib.hid hok
  clear h hf hok
  go_enter Tryz.func13, Tryz.ntmps13
  go_wp2_with fail
  refine HOk.out.mono ?_
  rintro e w' ⟨rfl, rfl⟩
  go_wp2_with fail
  have hs := ck_set HC.out { e := e, view := view, text := text }
  refine bodyPost_ret (v := .bool false) ?_ rfl ⟨rfl, hs⟩
  simp [results, Tryz.results13, go_sem]
set_option maxRecDepth 20000 in
theorem fail_some (c bb : Nat) (f : Pv.Fault) (w : World) (h : CkAt w c bb f) (hf : f.e = 0) (e : Nat) (tb op : Nat) (at_ : Int) (ht : HeadAt w tb op at_) (view : Bool) (text : List UInt8) :
    Calls Tryz.prog 13 #[Ptr c, .int .i64 (e : Int), Ptr tb, .bool view, Str text] w fun en w' => en = .returned (.bool false) ∧ CkAt w' c bb { e := e, op := op, at_ := at_, view := view, text := text } ∧ Keep (· = c) w w' := by
  have hok := ok_any c bb f w h
  rw [show (f.e == 0) = true by simpa using hf] at hok
  have h1 := cell_of_blk (o := 1) h rfl
  have h2 := cell_of_blk (o := 2) h rfl
  have h3 := cell_of_blk (o := 3) h rfl
  have h4 := cell_of_blk (o := 4) h rfl
  have h5 := cell_of_blk (o := 5) h rfl
  have h6 := cell_of_blk (o := 6) h rfl
  have h7 := cell_of_blk (o := 7) h rfl
  have fr : ∀ o, w.frozen? ⟨c, o, none⟩ = false := fun o => frozen_of_blk h
  have hne : tb ≠ c := ht.ne h (by decide)
  have hs := ck_set h { e := e, view := view, text := text }
  have HS := Lib.hid hs
  have HT := Lib.hid ht
  have HOk := Lib.hid hok
  clear h hf hok ht hs
  go_enter Tryz.func13, Tryz.ntmps13
  go_wp2_with fail
  refine HOk.out.mono ?_
  rintro e w' ⟨rfl, rfl⟩
  go_wp2_with fail
  obtain ⟨w2, hw2⟩ : ∃ w2, ((((((((w.setCell ⟨c, 1, none⟩ (.int .i64 (e : Int))).setCell ⟨c, 2, none⟩ (.int .i64 0)).setCell ⟨c, 3, none⟩ (.int .i64 0)).setCell ⟨c, 4, none⟩ (.bool view)).setCell ⟨c, 5, none⟩ (Str text)).setCell ⟨c, 6, none⟩ (.int .i64 0)).setCell ⟨c, 7, none⟩ (.int .i64 0))) = w2 := ⟨_, rfl⟩
  have hs2 : CkAt w2 c bb { e := e, view := view, text := text } ∧ Keep (· = c) w w2 := by rw [← hw2]; exact HS.out
  rw [hw2]
  clear hw2 h1 h2 h3 h4 h5 h6 h7 fr HOk
  have ht2 := HT.out.keep hs2.2 hne
  obtain ⟨cs, hb, t0, t1⟩ := ht2
  have x0 := cell_of_blk (o := 0) hb t0
  have x1 := cell_of_blk (o := 1) hb t1
  have c2 := cell_of_blk (o := 2) hs2.1 rfl
  have c3 := cell_of_blk (o := 3) hs2.1 rfl
  have fr : ∀ o, w2.frozen? ⟨c, o, none⟩ = false := fun o => frozen_of_blk hs2.1
  have HS2 := Lib.hid hs2
  have nf : ¬ (fun _ : Nat => False) tb := fun h => h
  clear hs2 hb t0 t1
  refine Eaq.region (Keep fun _ => False) (.mov 0 (.mov 1 (.mov 2 (.mov 3 (.mov 4 (.mov 5 (.mov 6 (.mov 7 (.mov 8 (.mov 9 (.mov 10 (.mov 11 (.mov 12 (.anc 13 (.mov 14 (.mov 15 (.mov 16 (.anc 17 Eag.Sch.fin)))))))))))))))))) [13, 17] [1] (by kernel_rfl) (by kernel_rfl) (fun K ops hops hK => ?_)
  iterate 13
    first
      | (refine Eaq.mov hops rfl rfl rfl (fun w' hb => ?_) ?_
         · have q0 := Keep.cell hb nf x0; have q1 := Keep.cell hb nf x1; clear hb; go_simp)
      | (refine Eaq.movA hops rfl rfl (fun w' => ?_) ?_
         · go_simp)
    go_simp
  refine Eaq.anc hops rfl rfl ?_
  go_wp2_with fail
  iterate 3
    first
      | (refine Eaq.mov hops rfl rfl rfl (fun w' hb => ?_) ?_
         · clear hb; go_simp)
      | (refine Eaq.movA hops rfl rfl (fun w' => ?_) ?_
         · go_simp)
    go_simp
  refine Eaq.anc hops rfl rfl ?_
  go_wp2_with fail
  refine Eaq.fin (hK _ _ ?_)
  clear hK hops
  go_simp
  go_wp2_with fail
  refine bodyPost_ret (v := .bool false) ?_ rfl ⟨rfl, ?_, ?_⟩
  · simp [results, Tryz.results13, go_sem]
  · have h1 := HS2.out.1
    unfold CkAt at h1 ⊢
    show ((w2.setCell ⟨c, 2, none⟩ _).setCell ⟨c, 3, none⟩ _).heap[c]? = _
    rw [blk_set (blk_set h1)]
    rfl
  · have K : ∀ (W : World) (o : Nat) (v : Value), Keep (· = c) W (W.setCell ⟨c, o, none⟩ v) := fun W o v => Keep.set rfl
    exact (HS2.out.2.trans ((K _ _ _).trans (K _ _ _))).trans (Keep.drew _)
theorem told_true (c bb : Nat) (w : World) (e2 : Int) (tv : Value) (view : Bool) (text : List UInt8) :
    Pure 55 #[Ptr c, .int .i64 0, .int .i64 e2, tv, .bool view, Str text, .bool false] w (.bool true) := by
  go_enter Tryz.func55, Tryz.ntmps55
  go_wp2_with fail
  go_ret
  exact ⟨rfl, rfl⟩
theorem CkAt.ne_bud {w : World} {c bb : Nat} {f : Pv.Fault} {b l u : Nat} (h : CkAt w c bb f) (hb : BudAt w b l u) : c ≠ b := by
  rintro rfl
  have h2 := hb.2
  rw [h] at h2
  cases h2
/-- the blocks that a question turns -/
abbrev askT (c bb : Nat) : Nat → Prop := fun k => k = c ∨ k = bb
end Go.Proofs.YtbimpenhmefpeaaGreatDoor
namespace Go.Proofs.YtbimpenhmefpeaaGreatDoor
open Go.RowKit
variable {H : Nat → Prop}

set_option maxRecDepth 20000 in
set_option maxHeartbeats 2000000 in
theorem dmatch_any (P : Pv.R → Prop) (hP : ∀ r c, P r → P (Pv.by_ c r)) (hPs : ∀ r, P r → Pv.size r ≤ 300000) (r : Pv.R) (hr : P r) (b : Nat) (l : List UInt8) (w : World) (hat : ReAt H w r b) (hH : ∀ h, H h → h < w.heap.size) (hl : l.length < 549755813888) :
    Calls Tryz.prog 24 #[Ptr b, Str l] w fun e w' => e = .returned (.bool (Pv.matchR l r)) ∧ Below w.heap.size w w' := by
  have hconv := run_bytes_of_string (P := Tryz.prog) w 9 113 5 ⟨l.toArray⟩ Tryz.underlying9 Tryz.underlying113 Tryz.underlying5
  have Hconv := Lib.hid hconv
  have HAt := Lib.hid hat
  have HP := Lib.hid hP
  have HPs := Lib.hid hPs
  have HR := Lib.hid hr
  have HH := Lib.hid hH
  clear hconv hat hP hPs hr hH
  go_enter Tryz.func24, Tryz.ntmps24
  go_wp2_with fail
  rw [Hconv.out]
  clear Hconv
  have hsz : (⟨l.toArray⟩ : ByteArray).size = l.length := by simp [ByteArray.size]
  rw [hsz]
  have hcells : ∀ (cap : Nat) (fr : Nat × Nat) (k : Nat) (h : k < l.length), (w.drew.alloc (.cells (bytesRow ⟨l.toArray⟩ cap) 5 fr)).cell? ⟨w.heap.size, k, none⟩ = some (.int .u8 (l[k].toNat : Int)) := fun cap fr k h => by
    refine cell_of_blk (blk_new rfl) ?_
    have := bytesRow_at ⟨l.toArray⟩ cap k (by simpa using h)
    simpa using this
  have hB0 : ∀ (cap : Nat) (fr : Nat × Nat), Below w.heap.size w (w.drew.alloc (.cells (bytesRow ⟨l.toArray⟩ cap) 5 fr)) := fun cap fr => ((Below.refl _ _).drew).alloc (Nat.le_refl _) _
  replace hcells := hcells (grownCap w l.length 0 5) ((bytesRow ⟨l.toArray⟩ (grownCap w l.length 0 5)).size, (bytesRow ⟨l.toArray⟩ (grownCap w l.length 0 5)).size + 1)
  replace hB0 := hB0 (grownCap w l.length 0 5) ((bytesRow ⟨l.toArray⟩ (grownCap w l.length 0 5)).size, (bytesRow ⟨l.toArray⟩ (grownCap w l.length 0 5)).size + 1)
  generalize w.drew.alloc (.cells (bytesRow ⟨l.toArray⟩ (grownCap w l.length 0 5)) 5 ((bytesRow ⟨l.toArray⟩ (grownCap w l.length 0 5)).size, (bytesRow ⟨l.toArray⟩ (grownCap w l.length 0 5)).size + 1)) = w1 at *
  generalize grownCap w l.length 0 5 = cap at *
  have HC := Lib.hid hcells
  have HB0 := Lib.hid hB0
  clear hcells hB0 hsz
  go_simp
  go_wp2_with fail
  go_loopw [0, 10] (fun v i wr => ∃ (k : Nat) (rb : Nat) (rr : Pv.R), k ≤ l.length ∧ v = Ptr rb ∧ i = .int .i64 k ∧ Hid (ReAt H wr rr rb) ∧ Hid (P rr) ∧ Hid (Pv.matchR (l.drop k) rr = Pv.matchR l r) ∧ Hid (Below w.heap.size w wr) ∧ Hid (Below w1.heap.size w1 wr)) (fun _ i _ => (l.length - intOf i).toNat)
  case atStart => exact ⟨0, b, r, by omega, rfl, rfl, HAt.out.later HB0.out, HR.out, rfl, HB0.out, Below.refl _ _⟩
  case round =>
    obtain ⟨k, rb, rr, hk, rfl, rfl, HA, HPr, HM, HB, HB1⟩ := hrel
    by_cases hkn : k < l.length
    · have hc0 := later HB1.out (HC.out k hkn)
      have hdrop := List.drop_eq_getElem_cons hkn
      obtain ⟨c, hc⟩ : ∃ c, l[k] = c := ⟨_, rfl⟩
      rw [hc] at hc0 hdrop
      have hsz := HPs.out rr HPr.out
      have hby := by_any c (Pv.size rr) H rr rb wr (Nat.le_refl _) HA.out (fun h hh => by have := HH.out h hh; have := HB.out.size; omega) hsz
      have hm : (if (Pv.by_ c rr).op = 0 then false else Pv.matchR (l.drop (k + 1)) (Pv.by_ c rr)) = Pv.matchR l r := by
        have := HM.out
        rw [hdrop, Pv.matchR] at this
        exact this
      have HM2 := Lib.hid hm
      have HBy := Lib.hid hby
      have hkn' : (k : Int) < l.length := by omega
      have hk40 : (k : Int) < 1099511627776 := by omega
      clear hdrop hc hm hby HM
      go_wp2_with fail
      refine HBy.out.mono ?_
      rintro e w2 ⟨b2, rfl, hat2, hb2⟩
      obtain ⟨_, _, _, q0, _⟩ := hat2.cells
      have HA2 := Lib.hid hat2
      have HB2 := Lib.hid hb2
      have HP2 := Lib.hid (HP.out rr c HPr.out)
      clear hat2 hb2 HBy hc0
      have hop : ((Pv.by_ c rr).op : Int) = 0 ∨ (Pv.by_ c rr).op ≠ 0 := by
        by_cases h : (Pv.by_ c rr).op = 0
        · exact .inl (by rw [h]; rfl)
        · exact .inr h
      generalize hd : Pv.by_ c rr = d at *
      by_cases h0 : d.op = 0
      · have hm := HM2.out
        rw [if_pos h0] at hm
        rw [h0] at q0
        replace q0 : w2.cell? ⟨b2, 0, none⟩ = some (.int .i64 0) := q0
        have hB : Below w.heap.size w w2 := HB.out.trans (HB2.out.mono HB.out.size)
        have HMf := Lib.hid hm
        have HBf := Lib.hid hB
        clear hm hB h0 hop hd
        go_wp2_with fail
        go_ret
        exact ⟨by rw [← HMf.out]; rfl, HBf.out⟩
      · have hm := HM2.out
        rw [if_neg h0] at hm
        have hne : ((d.op : Int) == 0) = false := by simp; omega
        have HM3 := Lib.hid hm
        have hB : Below w.heap.size w w2 := HB.out.trans (HB2.out.mono HB.out.size)
        have hB1 : Below w1.heap.size w1 w2 := HB1.out.trans (HB2.out.mono HB1.out.size)
        have HBf := Lib.hid hB
        have HBg := Lib.hid hB1
        clear hm hB hB1 h0 hop hd HM2
        go_wp2_with fail
        go_roundw
        case rel => exact ⟨k + 1, b2, d, by omega, rfl, by go_num, HA2.out, HP2.out, HM3.out, HBf.out, HBg.out⟩
        case measure => simp [intOf]; omega
    · have e : k = l.length := by omega
      have hm := HM.out
      rw [e, List.drop_length, Pv.matchR] at hm
      have hnull := null_any rr rb wr HA.out
      rw [hm] at hnull
      have HN := Lib.hid hnull
      clear hm hnull HM
      subst e
      go_wp2_with fail
      refine HN.out.mono ?_
      rintro e w' ⟨rfl, rfl⟩
      go_wp2_with fail
      go_ret
      exact ⟨rfl, HB.out⟩
end Go.Proofs.YtbimpenhmefpeaaGreatDoor
namespace Go.Proofs.YtbimpenhmefpeaaGreatDoor
open Go.RowKit Go.Maps
variable {H : Nat → Prop}

theorem side_not (c bb : Nat) (f : Pv.Fault) (w : World) (h : CkAt w c bb f) (hf : f.e ≠ 0) (x:Nat) :
    Pure 20 #[Ptr c,Ptr x] w (.pointer none) := by
  have hok := ok_any c bb f w h
  rw [show (f.e == 0) = false by simpa using hf] at hok
  clear h
  go_enter Tryz.func20, Tryz.ntmps20
  go_wp2_with fail
  refine hok.mono ?_
  rintro e w' ⟨rfl, rfl⟩
  go_wp2_with fail
  go_ret
  exact ⟨rfl, rfl⟩
/-- a text that is one of an expression's, or not -/
theorem within_any (P : Pv.R → Prop) (hP : ∀ r c, P r → P (Pv.by_ c r)) (hPs : ∀ r, P r → Pv.size r ≤ 300000) (x : Pv.R) (hxP : P x) (text : List UInt8) (bx c bb : Nat) (w : World) (hx : ReAt H w x bx) (hH : ∀ h, H h → h < w.heap.size) (htl : text.length < 549755813888)
    (hc : CkAt w c bb {}) (tb op : Nat) (at_ : Int) (ht : HeadAt w tb op at_) :
    Calls Tryz.prog 18 #[Ptr c, Ptr tb, Str text, Ptr bx] w fun en w' => en = .returned (.bool (Pv.matchR text x)) ∧ CkAt w' c bb (if Pv.matchR text x then {} else { e := 23, op := op, at_ := at_, text := text }) ∧ Keep (· = c) w w' := by
  have hok := ok_any c bb {} w hc
  have hm := dmatch_any (H := H) P hP hPs x hxP bx text w hx hH htl
  have HOk := Lib.hid hok
  have HC := Lib.hid hc
  have HTm := Lib.hid ht
  cases hq : Pv.matchR text x with
  | true =>
    rw [hq] at hm
    have HM := Lib.hid hm
    clear hok hm hc ht hx hH hP hPs hq
    go_enter Tryz.func18, Tryz.ntmps18
    go_wp2_with fail
    refine HOk.out.mono ?_
    rintro e w' ⟨rfl, rfl⟩
    go_wp2_with fail
    refine HM.out.mono ?_
    rintro e w1 ⟨rfl, hb1⟩
    have HB1 := Lib.hid hb1
    clear hb1 HM
    go_wp2_with fail
    go_ret
    exact ⟨rfl, HC.out.later HB1.out, Keep.of_below HB1.out⟩
  | false =>
    rw [hq] at hm
    have HM := Lib.hid hm
    clear hok hm hc ht hx hH hP hPs hq
    go_enter Tryz.func18, Tryz.ntmps18
    go_wp2_with fail
    refine HOk.out.mono ?_
    rintro e w' ⟨rfl, rfl⟩
    go_wp2_with fail
    refine HM.out.mono ?_
    rintro e w1 ⟨rfl, hb1⟩
    have hfail := fail_some c bb {} w1 (HC.out.later hb1) rfl 23 tb op at_ (HTm.out.later hb1) false text
    have HFail := Lib.hid hfail
    have HB1 := Lib.hid hb1
    clear hb1 HM hfail
    go_wp2_with fail
    refine HFail.out.mono ?_
    rintro e w2 ⟨rfl, hc2, hk2⟩
    have HC2 := Lib.hid hc2
    have HK2 := Lib.hid hk2
    clear hc2 hk2 HFail
    go_wp2_with fail
    go_ret
    exact ⟨rfl, HC2.out, (Keep.of_below HB1.out).trans HK2.out⟩
end Go.Proofs.YtbimpenhmefpeaaGreatDoor
