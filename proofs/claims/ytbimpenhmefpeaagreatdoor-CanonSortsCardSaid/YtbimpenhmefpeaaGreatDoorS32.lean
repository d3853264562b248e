/- Plans of terms in memory: how many parts they have. -/
import Derived.Test.YtbimpenhmefpeaaGreatDoorS01
import Derived.Test.YtbimpenhmefpeaaGreatDoorS04
import Derived.Test.YtbimpenhmefpeaaGreatDoorS30
import Derived.Test.YtbimpenhmefpeaaGreatDoorS03
set_option linter.all false
namespace Go.Proofs.YtbimpenhmefpeaaGreatDoor
open Go.RowKit
open Pv (P10)

mutual
/-- a plan's four cells -/
def PlAt (w : World) : P10 → Nat → Nat → Prop
  | .mk o x n ks, blk, off => ∃ (a : Option Addr) (c b' o' : Nat), w.cell? ⟨blk, off, none⟩ = some (.int .i64 o) ∧ w.cell? ⟨blk, off + 1, none⟩ = some (.int .i64 x) ∧ w.cell? ⟨blk, off + 2, none⟩ = some (.int .i64 n) ∧
      w.cell? ⟨blk, off + 3, none⟩ = some (.slice a ks.length c) ∧ (ks ≠ [] → a = some ⟨b', o', none⟩) ∧ ks.length < 9223372036854775808 ∧ PlsAt w ks b' o'
/-- plans, one behind the other -/
def PlsAt (w : World) : List P10 → Nat → Nat → Prop
  | [], _, _ => True
  | p :: ps, blk, off => PlAt w p blk off ∧ PlsAt w ps blk (off + 4)
end
/-- a plan's value -/
def PlV (w : World) (p : P10) (v : Value) : Prop := ∃ (a : Option Addr) (c b' o' : Nat), v = .agg #[.int .i64 p.op, .int .i64 p.w, .int .i64 p.n, .slice a p.kids.length c] ∧ (p.kids ≠ [] → a = some ⟨b', o', none⟩) ∧ p.kids.length < 9223372036854775808 ∧ PlsAt w p.kids b' o'
mutual
theorem PlAt.later {w w' : World} (hb : Below w.heap.size w w') : ∀ {p : P10} {blk off : Nat}, PlAt w p blk off → PlAt w' p blk off
  | .mk o x n ks, blk, off, h => by
    unfold PlAt at *
    obtain ⟨a, c, b', o', h0, h1, h2, h3, h4, h5, h6⟩ := h
    exact ⟨a, c, b', o', Go.Proofs.YtbimpenhmefpeaaGreatDoor.later hb h0, Go.Proofs.YtbimpenhmefpeaaGreatDoor.later hb h1, Go.Proofs.YtbimpenhmefpeaaGreatDoor.later hb h2, Go.Proofs.YtbimpenhmefpeaaGreatDoor.later hb h3, h4, h5, PlsAt.later hb h6⟩
theorem PlsAt.later {w w' : World} (hb : Below w.heap.size w w') : ∀ {ps : List P10} {blk off : Nat}, PlsAt w ps blk off → PlsAt w' ps blk off
  | [], _, _, _ => by unfold PlsAt; trivial
  | p :: ps, _, _, h => by
    unfold PlsAt at *
    exact ⟨PlAt.later hb h.1, PlsAt.later hb h.2⟩
end
theorem PlV.later {w w' : World} (hb : Below w.heap.size w w') {p : P10} {v : Value} (h : PlV w p v) : PlV w' p v := by
  obtain ⟨a, c, b', o', h1, h2, h3, h4⟩ := h
  exact ⟨a, c, b', o', h1, h2, h3, h4.later hb⟩
theorem PlsAt.get {w : World} : ∀ {ps : List P10} {blk off : Nat}, PlsAt w ps blk off → ∀ (i : Nat) (h : i < ps.length), PlAt w ps[i] blk (off + i * 4)
  | [], _, _, _, i, h => by cases h
  | p :: ps, blk, off, h, 0, _ => by
    unfold PlsAt at h
    simpa using h.1
  | p :: ps, blk, off, h, i + 1, hi => by
    unfold PlsAt at h
    have := PlsAt.get h.2 i (by simpa using hi)
    rw [show off + (i + 1) * 4 = off + 4 + i * 4 by omega]
    exact this
/-- the four cells, and the value that they are -/
theorem PlAt.cells {w : World} {p : P10} {blk off : Nat} (h : PlAt w p blk off) : ∃ (a : Option Addr) (c : Nat), w.cell? ⟨blk, off, none⟩ = some (.int .i64 p.op) ∧ w.cell? ⟨blk, off + 1, none⟩ = some (.int .i64 p.w) ∧ w.cell? ⟨blk, off + 2, none⟩ = some (.int .i64 p.n) ∧
    w.cell? ⟨blk, off + 3, none⟩ = some (.slice a p.kids.length c) ∧ PlV w p (.agg #[.int .i64 p.op, .int .i64 p.w, .int .i64 p.n, .slice a p.kids.length c]) := by
  cases p
  unfold PlAt at h
  obtain ⟨a, c, b', o', h0, h1, h2, h3, h4, h5, h6⟩ := h
  exact ⟨a, c, h0, h1, h2, h3, a, c, b', o', rfl, h4, h5, h6⟩
theorem cntGo_drop {ks : List P10} {d m k : Nat} (h : k < ks.length) : P10.cntGo (ks.drop k) d m = if 1000 < m + P10.cnt ks[k] d then m + P10.cnt ks[k] d else P10.cntGo (ks.drop (k + 1)) d (m + P10.cnt ks[k] d) := by
  conv => lhs; rw [List.drop_eq_getElem_cons h]
  rw [P10.cntGo]
theorem cnt_eq (p : P10) (d : Nat) : P10.cnt p d = if 10 < d then 1000 else P10.cntGo p.kids (d + 1) 1 := by cases p; rw [P10.cnt]; rfl
theorem nodes_eq (p : P10) : P10.nodes p = 1 + P10.nodesL p.kids := by cases p; rw [P10.nodes]; rfl
def CntI (p : P10) (d k : Nat) (v : Value) : Prop := ∃ A : Nat, A ≤ 1000 ∧ v = .int .i64 (A : Int) ∧ P10.cntGo (p.kids.drop k) (d + 1) A = P10.cnt p d
set_option maxRecDepth 20000 in
set_option maxHeartbeats 4000000 in
theorem cnt_any : ∀ (m : Nat) (p : P10) (v : Value) (d : Nat) (w : World), P10.nodes p ≤ m → PlV w p v → d ≤ 11 →
    Calls Tryz.prog 73 #[v, .int .i64 (d : Int)] w fun e w' => e = .returned (.int .i64 (P10.cnt p d : Int)) ∧ Below w.heap.size w w'
  | 0, p, _, _, _, hm, _, _ => by have := nodes_eq p; omega
  | m + 1, p, v, d, w, hm, hv, hd => by
    obtain ⟨a, c, b', o', rfl, ha, hkl, hks⟩ := hv
    have hceq := cnt_eq p d
    by_cases hd10 : 10 < d
    · have hd' : (10 : Int) < d := by omega
      rw [if_pos hd10] at hceq
      have HC := Lib.hid hceq
      clear hceq hks
      go_enter Tryz.func73, Tryz.ntmps73
      go_wp2_with fail
      go_ret
      exact ⟨by rw [HC.out]; rfl, (Below.refl _ _).alloc (Nat.le_refl _) _⟩
    · have hd' : ¬ (10 : Int) < d := by omega
      have hd0 : (d : Int) ≤ 10 := by omega
      rw [if_neg hd10] at hceq
      have HC := Lib.hid hceq
      have HN := Lib.hid (nodes_eq p)
      have HM := Lib.hid hm
      have HKs := Lib.hid hks
      have HA := Lib.hid ha
      obtain ⟨n, hn⟩ : ∃ n, p.kids.length = n := ⟨_, rfl⟩
      have HL := Lib.hid hn
      rw [hn] at hkl ⊢
      clear hceq hks hm ha hn
      go_enter Tryz.func73, Tryz.ntmps73
      go_wp2_with fail
      go_loopw [5, 13] (fun v i wr => ∃ (k : Nat), k ≤ n ∧ i = .int .i64 k ∧ CntI p d k v ∧ Hid (Below w.heap.size w wr)) (fun _ i _ => (n - intOf i).toNat)
      case atStart => exact ⟨0, by omega, rfl, ⟨1, by omega, rfl, by rw [HC.out]; rfl⟩, (Below.refl _ _).alloc (Nat.le_refl _) _⟩
      case round =>
        obtain ⟨k, hk, rfl, ⟨A, hA, rfl, hG⟩, HB⟩ := hrel
        have HG := Lib.hid hG
        clear hG
        by_cases hkn : k < n
        · have hkk2 : k < p.kids.length := by rw [HL.out]; exact hkn
          have hne : p.kids ≠ [] := fun e => by rw [e] at hkk2; cases hkk2
          have hae := HA.out hne
          subst hae
          obtain ⟨a', c', c0, c1, c2, c3, hv'⟩ := ((HKs.out.get k hkk2).later HB.out).cells
          have hng := P10.nodes_get hkk2
          have hcd := cntGo_drop (d := d + 1) (m := A) hkk2
          have hcl := P10.cnt_le (p.kids[k]'hkk2) (d + 1) (by omega)
          have hcall := fun (W : World) (hb : Below wr.heap.size wr W) => cnt_any m (p.kids[k]'hkk2) _ (d + 1) W (by have := HM.out; have := HN.out; omega) (hv'.later hb) (by omega)
          rw [HG.out] at hcd
          obtain ⟨B, hB⟩ : ∃ B, P10.cnt (p.kids[k]'hkk2) (d + 1) = B := ⟨_, rfl⟩
          rw [hB] at hcd hcl
          simp only [hB] at hcall
          generalize p.kids[k]'hkk2 = q at *
          obtain ⟨o1, x1, n1, ks1⟩ := q
          simp only [P10.op, P10.w, P10.n, P10.kids] at c0 c1 c2 c3 hcall
          have hcall1 := hcall (wr.alloc (.cells #[.int .i64 o1, .int .i64 x1, .int .i64 n1, .slice a' ks1.length c'] 74)) ((Below.refl _ _).alloc (Nat.le_refl _) _)
          have HCall := Lib.hid hcall1
          have HCd := Lib.hid hcd
          have hk' : (k : Int) < n := by omega
          have hk40 : (k : Int) < 9223372036854775807 := by omega
          have hA' : (A : Int) ≤ 1000 := by omega
          have hB' : (B : Int) ≤ 12000 := by omega
          clear hcall hcall1 hcd hng hv' hB hcl
          go_wp2_with fail
          refine HCall.out.mono ?_
          rintro e w1 ⟨rfl, hb1⟩
          have HB1 := Lib.hid (HB.out.trans (((Below.refl _ wr).alloc (Nat.le_refl _) _).trans (hb1.mono (by simp)) |>.mono HB.out.size))
          clear hb1 HCall c0 c1 c2 c3
          by_cases hgt : 1000 < A + B
          · have hgt' : (1000 : Int) < A + B := by omega
            have HE := HCd.out
            rw [if_pos hgt] at HE
            have HE2 := Lib.hid HE
            clear HE
            go_wp2_with fail
            go_ret
            exact ⟨by rw [HE2.out, Int.natCast_add]; rfl, HB1.out⟩
          · have hgt' : ¬ (1000 : Int) < A + B := by omega
            have HE := HCd.out
            rw [if_neg hgt] at HE
            have HE2 := Lib.hid HE
            have hgs : decide ((1000 : Int) < (A : Int) + (B : Int)) = false := decide_eq_false hgt'
            clear HE hgt'
            go_wp2_with fail
            go_roundw
            case rel => exact ⟨k + 1, by omega, by go_num, ⟨A + B, by omega, by go_num, HE2.out.symm⟩, HB1.out⟩
            case measure => simp [intOf]; omega
        · have hkn2 : ¬ ((k : Int) < n) := by omega
          have HE := Lib.hid (show P10.cnt p d = A by
            rw [← HG.out, show k = p.kids.length by have := HL.out; omega, List.drop_length, P10.cntGo])
          go_wp2_with fail
          go_ret
          exact ⟨by rw [HE.out]; rfl, HB.out⟩
theorem few_any (p : P10) (v : Value) (w : World) (hv : PlV w p v) : Calls Tryz.prog 34 #[v] w fun e w' => e = .returned (.bool (decide (P10.cnt p 0 ≤ 30))) ∧ Below w.heap.size w w' := by
  have hcall := fun (W : World) (hb : Below w.heap.size w W) => cnt_any _ p v 0 W (Nat.le_refl _) (hv.later hb) (by omega)
  obtain ⟨B, hB⟩ : ∃ B, P10.cnt p 0 = B := ⟨_, rfl⟩
  have hbe : ((B : Int) ≤ 30) = (B ≤ 30) := by rw [eq_iff_iff]; omega
  simp only [hB] at hcall
  rw [hB]
  obtain ⟨a, c, b', o', rfl, ha, hkl, hks⟩ := hv
  have HCall := Lib.hid (hcall _ ((Below.refl _ _).alloc (Nat.le_refl _) (.cells #[.int .i64 p.op, .int .i64 p.w, .int .i64 p.n, .slice a p.kids.length c] 74)))
  clear hcall ha hks hB
  by_cases h30 : B ≤ 30
  · have h30' : (B : Int) ≤ 30 := by omega
    rw [decide_eq_true h30]
    go_enter Tryz.func34, Tryz.ntmps34
    go_wp2_with fail
    refine HCall.out.mono ?_
    rintro e w1 ⟨rfl, hb1⟩
    have HB1 := Lib.hid (((Below.refl _ w).alloc (Nat.le_refl _) _).trans (hb1.mono (by simp)))
    clear hb1
    go_wp2_with fail
    go_ret
    exact ⟨rfl, HB1.out⟩
  · have h30' : ¬ (B : Int) ≤ 30 := by omega
    rw [decide_eq_false h30]
    go_enter Tryz.func34, Tryz.ntmps34
    go_wp2_with fail
    refine HCall.out.mono ?_
    rintro e w1 ⟨rfl, hb1⟩
    have HB1 := Lib.hid (((Below.refl _ w).alloc (Nat.le_refl _) _).trans (hb1.mono (by simp)))
    clear hb1
    go_wp2_with fail
    go_ret
    exact ⟨rfl, HB1.out⟩
end Go.Proofs.YtbimpenhmefpeaaGreatDoor
namespace Go.Proofs.YtbimpenhmefpeaaGreatDoor
open Go.RowKit
open Pv (P10)
variable {H : Nat → Prop}

def opN (p : P10) : Nat := 2 + ((p.op % 18446744073709551616) % 16).toNat
theorem opN_le (p : P10) : 2 ≤ opN p ∧ opN p ≤ 17 := by unfold opN; omega
theorem opN_wrap (p : P10) : IntKind.i64.wrap (2 + wrap64 ((IntKind.u64.wrap p.op).tmod 16)) = (opN p : Int) := by
  have h1 : IntKind.u64.wrap p.op = p.op % 18446744073709551616 := by simp [IntKind.wrap, IntKind.bits, IntKind.signed]
  rw [h1, Int.tmod_eq_emod_of_nonneg (by omega)]
  unfold opN
  have h2 : wrap64 (p.op % 18446744073709551616 % 16) = p.op % 18446744073709551616 % 16 := by
    unfold wrap64
    omega
  rw [h2, IntKind.wrap_i64] <;> omega
theorem op10_any (p : P10) (v : Value) (w : World) (hv : PlV w p v) : Calls Tryz.prog 74 #[v] w fun e w' => e = .returned (.int .i64 (opN p : Int)) ∧ Below w.heap.size w w' := by
  obtain ⟨a, c, b', o', rfl, ha, hkl, hks⟩ := hv
  have hw := opN_wrap p
  clear ha hks
  go_enter Tryz.func74, Tryz.ntmps74
  go_wp2_with fail
  go_ret
  exact ⟨rfl, (Below.refl _ _).alloc (Nat.le_refl _) _⟩
def t10Ix (n : Int) : Nat := ((n % 18446744073709551616) % 7).toNat
theorem t10Ix_lt (n : Int) : t10Ix n < 7 := by unfold t10Ix; omega
theorem t10_wrap (n : Int) : wrap64 ((IntKind.u64.wrap n).tmod 7) = (t10Ix n : Int) := by
  have h1 : IntKind.u64.wrap n = n % 18446744073709551616 := by simp [IntKind.wrap, IntKind.bits, IntKind.signed]
  rw [h1, Int.tmod_eq_emod_of_nonneg (by omega)]
  unfold t10Ix
  have h2 : wrap64 (n % 18446744073709551616 % 7) = n % 18446744073709551616 % 7 := by
    unfold wrap64
    omega
  rw [h2]
  omega
abbrev t10C : Array Value := #[Str [], Str [97], Str [98], Str [97, 98], Str [120, 59, 121], Str [34, 113, 34], Str [10]]
theorem text10_any (n : Int) (w : World) : Calls Tryz.prog 76 #[.int .i64 n] w fun e w' => (∃ l : List UInt8, e = .returned (Str l) ∧ l.length ≤ 9) ∧ Below w.heap.size w w' := by
  have hix := t10_wrap n
  have hlt := t10Ix_lt n
  have hsel : ∃ l : List UInt8, (w.alloc (.cells t10C 9)).cell? ⟨w.heap.size, t10Ix n, none⟩ = some (Str l) ∧ l.length ≤ 9 := by
    generalize t10Ix n = k at hlt ⊢
    match k, hlt with
    | 0, _ => exact ⟨_, cell_of_blk (o := 0) (blk_new rfl) rfl, by decide⟩
    | 1, _ => exact ⟨_, cell_of_blk (o := 1) (blk_new rfl) rfl, by decide⟩
    | 2, _ => exact ⟨_, cell_of_blk (o := 2) (blk_new rfl) rfl, by decide⟩
    | 3, _ => exact ⟨_, cell_of_blk (o := 3) (blk_new rfl) rfl, by decide⟩
    | 4, _ => exact ⟨_, cell_of_blk (o := 4) (blk_new rfl) rfl, by decide⟩
    | 5, _ => exact ⟨_, cell_of_blk (o := 5) (blk_new rfl) rfl, by decide⟩
    | 6, _ => exact ⟨_, cell_of_blk (o := 6) (blk_new rfl) rfl, by decide⟩
    | k + 7, h => omega
  obtain ⟨l, hx, hl⟩ := hsel
  generalize t10Ix n = k at *
  have hk0 : (0:Int) ≤ k := by omega
  have hk1 : (k:Int) < 7 := by omega
  go_enter Tryz.func76, Tryz.ntmps76
  go_wp2_with fail
  go_ret
  exact ⟨⟨l, rfl, hl⟩, (Below.refl _ _).alloc (Nat.le_refl _) _⟩
end Go.Proofs.YtbimpenhmefpeaaGreatDoor
namespace Go.Proofs.YtbimpenhmefpeaaGreatDoor
open Go.RowKit Go.Maps
variable {H : Nat → Prop}

theorem info_tp : (Tryz.prog.info? 25).map (fun i => (i.zero, i.size, i.bytes)) = some (some (.pointer none), 1, 8) := by kernel_rfl
/-- a term of two kids, made new -/
structure LofP (w w' : World) (op tb ta tn : Nat) : Prop where
  new : w.heap.size ≤ tb
  ex : ∃ ka kc, w.heap.size ≤ ka ∧ TermAt w' tb op 0 [] (.pointer none) [] [] (.slice (some ⟨ka, 0, none⟩) 2 kc) ∧ w'.cell? ⟨ka, 0, none⟩ = some (Ptr ta) ∧ w'.cell? ⟨ka, 1, none⟩ = some (Ptr tn)
  bel : Below w.heap.size w w'
set_option maxRecDepth 20000 in
theorem lof_any (op ta tn g c : Nat) (w : World) (hs : Sl w (some ⟨g, 0, none⟩) c [Ptr ta, Ptr tn]) :
    Calls Tryz.prog 46 #[.int .i64 (op : Int), .slice (some ⟨g, 0, none⟩) 2 c] w fun e w' => ∃ tb, e = .returned (Ptr tb) ∧ LofP w w' op tb ta tn := by
  obtain ⟨i0, hi, hz0, hz1, hz2⟩ := info_parts info_tp
  have HS := Lib.hid hs
  clear hs
  go_enter Tryz.func46, Tryz.ntmps46
  go_wp2_with (at_builtin; refine appS 28 25 i0 _ 8 Tryz.underlying28 hi hz0 hz1 hz2 rfl (by omega) rfl _ _ rfl w.heap.size _ [] rfl (Row.nil _ _ _) _ _ _ [Ptr ta, Ptr tn] rfl rfl HS.out ?c1 ?c2 (Nat.le_refl _) ?c3)
  case c1 =>
    intro u hu
    simp at hu
    rcases hu with rfl | rfl <;> rfl
  case c2 => simp
  case c3 =>
    intro v1 w1 hr1 hb1 hg1
    obtain ⟨a1, c1, ev1, hs1, ho1⟩ := hr1.form
    simp only [List.nil_append, List.length_cons, List.length_nil, Nat.zero_add] at ev1
    obtain ⟨ka, rfl, hka1, hka2⟩ := ho1 (by simp)
    subst ev1
    obtain ⟨b0, o0, f0, f1⟩ := hs1.cell 0 (by simp)
    injection f0 with f0
    obtain ⟨b2, o2, f2, f3⟩ := hs1.cell 1 (by simp)
    injection f2 with f2
    injection f0 with f0 f0'
    injection f2 with f2 f2'
    subst f0 f0' f2 f2'
    simp only [Nat.add_zero, Nat.zero_add, List.nil_append, List.getElem_cons_zero, List.getElem_cons_succ] at f1 f3
    have F1 := Lib.hid f1
    have F3 := Lib.hid f3
    have HB1 := Lib.hid hb1
    have hz := hb1.size
    clear f1 f3 hb1 hr1 hs1 ho1 hg1 HS
    go_wp2_with fail
    have hb2 : Below w1.heap.size w1 (w1.alloc (.cells (termC op 0 [] (.pointer none) [] [] (.slice (some ⟨ka, 0, none⟩) 2 c1)) 30)) := (Below.refl _ _).alloc (Nat.le_refl _) _
    refine bodyPost_ret (v := Ptr w1.heap.size) ?_ rfl ⟨w1.heap.size, rfl, hz, ⟨ka, c1, hka1, blk_new rfl, later hb2 F1.out, later hb2 F3.out⟩, HB1.out.alloc hz _⟩
    simp [results, Tryz.results46, go_sem]
end Go.Proofs.YtbimpenhmefpeaaGreatDoor
namespace Go.Proofs.YtbimpenhmefpeaaGreatDoor
open Go.RowKit Go.Maps
variable {H : Nat → Prop}

/-- the canonizer that Make gives -/
def CanQ (r bb tb : Nat) (k : Nat) (w : World) : Prop := ∃ k1 k2 ka kc ta tn sa sb s1 SA SB S1, CatAt w k k1 k2 ka kc tb ta tn sa sb s1 [97] ∧ SideAt (fun x => x = bb ∨ x = r) w SA sa ∧ SideAt (fun x => x = bb ∨ x = r) w SB sb ∧ SideAt (fun x => x = bb ∨ x = r) w S1 s1 ∧ SA.Ok ∧ SB.Ok ∧ S1.Ok ∧ Pv.places SA SB [120, 98, 98] = [1] ∧ S1.fore.accepts [120, 98, 98] = true
theorem cell_lt {w : World} {b o : Nat} {v : Value} (h : w.cell? ⟨b, o, none⟩ = some v) : b < w.heap.size := World.block_lt_of_cell? w _ h
set_option maxRecDepth 20000 in
theorem head_make (ta tn tb rb1 rb2 ka0 kc0 bb u : Nat) (w : World) (hT : Tab w)
    (ht1 : TermAt w ta 16 0 [] (Ptr rb1) [] [] (.slice none 0 0)) (ht2 : TermAt w tn 17 0 [] (Ptr rb2) [97] [] (.slice none 0 0)) (ht3 : TermAt w tb 8 0 [] (.pointer none) [] [] (.slice (some ⟨ka0, 0, none⟩) 2 kc0)) (hs0 : w.cell? ⟨ka0, 0, none⟩ = some (Ptr ta)) (hs1 : w.cell? ⟨ka0, 1, none⟩ = some (Ptr tn)) (hka : ka0 ≠ bb)
    (hr1 : ReAt (· = bb) w Pv.hR1 rb1) (hr2 : ReAt (· = bb) w Pv.hR2 rb2) (hbud : BudAt w bb 500 u) :
    Calls Tryz.prog 27 #[Ptr tb, Ptr bb] w fun e w' => ∃ k, e = .returned (.tuple #[Ptr k, F0]) ∧ CanQ w.heap.size bb tb k w' ∧ Keep (· = bb) w w' := by
  have hbw := blk_lt hbud.2
  refine make_any tb bb w (CanQ w.heap.size bb tb) ?_ ?_ hbw
  · intro k w1 w2 cs ⟨k1, k2, ka, kc, ta', tn', sa, sb, s1, SA, SB, S1, hc, ha, hb, h1, o1, o2, o3, o4, o5⟩ hr h0 hk
    have hne : ka ≠ w.heap.size := by
      rintro rfl
      have h3 := cell_of_blk hr h0
      rw [hc.c0] at h3
      cases h3
    have hsd : ∀ {S : Pv.Side} {s : Nat}, SideAt (fun x => x = bb ∨ x = w.heap.size) w1 S s → SideAt (fun x => x = bb ∨ x = w.heap.size) w2 S s := fun h => h.keepT hk (fun x e => .inl (.inr e)) (fun x e cs' fr => by rw [e]; exact blk_ty hr (by decide))
    exact ⟨k1, k2, ka, kc, ta', tn', sa, sb, s1, SA, SB, S1, hc.keep hk (fun x e => by rw [e]; exact ⟨_, _, _, hr, by decide, by decide⟩) (fun h => hne h), hsd ha, hsd hb, hsd h1, o1, o2, o3, o4, o5⟩
  · intro w1 c hb1 hc1 hcl
    have hwid : ∀ x, (x = bb ∨ x = w.heap.size) → (x = bb) ∨ w.heap.size ≤ x := fun x e => by
      rcases e with e | e
      · exact .inl e
      · exact .inr (by omega)
    have hc1l := blk_lt hc1
    obtain ⟨SA, eA⟩ := Pv.some_get Pv.h_f1 Pv.h_e1
    obtain ⟨XA, eXA⟩ := Pv.some_get Pv.h_f2 Pv.h_e2
    obtain ⟨SB, eB⟩ := Pv.some_get Pv.h_f3 Pv.h_e3
    obtain ⟨XB, eXB⟩ := Pv.some_get Pv.h_f4 Pv.h_e4
    obtain ⟨S1, e7⟩ := Pv.some_get Pv.h_f7 Pv.h_e7
    obtain ⟨S2, e8⟩ := Option.isSome_iff_exists.1 Pv.h_f8
    have e5 := Pv.pair_get Pv.h_e5 Pv.h_f5
    have e6 := Pv.pair_get Pv.h_e6 Pv.h_f6
    have hca := canon_head (H := fun x => x = bb ∨ x = w.heap.size) (· ∈ Pv.hL) (fun r c hr => Pv.closedL_by Pv.hL_closed c hr) Pv.hL_size Pv.hR1 Pv.hR2 (by simp [Pv.hL]) tb ta tn rb1 rb2 ka0 kc0 c bb 500 u 0 0 0 [] [] [] [] [] [97] [] [] [] (.pointer none) w1 (hT.later hb1) (later_blk hb1 ht1) (later_blk hb1 ht2) (later_blk hb1 ht3) (later hb1 hs0) (later hb1 hs1) hka
      ((hr1.widen hwid).later hb1) ((hr2.widen hwid).later hb1) (by simp) Pv.h_match (hbud.later hb1) (.inl rfl) (fun h e => by rcases e with e | e <;> omega) Pv.h_size (by omega) hc1 SA XA SB XB S1 S2 494 488 484 478 470 461 455 eA eXA eB eXB e5 e6 e7 e8 (by omega) (Pv.headsSum_le Pv.h_d1) (Pv.headsSum_le Pv.h_d2)
    refine hca.mono ?_
    rintro e w2 ⟨k, k1, k2, ka, kc, wv, cv, v1, v2, v3, v4, cb2, sa, sb, s1, rfl, hk, hx, hk0, hk1, hx1, ⟨v5, v6, hx2⟩, ha, hb, h1, o1, o2, o3, hkp⟩
    have hnt : ∀ {b : Nat} {cs : Array Value}, w1.heap[b]? = some (.cells cs 30) → ¬ b = bb := fun h e => by
      rw [e, (hbud.later hb1).2] at h
      cases h
    refine ⟨k, rfl, ⟨k1, k2, ka, kc, ta, tn, sa, sb, s1, SA, SB, S1, ⟨⟨_, _, _, hx⟩, hk0, hk1, ⟨_, _, _, _, hx1⟩, ⟨_, _, _, _, hx2⟩, ⟨_, _, _, _, _, _, hkp.blk (hnt (later_blk hb1 ht3)) (later_blk hb1 ht3)⟩, ⟨_, _, _, _, _, _, hkp.blk (hnt (later_blk hb1 ht1)) (later_blk hb1 ht1)⟩, ⟨_, _, _, _, _, hkp.blk (hnt (later_blk hb1 ht2)) (later_blk hb1 ht2)⟩⟩, ha, hb, h1, o1, o2, o3, ?_, ?_⟩, hkp⟩
    · have := Pv.h_places
      rw [eA, eB] at this
      injection this
    · have := Pv.h_accepts
      rw [e7] at this
      injection this
end Go.Proofs.YtbimpenhmefpeaaGreatDoor
namespace Go.Proofs.YtbimpenhmefpeaaGreatDoor
open Go.RowKit Go.Maps
variable {H : Nat → Prop}

theorem ab_any (g : Nat) (w : World) (h : w.heap[g]? = some (.cells #[.int .u8 97, .int .u8 98] 5)) : GivesSet 45 #[.slice (some ⟨g, 0, none⟩) 2 2] w (Pv.S4.of [97, 98]) :=
  of_any [97, 98] (some ⟨g, 0, none⟩) 2 w (Sl.of_blk2 h) (by decide)
set_option maxRecDepth 20000 in
set_option maxHeartbeats 1000000 in
theorem head_any (w : World) (hT : Tab w) : Calls Tryz.prog 6 #[] w fun e w' => e = .returned (.bool true) ∧ Keep (fun _ => False) w w' := by
  have HT := Lib.hid hT
  clear hT
  go_enter Tryz.func6, Tryz.ntmps6
  go_wp2_with fail
  obtain ⟨w1, hw1⟩ : ∃ w1, w.alloc (.cells #[.int .u8 97, .int .u8 98] 5) = w1 := ⟨_, rfl⟩
  have hb1 : Below w.heap.size w w1 := by rw [← hw1]; exact (Below.refl _ _).alloc (Nat.le_refl _) _
  have hg1 : w1.heap[w.heap.size]? = some (.cells #[.int .u8 97, .int .u8 98] 5) := by rw [← hw1]; exact blk_new rfl
  rw [hw1]
  clear hw1
  refine (ab_any _ w1 hg1).mono ?_
  rintro e w2 ⟨rfl, hb2⟩
  have h02 := hb1.trans (hb2.mono hb1.size)
  clear hg1 hb1 hb2
  go_wp2_with fail
  refine (one_any (H := fun _ => False) (Pv.S4.of [97, 98]) w2 (fun _ h => h.elim)).mono ?_
  rintro e w3 ⟨ro, rfl, hro, hb3⟩
  go_wp2_with fail
  refine (many_any (H := fun _ => False) (Pv.one (Pv.S4.of [97, 98])) ro w3 hro (fun _ h => h.elim) (by decide +kernel)).mono ?_
  rintro e w4 ⟨rb2, rfl, hr2, hb4⟩
  have h04 := (h02.trans (hb3.mono h02.size)).trans (hb4.mono (Nat.le_trans h02.size hb3.size))
  have H4 := Lib.hid h04
  have HR2 := Lib.hid hr2
  clear h04 h02 hb3 hb4 hr2 hro
  go_wp2_with fail
  obtain ⟨tn, htn⟩ : ∃ n, w4.heap.size = n := ⟨_, rfl⟩
  obtain ⟨w5, hw5⟩ : ∃ w5, w4.alloc (.cells #[.int .i64 17, .int .i64 0, Str [], Ptr rb2, Str [97], Str [], .slice none 0 0] 30) = w5 := ⟨_, rfl⟩
  have hb5 : Below w4.heap.size w4 w5 := by rw [← hw5]; exact (Below.refl _ _).alloc (Nat.le_refl _) _
  have ht5 : TermAt w5 tn 17 0 [] (Ptr rb2) [97] [] (.slice none 0 0) := by rw [← hw5]; exact blk_new htn
  rw [hw5, htn]
  clear hw5
  have HT5 := Lib.hid ht5
  have HB5 := Lib.hid hb5
  have hz5 := hb5.size
  have h5 := H4.out.trans (hb5.mono H4.out.size)
  have H5 := Lib.hid h5
  clear ht5 hb5 h5
  refine (word_any (H := fun _ => False) [120] w5 (fun _ h => h.elim) (by decide)).mono ?_
  rintro e w6 ⟨rb1, rfl, hr1, hb6⟩
  have HR1 := Lib.hid hr1
  have HB6 := Lib.hid hb6
  have H6 := Lib.hid (H5.out.trans (hb6.mono H5.out.size))
  clear hr1 hb6
  go_wp2_with fail
  obtain ⟨ta, hta⟩ : ∃ n, w6.heap.size = n := ⟨_, rfl⟩
  obtain ⟨g, hg⟩ : ∃ n, ta + 1 = n := ⟨_, rfl⟩
  obtain ⟨w7, hw7⟩ : ∃ w7, (w6.alloc (.cells #[.int .i64 16, .int .i64 0, Str [], Ptr rb1, Str [], Str [], .slice none 0 0] 30)).alloc (.cells #[Ptr ta, Ptr tn] 25) = w7 := ⟨_, rfl⟩
  have hb7 : Below w6.heap.size w6 w7 := by rw [← hw7]; exact ((Below.refl _ _).alloc (Nat.le_refl _) _).alloc (by simp) _
  have ht7 : TermAt w7 ta 16 0 [] (Ptr rb1) [] [] (.slice none 0 0) := by rw [← hw7]; exact blk_old (blk_new hta)
  have hg7 : w7.heap[g]? = some (.cells #[Ptr ta, Ptr tn] 25) := by rw [← hw7]; exact blk_new (by simp; omega)
  rw [hta, hg, hw7]
  clear hw7
  have HB7 := Lib.hid hb7
  have HT7 := Lib.hid ht7
  have hlof := lof_any 8 ta tn g 2 w7 (Sl.of_blk2 hg7)
  have HLof := Lib.hid hlof
  have H7 := Lib.hid (H6.out.trans (hb7.mono H6.out.size))
  clear hb7 ht7 hg7 hlof
  refine HLof.out.mono ?_
  rintro e w8 ⟨tb, rfl, hl8⟩
  have HL8 := Lib.hid hl8
  have H8 := Lib.hid (H7.out.trans (hl8.bel.mono H7.out.size))
  clear hl8 HLof
  go_wp2_with fail
  refine (grant_any 500 (by decide) w8).mono ?_
  rintro e w9 ⟨rfl, hbud, hb9, hl9⟩
  obtain ⟨bb, hbb⟩ : ∃ n, w8.heap.size = n := ⟨_, rfl⟩
  rw [hbb] at hbud ⊢
  obtain ⟨ka, kc, hka, ht8, hc0, hc1⟩ := HL8.out.ex
  have hkal := cell_lt hc0
  have b78 : Below w7.heap.size w7 w9 := HL8.out.bel.trans (hb9.mono HL8.out.bel.size)
  have b68 : Below w6.heap.size w6 w8 := HB7.out.trans (HL8.out.bel.mono HB7.out.size)
  have b48 : Below w4.heap.size w4 w8 := (HB5.out.trans (HB6.out.mono HB5.out.size)).trans (b68.mono (by have := HB5.out.size; have := HB6.out.size; omega))
  have b59 : Below w5.heap.size w5 w9 := (HB6.out.trans (b68.mono HB6.out.size)).trans (hb9.mono (by have := HB6.out.size; have := b68.size; omega))
  have hwd : ∀ {r : Pv.R} {b : Nat}, ReAt (fun _ => False) w8 r b → ReAt (· = bb) w9 r b := fun h => (h.widen fun x e => .inr (by omega)).later hb9
  have hmk := head_make ta tn tb rb1 rb2 ka kc bb 0 w9 (HT.out.later (H8.out.trans (hb9.mono H8.out.size))) (later_blk b78 HT7.out) (later_blk b59 HT5.out) (later_blk hb9 ht8) (later hb9 hc0) (later hb9 hc1) (by omega) (hwd (HR1.out.later b68)) (hwd (HR2.out.later b48)) hbud
  have HMk := Lib.hid hmk
  have H9 := Lib.hid (H8.out.trans (hb9.mono H8.out.size))
  have hbbw : w.heap.size ≤ bb := by have := H8.out.size; omega
  clear hbud hb9 ht8 hc0 hc1 b78 b68 b48 b59 hwd hmk hkal hka
  go_wp2_with fail
  refine HMk.out.mono ?_
  rintro e wa ⟨k, rfl, hq, hka⟩
  have HQ := Lib.hid hq
  have HKa : Hid (Keep (fun _ => False) w wa) := (Keep.of_below H9.out).trans_ hka fun x e => .inr (by rw [e]; exact hbbw)
  have hbba : bb < wa.heap.size := by have := hka.size; omega
  clear hq hka HMk HT5 HB5 HB6 HT7 HB7 HL8 H8 H7 H6 H5 H4 HR1 HR2
  go_wp2_with fail
  obtain ⟨r, hr⟩ : ∃ n, wa.heap.size = n := ⟨_, rfl⟩
  obtain ⟨wb, hwb⟩ : ∃ wb, wa.alloc (.cells #[.int .i64 0, .int .i64 0, .int .i64 0, .bool false, Str [], .int .i64 0, .int .i64 0] 36) = wb := ⟨_, rfl⟩
  have hbb1 : Below wa.heap.size wa wb := by rw [← hwb]; exact (Below.refl _ _).alloc (Nat.le_refl _) _
  rw [hr, hwb]
  clear hwb
  refine (fill_any 500 (by decide) wb).mono ?_
  rintro e wc ⟨rfl, hf, hbc, hlc⟩
  obtain ⟨fb, hfb⟩ : ∃ n, wb.heap.size = n := ⟨_, rfl⟩
  rw [hfb] at hf ⊢
  obtain ⟨k1, k2, kb, kc', ta', tn', sa, sb, s1, SA, SB, S1, hc, ha, hb, h1, o1, o2, o3, o4, o5⟩ := HQ.out
  have hab : Below wa.heap.size wa wc := hbb1.trans (hbc.mono hbb1.size)
  have hwd : ∀ {S : Pv.Side} {s : Nat}, SideAt (fun x => x = bb ∨ x = w9.heap.size) wa S s → SideAt (· = fb) wc S s := fun h => (h.widen (H' := (· = fb)) fun x e => .inr (by have := hbb1.size; omega)).later hab
  have hkbl := cell_lt hc.c0
  have hcn := canonize_cat (H := (· = fb)) SA SB S1 o1 o2 o3 fb k k1 k2 kb kc' tb ta' tn' sa sb s1 [97] [120, 98, 98] ⟨500, 0⟩ wc (hc.later hab) (hwd ha) (hwd hb) (hwd h1) hf rfl (by have := hbb1.size; omega) (by have := hab.size; omega) (by decide) (by decide) 1 o4 o5 (by decide)
  have HCn := Lib.hid hcn
  have HKc : Hid (Keep (fun _ => False) w wc) := HKa.out.trans (Keep.of_below hab)
  have hfw : w.heap.size ≤ fb := by have := HKa.out.size; have := hbb1.size; omega
  clear hf hbc hab hwd hc ha hb h1 hcn HQ HKa hbb1 o1 o2 o3 o4 o5
  go_wp2_with fail
  refine HCn.out.mono ?_
  rintro e wd ⟨rfl, hkd⟩
  have HKd : Hid (Keep (fun _ => False) w wd) := HKc.out.trans_ hkd fun x e => .inr (by rw [e]; exact hfw)
  clear hkd HCn HKc
  go_wp2_with fail
  go_ret
  exact ⟨rfl, HKd.out⟩
end Go.Proofs.YtbimpenhmefpeaaGreatDoor
namespace Go.Proofs.YtbimpenhmefpeaaGreatDoor
open Go.RowKit Go.Maps
variable {H : Nat → Prop}

theorem res2 {w : World} {r1 r2 : Pv.R} {x y : Nat} (h1 : ReAt H w r1 x) (h2 : ReAt H w r2 y) : ResAt H w [r1, r2] [x, y] := by
  unfold ResAt
  refine ⟨x, [y], rfl, h1, ?_⟩
  unfold ResAt
  refine ⟨y, [], rfl, h2, ?_⟩
  exact ResAt.nil
end Go.Proofs.YtbimpenhmefpeaaGreatDoor
namespace Go.Proofs.YtbimpenhmefpeaaGreatDoor
open Go.RowKit Go.Maps
variable {H : Nat → Prop}

theorem ex_ix9 (n : Int) : wrap64 ((IntKind.u64.wrap n).tmod 9) = (Pv.e10Ix n : Int) := by
  have h1 : IntKind.u64.wrap n = n % 18446744073709551616 := by simp [IntKind.wrap, IntKind.bits, IntKind.signed]
  rw [h1, Int.tmod_eq_emod_of_nonneg (by omega)]
  unfold Pv.e10Ix
  have h2 : wrap64 (n % 18446744073709551616 % 9) = n % 18446744073709551616 % 9 := by
    unfold wrap64
    omega
  rw [h2]
  omega
set_option maxRecDepth 20000 in
set_option maxHeartbeats 1000000 in
theorem expr10_any (n : Int) (w : World) (hH : ∀ h, H h → h < w.heap.size) : Calls Tryz.prog 75 #[.int .i64 n] w fun e w' => ∃ b, e = .returned (Ptr b) ∧ ReAt H w' (Pv.e10Of n) b ∧ Below w.heap.size w w' := by
  have HB := Lib.hid (Below.refl w.heap.size w)
  have HH := Lib.hid hH
  clear hH
  go_enter Tryz.func75, Tryz.ntmps75
  go_wp2_with fail
  refine (word_any (H := H) [97] w (fun h hh => by have h1 := HH.out h hh; have h2 := HB.out.size; omega) (by decide)).mono ?_
  rintro e w1 ⟨a, rfl, hr, hb⟩
  have HB := Lib.hid (HB.out.trans (hb.mono HB.out.size))
  have Ra := Lib.hid hr
  clear hr hb
  go_wp2_with fail
  refine (word_any (H := H) [98] w1 (fun h hh => by have h1 := HH.out h hh; have h2 := HB.out.size; omega) (by decide)).mono ?_
  rintro e w2 ⟨b, rfl, hr, hb⟩
  have Ra := Lib.hid (Ra.out.later hb)
  have HB := Lib.hid (HB.out.trans (hb.mono HB.out.size))
  have Rb := Lib.hid hr
  clear hr hb
  go_wp2_with fail
  refine (word_any (H := H) [97, 98] w2 (fun h hh => by have h1 := HH.out h hh; have h2 := HB.out.size; omega) (by decide)).mono ?_
  rintro e w3 ⟨ab, rfl, hr, hb⟩
  have Ra := Lib.hid (Ra.out.later hb)
  have Rb := Lib.hid (Rb.out.later hb)
  have HB := Lib.hid (HB.out.trans (hb.mono HB.out.size))
  have Rab := Lib.hid hr
  clear hr hb
  go_wp2_with fail
  refine (many_any (H := H) (Pv.word [97]) a w3 Ra.out (fun h hh => by have h1 := HH.out h hh; have h2 := HB.out.size; omega) (by decide +kernel)).mono ?_
  rintro e w4 ⟨ma, rfl, hr, hb⟩
  have Ra := Lib.hid (Ra.out.later hb)
  have Rb := Lib.hid (Rb.out.later hb)
  have Rab := Lib.hid (Rab.out.later hb)
  have HB := Lib.hid (HB.out.trans (hb.mono HB.out.size))
  have Rma := Lib.hid hr
  clear hr hb
  go_wp2_with fail
  obtain ⟨g5, hg5⟩ : ∃ n, w4.heap.size = n := ⟨_, rfl⟩
  obtain ⟨w5, hw⟩ : ∃ w1, w4.alloc (.cells #[Ptr a, Ptr b] 23) = w1 := ⟨_, rfl⟩
  have hb : Below w4.heap.size w4 w5 := by rw [← hw]; exact (Below.refl _ _).alloc (Nat.le_refl _) _
  have hx : w5.heap[g5]? = some (.cells #[Ptr a, Ptr b] 23) := by rw [← hw]; exact blk_new hg5
  rw [hg5, hw]
  clear hw
  have Ra := Lib.hid (Ra.out.later hb)
  have Rb := Lib.hid (Rb.out.later hb)
  have Rab := Lib.hid (Rab.out.later hb)
  have Rma := Lib.hid (Rma.out.later hb)
  have HB := Lib.hid (HB.out.trans (hb.mono HB.out.size))
  have HX := Lib.hid hx
  clear hb hx
  refine (any_any (H := H) [(Pv.word [97]), (Pv.word [98])] (some ⟨g5, 0, none⟩) 2 [a, b] w5 (Sl.of_blk2 HX.out) (res2 Ra.out Rb.out) (fun h hh => by have h1 := HH.out h hh; have h2 := HB.out.size; omega) (by decide +kernel)).mono ?_
  rintro e w6 ⟨o, rfl, hr, hb⟩
  have Ra := Lib.hid (Ra.out.later hb)
  have Rb := Lib.hid (Rb.out.later hb)
  have Rab := Lib.hid (Rab.out.later hb)
  have Rma := Lib.hid (Rma.out.later hb)
  have HB := Lib.hid (HB.out.trans (hb.mono HB.out.size))
  have Ro := Lib.hid hr
  clear hr hb
  go_wp2_with fail
  obtain ⟨g7, hg7⟩ : ∃ n, w6.heap.size = n := ⟨_, rfl⟩
  obtain ⟨w7, hw⟩ : ∃ w1, w6.alloc (.cells #[Ptr a, Ptr b] 23) = w1 := ⟨_, rfl⟩
  have hb : Below w6.heap.size w6 w7 := by rw [← hw]; exact (Below.refl _ _).alloc (Nat.le_refl _) _
  have hx : w7.heap[g7]? = some (.cells #[Ptr a, Ptr b] 23) := by rw [← hw]; exact blk_new hg7
  rw [hg7, hw]
  clear hw
  have Ra := Lib.hid (Ra.out.later hb)
  have Rb := Lib.hid (Rb.out.later hb)
  have Rab := Lib.hid (Rab.out.later hb)
  have Rma := Lib.hid (Rma.out.later hb)
  have Ro := Lib.hid (Ro.out.later hb)
  have HB := Lib.hid (HB.out.trans (hb.mono HB.out.size))
  have HX := Lib.hid hx
  clear hb hx
  refine (any_any (H := H) [(Pv.word [97]), (Pv.word [98])] (some ⟨g7, 0, none⟩) 2 [a, b] w7 (Sl.of_blk2 HX.out) (res2 Ra.out Rb.out) (fun h hh => by have h1 := HH.out h hh; have h2 := HB.out.size; omega) (by decide +kernel)).mono ?_
  rintro e w8 ⟨p, rfl, hr, hb⟩
  have Ra := Lib.hid (Ra.out.later hb)
  have Rb := Lib.hid (Rb.out.later hb)
  have Rab := Lib.hid (Rab.out.later hb)
  have Rma := Lib.hid (Rma.out.later hb)
  have Ro := Lib.hid (Ro.out.later hb)
  have HB := Lib.hid (HB.out.trans (hb.mono HB.out.size))
  have Rp := Lib.hid hr
  clear hr hb
  go_wp2_with fail
  refine (many_any (H := H) (Pv.any [(Pv.word [97]), (Pv.word [98])]) p w8 Rp.out (fun h hh => by have h1 := HH.out h hh; have h2 := HB.out.size; omega) (by decide +kernel)).mono ?_
  rintro e w9 ⟨mo, rfl, hr, hb⟩
  have Ra := Lib.hid (Ra.out.later hb)
  have Rb := Lib.hid (Rb.out.later hb)
  have Rab := Lib.hid (Rab.out.later hb)
  have Rma := Lib.hid (Rma.out.later hb)
  have Ro := Lib.hid (Ro.out.later hb)
  have Rp := Lib.hid (Rp.out.later hb)
  have HB := Lib.hid (HB.out.trans (hb.mono HB.out.size))
  have Rmo := Lib.hid hr
  clear hr hb
  go_wp2_with fail
  refine (many_any (H := H) (Pv.word [98]) b w9 Rb.out (fun h hh => by have h1 := HH.out h hh; have h2 := HB.out.size; omega) (by decide +kernel)).mono ?_
  rintro e w10 ⟨mb, rfl, hr, hb⟩
  have Ra := Lib.hid (Ra.out.later hb)
  have Rb := Lib.hid (Rb.out.later hb)
  have Rab := Lib.hid (Rab.out.later hb)
  have Rma := Lib.hid (Rma.out.later hb)
  have Ro := Lib.hid (Ro.out.later hb)
  have Rp := Lib.hid (Rp.out.later hb)
  have Rmo := Lib.hid (Rmo.out.later hb)
  have HB := Lib.hid (HB.out.trans (hb.mono HB.out.size))
  have Rmb := Lib.hid hr
  clear hr hb
  go_wp2_with fail
  obtain ⟨g11, hg11⟩ : ∃ n, w10.heap.size = n := ⟨_, rfl⟩
  obtain ⟨w11, hw⟩ : ∃ w1, w10.alloc (.cells #[Ptr a, Ptr mb] 23) = w1 := ⟨_, rfl⟩
  have hb : Below w10.heap.size w10 w11 := by rw [← hw]; exact (Below.refl _ _).alloc (Nat.le_refl _) _
  have hx : w11.heap[g11]? = some (.cells #[Ptr a, Ptr mb] 23) := by rw [← hw]; exact blk_new hg11
  rw [hg11, hw]
  clear hw
  have Ra := Lib.hid (Ra.out.later hb)
  have Rb := Lib.hid (Rb.out.later hb)
  have Rab := Lib.hid (Rab.out.later hb)
  have Rma := Lib.hid (Rma.out.later hb)
  have Ro := Lib.hid (Ro.out.later hb)
  have Rp := Lib.hid (Rp.out.later hb)
  have Rmo := Lib.hid (Rmo.out.later hb)
  have Rmb := Lib.hid (Rmb.out.later hb)
  have HB := Lib.hid (HB.out.trans (hb.mono HB.out.size))
  have HX := Lib.hid hx
  clear hb hx
  refine (cat_any (H := H) [(Pv.word [97]), (Pv.many (Pv.word [98]))] (some ⟨g11, 0, none⟩) 2 [a, mb] w11 (Sl.of_blk2 HX.out) (res2 Ra.out Rmb.out) (fun h hh => by have h1 := HH.out h hh; have h2 := HB.out.size; omega) (by decide +kernel)).mono ?_
  rintro e w12 ⟨amb, rfl, hr, hb⟩
  have Ra := Lib.hid (Ra.out.later hb)
  have Rb := Lib.hid (Rb.out.later hb)
  have Rab := Lib.hid (Rab.out.later hb)
  have Rma := Lib.hid (Rma.out.later hb)
  have Ro := Lib.hid (Ro.out.later hb)
  have Rp := Lib.hid (Rp.out.later hb)
  have Rmo := Lib.hid (Rmo.out.later hb)
  have Rmb := Lib.hid (Rmb.out.later hb)
  have HB := Lib.hid (HB.out.trans (hb.mono HB.out.size))
  have Ramb := Lib.hid hr
  clear hr hb
  go_wp2_with fail
  refine (empty_re (H := H) w12 (fun h hh => by have h1 := HH.out h hh; have h2 := HB.out.size; omega)).mono ?_
  rintro e w13 ⟨em, rfl, hr, hb⟩
  have Ra := Lib.hid (Ra.out.later hb)
  have Rb := Lib.hid (Rb.out.later hb)
  have Rab := Lib.hid (Rab.out.later hb)
  have Rma := Lib.hid (Rma.out.later hb)
  have Ro := Lib.hid (Ro.out.later hb)
  have Rp := Lib.hid (Rp.out.later hb)
  have Rmo := Lib.hid (Rmo.out.later hb)
  have Rmb := Lib.hid (Rmb.out.later hb)
  have Ramb := Lib.hid (Ramb.out.later hb)
  have HB := Lib.hid (HB.out.trans (hb.mono HB.out.size))
  have Rem := Lib.hid hr
  clear hr hb
  go_wp2_with fail
  refine (word_any (H := H) [59] w13 (fun h hh => by have h1 := HH.out h hh; have h2 := HB.out.size; omega) (by decide)).mono ?_
  rintro e w14 ⟨s, rfl, hr, hb⟩
  have Ra := Lib.hid (Ra.out.later hb)
  have Rb := Lib.hid (Rb.out.later hb)
  have Rab := Lib.hid (Rab.out.later hb)
  have Rma := Lib.hid (Rma.out.later hb)
  have Ro := Lib.hid (Ro.out.later hb)
  have Rp := Lib.hid (Rp.out.later hb)
  have Rmo := Lib.hid (Rmo.out.later hb)
  have Rmb := Lib.hid (Rmb.out.later hb)
  have Ramb := Lib.hid (Ramb.out.later hb)
  have Rem := Lib.hid (Rem.out.later hb)
  have HB := Lib.hid (HB.out.trans (hb.mono HB.out.size))
  have Rs := Lib.hid hr
  clear hr hb
  have hix := ex_ix9 n
  have hlt := Pv.e10Ix_lt n
  have hsel : ∃ x, (w14.alloc (.cells #[Ptr a, Ptr b, Ptr ab, Ptr ma, Ptr o, Ptr mo, Ptr amb, Ptr em, Ptr s] 23)).cell? ⟨w14.heap.size, Pv.e10Ix n, none⟩ = some (Ptr x) ∧ ReAt H w14 (Pv.e10Of n) x := by
    unfold Pv.e10Of
    generalize Pv.e10Ix n = k at hlt ⊢
    match k, hlt with
    | 0, _ => exact ⟨a, cell_of_blk (o := 0) (blk_new rfl) rfl, Ra.out⟩
    | 1, _ => exact ⟨b, cell_of_blk (o := 1) (blk_new rfl) rfl, Rb.out⟩
    | 2, _ => exact ⟨ab, cell_of_blk (o := 2) (blk_new rfl) rfl, Rab.out⟩
    | 3, _ => exact ⟨ma, cell_of_blk (o := 3) (blk_new rfl) rfl, Rma.out⟩
    | 4, _ => exact ⟨o, cell_of_blk (o := 4) (blk_new rfl) rfl, Ro.out⟩
    | 5, _ => exact ⟨mo, cell_of_blk (o := 5) (blk_new rfl) rfl, Rmo.out⟩
    | 6, _ => exact ⟨amb, cell_of_blk (o := 6) (blk_new rfl) rfl, Ramb.out⟩
    | 7, _ => exact ⟨em, cell_of_blk (o := 7) (blk_new rfl) rfl, Rem.out⟩
    | 8, _ => exact ⟨s, cell_of_blk (o := 8) (blk_new rfl) rfl, Rs.out⟩
    | k + 9, h => omega
  obtain ⟨x, hx, hr⟩ := hsel
  have HR := Lib.hid hr
  generalize Pv.e10Ix n = k at *
  have hk0 : (0:Int) ≤ k := by omega
  have hk1 : (k:Int) < 9 := by omega
  clear hr HX Ra Rb Rab Rma Ro Rp Rmo Rmb Ramb Rem Rs
  go_wp2_with fail
  have hb : Below w14.heap.size w14 (w14.alloc (.cells #[Ptr a, Ptr b, Ptr ab, Ptr ma, Ptr o, Ptr mo, Ptr amb, Ptr em, Ptr s] 23)) := (Below.refl _ _).alloc (Nat.le_refl _) _
  refine bodyPost_ret (v := Ptr x) ?_ rfl ⟨x, rfl, HR.out.later hb, HB.out.trans (hb.mono HB.out.size)⟩
  simp [results, Tryz.results75, go_sem]
end Go.Proofs.YtbimpenhmefpeaaGreatDoor
