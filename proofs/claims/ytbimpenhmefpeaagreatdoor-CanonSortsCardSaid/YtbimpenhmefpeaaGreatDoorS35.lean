/- For every plan of a term and every number the law CanonSorts of package periscopelaw17 returns true and leaves what it was given; no condition beyond the card's own (the plan is a tree, without a ring; three laid tables start as the program's text lays them). -/
import Derived.Test.YtbimpenhmefpeaaGreatDoorS31
import Derived.Test.YtbimpenhmefpeaaGreatDoorS33
import Derived.Test.YtbimpenhmefpeaaGreatDoorS34
import Derived.Test.YtbimpenhmefpeaaGreatDoorS32
import Derived.Deep.DeepCutAuto
import Derived.Deep.CutBlock
import Derived.ChangeArms
import Derived.DataReads
import Derived.Test.YtbimpenhmefpeaaGreatDoorS15
import Derived.Test.YtbimpenhmefpeaaGreatDoorRows
import Derived.ProofKit
import Derived.LaidMore
import Derived.ChangeMaps5
import Derived.OpenShut
import Derived.Stop.Joined
import Derived.Carry
import Derived.Test.YtbimpenhmefpeaaGreatDoorCards
import Derived.Test.YtbimpenhmefpeaaGreatDoorTie
import Derived.SevenTiedAt
set_option linter.all false
namespace Go.Proofs.YtbimpenhmefpeaaGreatDoor
open Go.RowKit Go.Maps
open Pv (P10)
variable {H : Nat → Prop}

/-- a term that is not as it must be -/
def Spoilt (w : World) (ub : Nat) (wx : World) : Prop := ∃ (op : Nat) (name tx bk : List UInt8) (rv kv : Value), TermAt wx ub op 0 name rv tx bk kv ∧ (∀ W, Below wx.heap.size wx W → Pure 38 #[Ptr ub] W (.bool false)) ∧ Below w.heap.size w wx
theorem shapedOf_succ {op n : Nat} {b : Bool} (h : Pv.shapedOf op b n = true) : Pv.shapedOf op b (n + 1) = false := by
  unfold Pv.shapedOf at h ⊢
  split at h
  · rename_i h1; rw [if_pos h1]; simp
  · rename_i h1; rw [if_neg h1]
    split at h
    · rename_i h2; rw [if_pos h2]; simp
    · rename_i h2; rw [if_neg h2]
      split at h
      · rename_i h3; rw [if_pos h3]; simp only [beq_iff_eq] at h; simp; omega
      · rename_i h3; rw [if_neg h3]
        split at h
        · rename_i h4; rw [if_pos h4]; simp only [beq_iff_eq] at h; simp; omega
        · cases h
theorem shapedOf_none {op : Nat} (h2 : 2 ≤ op) (h17 : op ≤ 17) (h6 : op ≠ 6) : Pv.shapedOf op false 0 = false := by
  have h : op = 2 ∨ op = 3 ∨ op = 4 ∨ op = 5 ∨ op = 7 ∨ op = 8 ∨ op = 9 ∨ op = 10 ∨ op = 11 ∨ op = 12 ∨ op = 13 ∨ op = 14 ∨ op = 15 ∨ op = 16 ∨ op = 17 := by omega
  rcases h with rfl | rfl | rfl | rfl | rfl | rfl | rfl | rfl | rfl | rfl | rfl | rfl | rfl | rfl | rfl <;> rfl
theorem spoilt_of {w wx : World} {ub op : Nat} {name tx bk : List UInt8} {re : Option Pv.R} {rv : Value} {a : Option Addr} {n c : Nat} (ht : TermAt wx ub op 0 name rv tx bk (.slice a n c)) (hr : RvO re rv) (h2 : 2 ≤ op) (h17 : op ≤ 17) (hs : Pv.shapedOf op re.isSome n = false) (hb : Below w.heap.size w wx) : Spoilt w ub wx :=
  ⟨op, name, tx, bk, rv, _, ht, fun W hW => by have := shaped_all op ub 0 name tx bk W re rv hr a n c h2 h17 (later_blk hW ht); rw [hs] at this; exact this, hb⟩
theorem trow_ne {base : Nat} {w : World} {kv rv : Value} {xs : List Value} {ub op : Nat} {at_ : Int} {name tx bk : List UInt8} (h : Row base 25 w kv xs) (ht : TermAt w ub op at_ name rv tx bk kv) : some ub ≠ kv.ownBlock := by
  rcases h.blk with ⟨rfl, _⟩ | ⟨g, cap, cur, rfl, hg, hh, _⟩
  · intro e; cases e
  · intro e
    have e2 : ub = g := by
      have : (Value.slice (some ⟨g, 0, none⟩) xs.length cap).ownBlock = some g := rfl
      rw [this] at e
      injection e
    unfold TermAt at ht
    rw [e2, hh] at ht
    cases ht
theorem bit3 (n : Int) : bits BinOp.and IntKind.i64 n 3 = 0 ∨ bits BinOp.and IntKind.i64 n 3 = 1 ∨ bits BinOp.and IntKind.i64 n 3 = 2 ∨ bits BinOp.and IntKind.i64 n 3 = 3 := by
  have h : (BitVec.ofInt 64 n &&& 3).toNat = 0 ∨ (BitVec.ofInt 64 n &&& 3).toNat = 1 ∨ (BitVec.ofInt 64 n &&& 3).toNat = 2 ∨ (BitVec.ofInt 64 n &&& 3).toNat = 3 := by
    rw [BitVec.toNat_and]
    have h1 : (3 : BitVec 64).toNat = 2 ^ 2 - 1 := rfl
    rw [h1, Nat.and_two_pow_sub_one_eq_mod]
    omega
  show IntKind.i64.wrap ((BitVec.ofInt 64 n &&& BitVec.ofInt 64 3).toNat : Int) = 0 ∨ IntKind.i64.wrap ((BitVec.ofInt 64 n &&& BitVec.ofInt 64 3).toNat : Int) = 1 ∨ IntKind.i64.wrap ((BitVec.ofInt 64 n &&& BitVec.ofInt 64 3).toNat : Int) = 2 ∨ IntKind.i64.wrap ((BitVec.ofInt 64 n &&& BitVec.ofInt 64 3).toNat : Int) = 3
  have e : BitVec.ofInt 64 3 = 3 := rfl
  rw [e]
  rcases h with h | h | h | h <;> rw [h]
  · exact .inl (by decide)
  · exact .inr (.inl (by decide))
  · exact .inr (.inr (.inl (by decide)))
  · exact .inr (.inr (.inr (by decide)))
set_option maxRecDepth 20000 in
set_option maxHeartbeats 4000000 in
theorem sorts_law (p : P10) (v : Value) (n : Int) (w : World) (hT : Tab w) (hv : PlV w p v) : Calls Tryz.prog 5 #[v, .int .i64 n] w fun e w' => e = .returned (.bool true) ∧ Below w.heap.size w w' := by
  have HV := Lib.hid hv
  obtain ⟨a, c, b', o', rfl, ha, hkl, hks⟩ := hv
  have HT := Lib.hid hT
  clear ha hks hT
  go_enter Tryz.func5, Tryz.ntmps5
  go_wp2_with fail
  obtain ⟨pb, hpb⟩ : ∃ n, w.heap.size = n := ⟨_, rfl⟩
  obtain ⟨w0, hw0⟩ : ∃ w1, w.alloc (.cells #[.int .i64 p.op, .int .i64 p.w, .int .i64 p.n, .slice a p.kids.length c] 74) = w1 := ⟨_, rfl⟩
  have hb0 : Below w.heap.size w w0 := by rw [← hw0]; exact (Below.refl _ _).alloc (Nat.le_refl _) _
  have hp0 : w0.heap[pb]? = some (.cells #[.int .i64 p.op, .int .i64 p.w, .int .i64 p.n, .slice a p.kids.length c] 74) := by rw [← hw0]; exact blk_new hpb
  rw [hpb, hw0]
  clear hw0
  refine (head_any w0 (HT.out.later hb0)).mono ?_
  rintro e w1 ⟨rfl, hk1⟩
  have hb01 : Below w0.heap.size w0 w1 := hk1.below (Nat.le_refl _) (fun _ h => h.elim)
  have hp1 := later_blk hb01 hp0
  have HB := Lib.hid (hb0.trans (hb01.mono hb0.size))
  have HP := Lib.hid hp1
  have p0 : w1.cell? ⟨pb, 0, none⟩ = some (.int .i64 p.op) := cell_of_blk (o := 0) hp1 rfl
  have p1 : w1.cell? ⟨pb, 1, none⟩ = some (.int .i64 p.w) := cell_of_blk (o := 1) hp1 rfl
  have p2 : w1.cell? ⟨pb, 2, none⟩ = some (.int .i64 p.n) := cell_of_blk (o := 2) hp1 rfl
  have p3 : w1.cell? ⟨pb, 3, none⟩ = some (.slice a p.kids.length c) := cell_of_blk (o := 3) hp1 rfl
  clear hk1 hb01 hp1 hb0 hp0
  go_wp2_with fail
  have hfew := few_any p _ w1 (HV.out.later HB.out)
  by_cases hf : P10.cnt p 0 ≤ 30
  · rw [decide_eq_true hf] at hfew
    have HFew := Lib.hid hfew
    have HF := Lib.hid hf
    clear hfew p0 p1 p2 p3 hf
    refine HFew.out.mono ?_
    rintro e w2 ⟨rfl, hb2⟩
    replace HP := Lib.hid (later_blk hb2 HP.out)
    replace HB := Lib.hid (HB.out.trans (hb2.mono HB.out.size))
    clear hb2 HFew
    have p0 : w2.cell? ⟨pb, 0, none⟩ = some (.int .i64 p.op) := cell_of_blk (o := 0) HP.out rfl
    have p1 : w2.cell? ⟨pb, 1, none⟩ = some (.int .i64 p.w) := cell_of_blk (o := 1) HP.out rfl
    have p2 : w2.cell? ⟨pb, 2, none⟩ = some (.int .i64 p.n) := cell_of_blk (o := 2) HP.out rfl
    have p3 : w2.cell? ⟨pb, 3, none⟩ = some (.slice a p.kids.length c) := cell_of_blk (o := 3) HP.out rfl
    go_wp2_with fail
    refine (make10_all _ (fun _ => False) p _ w2 (Nat.le_refl _) (HV.out.later HB.out) (fun _ h => h.elim)).mono ?_
    rintro e w3 ⟨t, tb, _, _, _, rfl, hg, htz, hat, _, _, _, _, _, hb3⟩
    have hn30 : P10.nodes p ≤ 30 := Nat.le_trans (P10.nodes_le p 0 (by have := HF.out; omega)) HF.out
    have hwt : Pv.weight t < 1099511627776 := by have := Pv.weight_le hg; omega
    obtain ⟨s, _, hs1, hs2⟩ := sorts_any _ (Nat.le_refl _) hg hat
    have hgo := hg.open_
    obtain ⟨_, rv, sa, kc, bs, hr, _, hterm, _, hts⟩ := hat.open_
    have hsh := shaped_all t.op tb t.at_ t.name t.text t.back w3 t.re rv hr.rv sa bs.length kc hgo.1 hgo.2.1 hterm
    rw [hts.length, hgo.2.2.1] at hsh
    replace HP := Lib.hid (later_blk hb3 HP.out)
    replace HB := Lib.hid (HB.out.trans (hb3.mono HB.out.size))
    have HG := Lib.hid hg
    have HAt := Lib.hid hat
    have HTz := Lib.hid htz
    have HWt := Lib.hid hwt
    have HS1 := Lib.hid hs1
    have HS2 := Lib.hid hs2
    have HSh := Lib.hid hsh
    have HN := Lib.hid hn30
    clear hg hat htz hwt hs1 hs2 hsh hgo hr hterm hts hb3 p0 p1 p2 p3 hn30
    go_wp2_with fail
    refine HS1.out.mono ?_
    rintro e w' ⟨rfl, e1⟩
    subst e1
    go_wp2_with fail
    refine HS2.out.mono ?_
    rintro e w' ⟨rfl, e1⟩
    subst e1
    clear HS1 HS2
    go_wp2_with fail
    refine HSh.out.mono ?_
    rintro e w' ⟨rfl, e1⟩
    subst e1
    clear HSh
    go_wp2_with fail
    refine (cweight_any t tb w3 HG.out HAt.out HWt.out).mono ?_
    rintro e w4 ⟨rfl, hb4⟩
    replace HP := Lib.hid (later_blk hb4 HP.out)
    replace HB := Lib.hid (HB.out.trans (hb4.mono HB.out.size))
    replace HAt := Lib.hid (HAt.out.later hb4)
    clear hb4
    go_wp2_with fail
    refine (lweight_any _ _ t tb w4 (Nat.le_refl _) HAt.out HWt.out (good_kids HG.out).1 HG.out).mono ?_
    rintro e w5 ⟨rfl, hb5⟩
    replace HP := Lib.hid (later_blk hb5 HP.out)
    replace HB := Lib.hid (HB.out.trans (hb5.mono HB.out.size))
    replace HAt := Lib.hid (HAt.out.later hb5)
    clear hb5
    go_wp2_with fail
    obtain ⟨r, hr⟩ : ∃ r, w5.heap.size = r := ⟨_, rfl⟩
    obtain ⟨w6, hw6⟩ : ∃ w6, w5.alloc (.cells #[.bool true] 4) = w6 := ⟨_, rfl⟩
    have hb6 : Below w5.heap.size w5 w6 := by rw [← hw6]; exact (Below.refl _ _).alloc (Nat.le_refl _) _
    have hx6 : w6.heap[r]? = some (.cells #[.bool true] 4) := by rw [← hw6]; exact blk_new hr
    rw [hr, hw6]
    clear hw6
    have hat6 : TAt (· = r) w6 t tb := (HAt.out.widen fun x e => .inr (by rw [e]; omega)).later hb6
    have hwr : w.heap.size ≤ r := by have := HB.out.size; omega
    have hpr : pb ≠ r := by have := blk_lt HP.out; omega
    refine (walk_any Pv.TGood (fun _ h => good_kids h) 42 r (enters_of Tryz.func42 (by kernel_rfl) rfl) (rgtI r) rgtS (fun t tb s w hp ha hi => rgt_step r t tb s w hp ha hi) _ t tb true w6 (Nat.le_refl _) HG.out hat6 hx6).mono ?_
    rintro e w7 ⟨rfl, hi7, hk7⟩
    rw [foldT_rgt, Bool.true_and] at hi7
    have hi7' : w7.heap[r]? = some (.cells #[.bool (Pv.canonAll t)] 4) := hi7
    replace HP := Lib.hid (hk7.blk hpr (later_blk hb6 HP.out))
    have HB6 := Lib.hid (HB.out.trans (hb6.mono HB.out.size))
    replace HB := Lib.hid (HB6.out.trans (hk7.below HB6.out.size fun x e => by rw [e]; exact hwr))
    replace HAt := Lib.hid ((hat6.keep hk7).widen (H' := fun _ => False) fun _ h => h.elim)
    have HI := Lib.hid hi7'
    have hrl : r < w7.heap.size := blk_lt hi7'
    clear hi7 hi7' hk7 hb6 hx6 hat6 HB6 hr
    go_wp2_with fail
    refine (grant_any 0 (by decide) w7).mono ?_
    rintro e w8 ⟨rfl, hg8, hb8, hz8⟩
    obtain ⟨bb, hbb⟩ : ∃ n, w7.heap.size = n := ⟨_, rfl⟩
    rw [hbb] at hg8 hz8 hrl ⊢
    have hwb : w.heap.size ≤ bb := by have := HB.out.size; omega
    have hpb8 : pb ≠ bb := by have := blk_lt HP.out; omega
    replace HP := Lib.hid (later_blk hb8 HP.out)
    replace HB := Lib.hid (HB.out.trans (hb8.mono HB.out.size))
    have HAt8 := Lib.hid ((HAt.out.widen (H' := (· = bb)) fun x e => .inr (by rw [e]; omega)).later hb8)
    replace HI := Lib.hid (later_blk hb8 HI.out)
    have hmk := make_fail (ZeroF t) (Ptr tb) bb w8 (fun w1 c hb hc hcl => canon_zero (H := (· = bb)) _ t tb c bb 0 w1 (Nat.le_refl _) HG.out (HAt8.out.later hb) ((HT.out.later HB.out).later hb) (hg8.later hb) hc rfl (fun h e => by rw [e]; have := hb.size; omega)) hz8
    have HMk := Lib.hid hmk
    clear hmk hg8 hb8 HAt hbb
    go_wp2_with fail
    refine HMk.out.mono ?_
    rintro e w9 ⟨f, rfl, hzf, hk9⟩
    replace HP := Lib.hid (hk9.blk hpb8 HP.out)
    replace HB := Lib.hid (HB.out.trans (hk9.below HB.out.size fun x e => by rw [e]; exact hwb))
    replace HI := Lib.hid (hk9.blk (show ¬ r = bb by omega) HI.out)
    have HZ := Lib.hid hzf
    have hpl : pb < w9.heap.size := blk_lt HP.out
    have hrl9 : r < w9.heap.size := blk_lt HI.out
    clear hk9 HMk HAt8 hz8 hzf
    go_upto_region 11 with fail
    obtain ⟨fb, hfb⟩ : ∃ n, w9.heap.size = n := ⟨_, rfl⟩
    obtain ⟨w10, hw10⟩ : ∃ w1, w9.alloc (.cells (faultC f) 36) = w1 := ⟨_, rfl⟩
    have hb10 : Below w9.heap.size w9 w10 := by rw [← hw10]; exact (Below.refl _ _).alloc (Nat.le_refl _) _
    have hx10 : w10.heap[fb]? = some (.cells (faultC f) 36) := by rw [← hw10]; exact blk_new hfb
    rw [hfb, hw10]
    clear hw10
    replace HP := Lib.hid (later_blk hb10 HP.out)
    replace HB := Lib.hid (HB.out.trans (hb10.mono HB.out.size))
    replace HI := Lib.hid (later_blk hb10 HI.out)
    have HF10 := Lib.hid hx10
    clear hb10 hx10
    have e0 : w10.cell? ⟨fb, 0, none⟩ = some (.int .i64 (f.e : Int)) := cell_of_blk (o := 0) HF10.out rfl
    go_cut [63] from 47 to 63 (fun s63 wx => s63 = .bool false ∧ wx = w10)
    case first =>
      rcases HZ.out with h | h | ⟨h, _⟩
      all_goals
        rw [h] at e0
        clear h
        go_wp2_with fail
        go_meet
        exact ⟨rfl, rfl⟩
    case rest =>
    obtain ⟨rfl, rfl⟩ := hcut
    have i0 : wc.cell? ⟨r, 0, none⟩ = some (.bool (Pv.canonAll t)) := cell_of_blk (o := 0) HI.out rfl
    go_upto_region 13 with fail
    go_cut [69] from 64 to 69 (fun s69 wx => s69 = .bool false ∧ wx = wc)
    case first =>
      rcases HZ.out with h | h | ⟨h, h'⟩
      · rw [h] at e0
        clear h
        cases hcA : Pv.canonAll t
        all_goals
          rw [hcA] at i0
          clear hcA
          go_wp2_with fail
          go_meet
          exact ⟨rfl, rfl⟩
      · rw [h] at e0
        clear h
        cases hcA : Pv.canonAll t
        all_goals
          rw [hcA] at i0
          clear hcA
          go_wp2_with fail
          go_meet
          exact ⟨rfl, rfl⟩
      · rw [h] at e0
        rw [h'] at i0
        clear h h'
        go_wp2_with fail
        go_meet
        exact ⟨rfl, rfl⟩
    case rest =>
    obtain ⟨rfl, rfl⟩ := hcut
    have p0 : wc.cell? ⟨pb, 0, none⟩ = some (.int .i64 p.op) := cell_of_blk (o := 0) HP.out rfl
    have p1 : wc.cell? ⟨pb, 1, none⟩ = some (.int .i64 p.w) := cell_of_blk (o := 1) HP.out rfl
    have p2 : wc.cell? ⟨pb, 2, none⟩ = some (.int .i64 p.n) := cell_of_blk (o := 2) HP.out rfl
    have p3 : wc.cell? ⟨pb, 3, none⟩ = some (.slice a p.kids.length c) := cell_of_blk (o := 3) HP.out rfl
    clear e0 i0 HF10 HZ HI HG HTz HWt HN
    go_wp2_with fail
    refine (make10_all _ (fun _ => False) p _ wc (Nat.le_refl _) (HV.out.later HB.out) (fun _ h => h.elim)).mono ?_
    rintro e wu ⟨u, ub, kv, ru, us, rfl, hgu, _, _, htu, hru, hrow, hul, hubw, hbu⟩
    have HTu := Lib.hid htu
    have HRw := Lib.hid hrow
    have HBu := Lib.hid (HB.out.trans (hbu.mono HB.out.size))
    have HGu := Lib.hid hgu.open_
    have HRu := Lib.hid hru.rv
    have HUl := Lib.hid hul
    have hwu : w.heap.size ≤ ub := Nat.le_trans HB.out.size hubw
    have hwc : wc.heap.size ≤ wu.heap.size := hbu.size
    clear hgu htu hru hrow hul hbu p0 p1 p2 p3
    go_upto_block 0 with fail
    go_cut [] from 73 to 110 (fun wx => Spoilt w ub wx)
    case first =>
      have u0 : wu.cell? ⟨ub, 0, none⟩ = some (.int .i64 (u.op : Int)) := cell_of_blk (o := 0) HTu.out rfl
      have u3 : wu.cell? ⟨ub, 3, none⟩ = some ru := cell_of_blk (o := 3) HTu.out rfl
      have u6 : wu.cell? ⟨ub, 6, none⟩ = some kv := cell_of_blk (o := 6) HTu.out rfl
      have fr : ∀ o, wu.frozen? ⟨ub, o, none⟩ = false := fun o => frozen_of_blk HTu.out
      obtain ⟨ka, kc2, ek, _, _⟩ := HRw.out.form
      have HEk := Lib.hid ek
      clear ek
      rcases bit3 n with hbit | hbit | hbit | hbit
      · obtain ⟨i0, hi, hz0, hz1, hz2⟩ := info_parts info_tp
        go_wp2_with (at_builtin; refine app1 28 25 i0 _ 8 Tryz.underlying28 hi hz0 hz1 hz2 rfl (by omega) rfl _ _ rfl wc.heap.size kv (us.map Ptr) rfl ?c1 wu.heap.size (.pointer none) rfl ?c2 rfl ?c3 ?c4 ?c5)
        case c1 => exact HRw.out.alloc _
        case c2 => exact blk_new rfl
        case c3 => have h1 := HUl.out; have h2 := shaped_len HGu.out.2.2.1; simp; omega
        case c4 => simp; omega
        case c5 =>
          intro v1 w1 hr1 hb1 hg1
          have ht1 : TermAt w1 ub u.op 0 u.name ru u.text u.back kv := (hg1.block ub (by have := blk_lt HTu.out; simp; omega) (trow_ne HRw.out HTu.out)).trans (blk_old HTu.out)
          have u6' : w1.cell? ⟨ub, 6, none⟩ = some kv := cell_of_blk (o := 6) ht1 rfl
          have fr' : ∀ o, w1.frozen? ⟨ub, o, none⟩ = false := fun o => frozen_of_blk ht1
          obtain ⟨a1, c1, ev1, _, _⟩ := hr1.form
          rw [show (us.map Ptr ++ [Value.pointer none]).length = us.length + 1 by simp] at ev1
          subst ev1
          have HT1 := Lib.hid ht1
          have HB1 := Lib.hid ((HBu.out.alloc HBu.out.size _).trans (hb1.mono HB.out.size))
          clear ht1 hr1 hb1 hg1 u0 u3 u6 fr
          go_wp2_with fail
          go_meet
          have hk : Keep (· = ub) w1 (w1.setCell ⟨ub, 6, none⟩ (.slice a1 (us.length + 1) c1)) := Keep.set rfl
          have ht : TermAt (w1.setCell ⟨ub, 6, none⟩ (.slice a1 (us.length + 1) c1)) ub u.op 0 u.name ru u.text u.back (.slice a1 (us.length + 1) c1) := by
            unfold TermAt
            rw [blk_set HT1.out]
            rfl
          refine spoilt_of ht HRu.out HGu.out.1 HGu.out.2.1 ?_ (HB1.out.trans (hk.below HB1.out.size fun x e => by rw [e]; exact hwu))
          exact shapedOf_succ (by rw [HUl.out]; exact HGu.out.2.2.1)
      · go_wp2_with fail
        go_meet
        have hk : Keep (· = ub) wu (wu.setCell ⟨ub, 0, none⟩ (.int .i64 0)) := Keep.set rfl
        have ht : TermAt (wu.setCell ⟨ub, 0, none⟩ (.int .i64 0)) ub 0 0 u.name ru u.text u.back kv := by
          unfold TermAt
          rw [blk_set HTu.out]
          rfl
        rw [HEk.out] at ht
        exact ⟨0, _, _, _, _, _, ht, fun W hW => shp_0 ub 0 _ _ _ W _ _ _ _ (later_blk hW ht), HBu.out.trans (hk.below HBu.out.size fun x e => by rw [e]; exact hwu)⟩
      · go_wp2_with fail
        go_meet
        have hk : Keep (· = ub) wu (wu.setCell ⟨ub, 0, none⟩ (.int .i64 18)) := Keep.set rfl
        have ht : TermAt (wu.setCell ⟨ub, 0, none⟩ (.int .i64 18)) ub 18 0 u.name ru u.text u.back kv := by
          unfold TermAt
          rw [blk_set HTu.out]
          rfl
        rw [HEk.out] at ht
        exact ⟨18, _, _, _, _, _, ht, fun W hW => shp_18 ub 0 _ _ _ W _ _ _ _ (later_blk hW ht), HBu.out.trans (hk.below HBu.out.size fun x e => by rw [e]; exact hwu)⟩
      · by_cases h6 : u.op = 6
        · rw [h6] at u0
          go_wp2_with fail
          go_meet
          have hk : Keep (· = ub) wu (((wu.setCell ⟨ub, 6, none⟩ (.slice none 0 0)).setCell ⟨ub, 3, none⟩ (.pointer none)).setCell ⟨ub, 0, none⟩ (.int .i64 2)) := ((Keep.set (H := (· = ub)) rfl).trans (Keep.set rfl)).trans (Keep.set rfl)
          have ht : TermAt (((wu.setCell ⟨ub, 6, none⟩ (.slice none 0 0)).setCell ⟨ub, 3, none⟩ (.pointer none)).setCell ⟨ub, 0, none⟩ (.int .i64 2)) ub 2 0 u.name (.pointer none) u.text u.back (.slice none 0 0) := by
            unfold TermAt
            rw [blk_set (blk_set (blk_set HTu.out))]
            rfl
          exact spoilt_of (re := none) ht rfl (by decide) (by decide) rfl (HBu.out.trans (hk.below HBu.out.size fun x e => by rw [e]; exact hwu))
        · have f6 : ((u.op : Int) == 6) = false := opF h6
          go_wp2_with fail
          go_meet
          have hk : Keep (· = ub) wu ((wu.setCell ⟨ub, 6, none⟩ (.slice none 0 0)).setCell ⟨ub, 3, none⟩ (.pointer none)) := (Keep.set (H := (· = ub)) rfl).trans (Keep.set rfl)
          have ht : TermAt ((wu.setCell ⟨ub, 6, none⟩ (.slice none 0 0)).setCell ⟨ub, 3, none⟩ (.pointer none)) ub u.op 0 u.name (.pointer none) u.text u.back (.slice none 0 0) := by
            unfold TermAt
            rw [blk_set (blk_set HTu.out)]
            rfl
          exact spoilt_of (re := none) ht rfl HGu.out.1 HGu.out.2.1 (shapedOf_none HGu.out.1 HGu.out.2.1 h6) (HBu.out.trans (hk.below HBu.out.size fun x e => by rw [e]; exact hwu))
    case rest =>
    obtain ⟨op, name, tx, bk, rv2, kv2, htx, hshx, hbx⟩ := hcut
    have HTx := Lib.hid htx
    have HShx := Lib.hid hshx
    have HBx := Lib.hid hbx
    clear htx hshx hbx HTu HRw HBu HGu HRu HUl HP HB HV
    go_wp2_with fail
    refine (grant_any 100 (by decide) wc).mono ?_
    rintro e w12 ⟨rfl, hg12, hb12, hz12⟩
    obtain ⟨b2, hb2⟩ : ∃ n, wc.heap.size = n := ⟨_, rfl⟩
    rw [hb2] at hg12 hz12 ⊢
    have hwb2 : w.heap.size ≤ b2 := by have := HBx.out.size; omega
    have hb2w : wc.heap.size ≤ b2 := by omega
    have hub2 : ub < b2 := by have := blk_lt HTx.out; omega
    have H12 := Lib.hid hb12
    have hmk := make_fail (fun f => f = { e := 8, op := op }) (Ptr ub) b2 w12 (fun w1 c hb hc hcl => (canon_bad ub op c b2 0 w1 (TermAt.head (later_blk hb (later_blk H12.out HTx.out))) hc (HShx.out w1 (H12.out.trans (hb.mono H12.out.size)))).mono fun e w' ⟨h1, h2, h3⟩ => ⟨h1, _, h2, (show (8 : Nat) ≠ 0 by decide), rfl, h3.wide fun x e => .inl (.inl e)⟩) hz12
    have HMk := Lib.hid hmk
    have hb2l : b2 < w12.heap.size := hz12
    clear hmk hg12 hb12 hz12 hb2
    go_wp2_with fail
    refine HMk.out.mono ?_
    rintro e w13 ⟨f2, rfl, rfl, hk13⟩
    have hb13 : Below w.heap.size w w13 := (HBx.out.trans (H12.out.mono HBx.out.size)).trans (hk13.below (Nat.le_trans HBx.out.size H12.out.size) fun x e => by rw [e]; exact hwb2)
    have hs13 : wc.heap.size ≤ w13.heap.size := Nat.le_trans H12.out.size hk13.size
    have hk0 : Keep (· = b2) wc w13 := (Keep.of_below H12.out).trans hk13
    have HK0 := Lib.hid hk0
    have HB13 := Lib.hid hb13
    have hb2l3 : b2 < w13.heap.size := Nat.lt_of_lt_of_le hb2l hk13.size
    clear hk13 hb13 hk0 HMk H12 HBx
    go_wp2_with fail
    obtain ⟨f2, hf2⟩ : ∃ n, w13.heap.size = n := ⟨_, rfl⟩
    obtain ⟨w14, hw14⟩ : ∃ w1, w13.alloc (.cells #[.int .i64 8, .int .i64 (op : Int), .int .i64 0, .bool false, .string ⟨#[]⟩, .int .i64 0, .int .i64 0] 36) = w1 := ⟨_, rfl⟩
    have hb14 : Below w13.heap.size w13 w14 := by rw [← hw14]; exact (Below.refl _ _).alloc (Nat.le_refl _) _
    have hx14 : w14.heap[f2]? = some (.cells #[.int .i64 8, .int .i64 (op : Int), .int .i64 0, .bool false, .string ⟨#[]⟩, .int .i64 0, .int .i64 0] 36) := by rw [← hw14]; exact blk_new hf2
    rw [hf2, hw14]
    clear hw14
    have HX14 := Lib.hid hx14
    have HB14 := Lib.hid (HB13.out.trans (hb14.mono HB13.out.size))
    have HK14 := Lib.hid (HK0.out.trans (Keep.of_below hb14))
    have hb2f : b2 < f2 := by omega
    clear hx14 hb14 HK0 HB13
    refine (grant_any 100 (by decide) w14).mono ?_
    rintro e w15 ⟨rfl, hg15, hb15, hz15⟩
    obtain ⟨b3, hb3⟩ : ∃ n, w14.heap.size = n := ⟨_, rfl⟩
    rw [hb3] at hg15 hz15 ⊢
    have hf3 : f2 < b3 := by have := blk_lt HX14.out; omega
    have hmk := make_fail (fun f => f = { e := 8 }) (.pointer none) b3 w15 (fun w1 c hb hc hcl => (canon_nil c b3 w1 hc).mono fun e w' ⟨h1, h2, h3⟩ => ⟨h1, _, h2, (show (8 : Nat) ≠ 0 by decide), rfl, h3.wide fun x e => .inl (.inl e)⟩) hz15
    have HMk := Lib.hid hmk
    have H15 := Lib.hid hb15
    clear hmk hg15 hb15 hz15
    go_wp2_with fail
    refine HMk.out.mono ?_
    rintro e w16 ⟨f3, rfl, rfl, hk16⟩
    have hk014 : Keep (· = b3) w14 w16 := (Keep.of_below H15.out).trans hk16
    have HX16 := Lib.hid (hk014.blk (show ¬ f2 = b3 by omega) HX14.out)
    have hwb3 : w.heap.size ≤ b3 := by have := HB14.out.size; omega
    have HB16 := Lib.hid (HB14.out.trans (hk014.below HB14.out.size fun x e => by rw [e]; exact hwb3))
    have HK16 := Lib.hid (HK14.out.trans_ hk014 fun x e => .inr (by rw [e]; have := HK14.out.size; omega))
    clear hk16 hk014 HMk H15 HX14 HB14 HK14 hb3
    go_wp2_with fail
    obtain ⟨f4, hf4⟩ : ∃ n, w16.heap.size = n := ⟨_, rfl⟩
    obtain ⟨w17, hw17⟩ : ∃ w1, w16.alloc (.cells #[.int .i64 8, .int .i64 0, .int .i64 0, .bool false, .string ⟨#[]⟩, .int .i64 0, .int .i64 0] 36) = w1 := ⟨_, rfl⟩
    have hb17 : Below w16.heap.size w16 w17 := by rw [← hw17]; exact (Below.refl _ _).alloc (Nat.le_refl _) _
    have hx17 : w17.heap[f4]? = some (.cells #[.int .i64 8, .int .i64 0, .int .i64 0, .bool false, .string ⟨#[]⟩, .int .i64 0, .int .i64 0] 36) := by rw [← hw17]; exact blk_new hf4
    rw [hf4, hw17]
    clear hw17
    have HX17 := Lib.hid (later_blk hb17 HX16.out)
    have HY17 := Lib.hid hx17
    have HB17 := Lib.hid (HB16.out.trans (hb17.mono HB16.out.size))
    have HK17 := Lib.hid (HK16.out.trans (Keep.of_below hb17))
    have HT17 := Lib.hid (HK17.out.blk (show ¬ ub = b2 by omega) HTx.out)
    clear hx17 hb17 HX16 HB16 HK16 hf4
    refine Eaq.region (Keep fun _ => False) (.mov 0 (.anc 1 (.mov 2 (.mov 3 (.mov 4 (.mov 5 (.mov 6 (.mov 7 (.mov 8 (.mov 9 (.mov 10 (.mov 11 (.mov 12 (.mov 13 (.mov 14 (.mov 15 (.mov 16 (.mov 17 (.mov 18 (.mov 19 (.mov 20 (.mov 21 (.mov 22 (.mov 23 (.mov 24 (.mov 25 (.anc 26 (.mov 27 (.mov 28 (.mov 29 (.anc 30 (.mov 31 (.mov 32 (.mov 33 (.anc 34 (.mov 35 (.mov 36 (.mov 37 Eag.Sch.fin)))))))))))))))))))))))))))))))))))))) [] [] (by as_aux_lemma => kernel_rfl) (by as_aux_lemma => kernel_rfl) (fun K ops hops hK => ?_)
    obtain ⟨ws, hws⟩ : ∃ ws, w17.drew = ws := ⟨_, rfl⟩
    have hbs : Below w17.heap.size w17 ws := by rw [← hws]; exact (Below.refl _ _).drew
    rw [hws]
    clear hws
    have HXs := Lib.hid (later_blk hbs HX17.out)
    have HYs := Lib.hid (later_blk hbs HY17.out)
    have HTs := Lib.hid (later_blk hbs HT17.out)
    have HBs := Lib.hid (HB17.out.trans (hbs.mono HB17.out.size))
    have hks : Keep (fun x => x = b2) wc ws := HK17.out.trans (Keep.of_below hbs)
    have HShs := Lib.hid (HShx.out ws (hks.below (Nat.le_refl _) fun x e => by rw [e]; exact hb2w))
    clear hbs HX17 HY17 HT17 HB17 HK17 hks
    have nf : ¬ False := fun h => h
    have t0 : ws.cell? ⟨ub, 0, none⟩ = some (.int .i64 (op : Int)) := cell_of_blk (o := 0) HTs.out rfl
    have g0 : ws.cell? ⟨f2, 0, none⟩ = some (.int .i64 8) := cell_of_blk (o := 0) HXs.out rfl
    have g1 : ws.cell? ⟨f2, 1, none⟩ = some (.int .i64 (op : Int)) := cell_of_blk (o := 1) HXs.out rfl
    have g2 : ws.cell? ⟨f2, 2, none⟩ = some (.int .i64 0) := cell_of_blk (o := 2) HXs.out rfl
    have g3 : ws.cell? ⟨f2, 3, none⟩ = some (.bool false) := cell_of_blk (o := 3) HXs.out rfl
    have g4 : ws.cell? ⟨f2, 4, none⟩ = some (.string ⟨#[]⟩) := cell_of_blk (o := 4) HXs.out rfl
    have g5 : ws.cell? ⟨f2, 5, none⟩ = some (.int .i64 0) := cell_of_blk (o := 5) HXs.out rfl
    have g6 : ws.cell? ⟨f2, 6, none⟩ = some (.int .i64 0) := cell_of_blk (o := 6) HXs.out rfl
    have h0 : ws.cell? ⟨f4, 0, none⟩ = some (.int .i64 8) := cell_of_blk (o := 0) HYs.out rfl
    have h1 : ws.cell? ⟨f4, 1, none⟩ = some (.int .i64 (0 : Int)) := cell_of_blk (o := 1) HYs.out rfl
    have h2 : ws.cell? ⟨f4, 2, none⟩ = some (.int .i64 0) := cell_of_blk (o := 2) HYs.out rfl
    have h3 : ws.cell? ⟨f4, 3, none⟩ = some (.bool false) := cell_of_blk (o := 3) HYs.out rfl
    have h4 : ws.cell? ⟨f4, 4, none⟩ = some (.string ⟨#[]⟩) := cell_of_blk (o := 4) HYs.out rfl
    have h5 : ws.cell? ⟨f4, 5, none⟩ = some (.int .i64 0) := cell_of_blk (o := 5) HYs.out rfl
    have h6 : ws.cell? ⟨f4, 6, none⟩ = some (.int .i64 0) := cell_of_blk (o := 6) HYs.out rfl
    iterate 1
      first
        | (refine Eaq.mov hops rfl rfl rfl (fun w' hb => ?_) ?_
           · clear hb; go_simp)
        | (refine Eaq.movA hops rfl rfl (fun w' => ?_) ?_
           · go_simp)
      go_simp
    refine Eaq.anc hops rfl rfl ?_
    go_wp2_with fail
    refine HShs.out.mono ?_
    rintro e wx ⟨rfl, e1⟩
    subst e1
    refine ⟨Keep.refl _ _, ?_⟩
    iterate 2
      first
        | (refine Eaq.mov hops rfl rfl rfl (fun w' hb => ?_) ?_
           · clear hb; go_simp)
        | (refine Eaq.movA hops rfl rfl (fun w' => ?_) ?_
           · go_simp)
      go_simp
    iterate 2
      refine Eaq.movG hops rfl rfl rfl (fun w' hb => ?_) ?_
      · clear hb; go_simp
      go_simp
    iterate 2
      first
        | (refine Eaq.mov hops rfl rfl rfl (fun w' hb => ?_) ?_
           · clear hb; go_simp)
        | (refine Eaq.movA hops rfl rfl (fun w' => ?_) ?_
           · go_simp)
      go_simp
    iterate 7
      refine Eaq.movG hops rfl rfl rfl (fun w' hb => ?_) ?_
      · have q0 := Keep.cell hb nf g0; have q1 := Keep.cell hb nf g1; have q2 := Keep.cell hb nf g2; have q3 := Keep.cell hb nf g3; have q4 := Keep.cell hb nf g4; have q5 := Keep.cell hb nf g5; have q6 := Keep.cell hb nf g6; have q7 := Keep.cell hb nf t0; clear hb; go_simp
      go_simp
    clear g0 g1 g2 g3 g4 g5 g6 t0
    iterate 2
      first
        | (refine Eaq.mov hops rfl rfl rfl (fun w' hb => ?_) ?_
           · clear hb; go_simp)
        | (refine Eaq.movA hops rfl rfl (fun w' => ?_) ?_
           · go_simp)
      go_simp
    iterate 2
      refine Eaq.movG hops rfl rfl rfl (fun w' hb => ?_) ?_
      · clear hb; go_simp
      go_simp
    iterate 2
      first
        | (refine Eaq.mov hops rfl rfl rfl (fun w' hb => ?_) ?_
           · clear hb; go_simp)
        | (refine Eaq.movA hops rfl rfl (fun w' => ?_) ?_
           · go_simp)
      go_simp
    iterate 3
      refine Eaq.movG hops rfl rfl rfl (fun w' hb => ?_) ?_
      · have q0 := Keep.cell hb nf h0; have q1 := Keep.cell hb nf h1; have q2 := Keep.cell hb nf h2; have q3 := Keep.cell hb nf h3; have q4 := Keep.cell hb nf h4; have q5 := Keep.cell hb nf h5; have q6 := Keep.cell hb nf h6; clear hb; go_simp
      go_simp
    clear h0 h1 h2 h3 h4 h5 h6
    iterate 2
      first
        | (refine Eaq.mov hops rfl rfl rfl (fun w' hb => ?_) ?_
           · clear hb; go_simp)
        | (refine Eaq.movA hops rfl rfl (fun w' => ?_) ?_
           · go_simp)
      go_simp
    refine Eaq.ancG hops rfl rfl ?_
    go_wp2_with fail
    refine (csort_nil ws).mono ?_
    rintro e wx ⟨rfl, e1⟩
    subst e1
    refine ⟨Keep.refl _ _, ?_⟩
    iterate 1
      refine Eaq.movG hops rfl rfl rfl (fun w' hb => ?_) ?_
      · clear hb; go_simp
      go_simp
    iterate 2
      first
        | (refine Eaq.mov hops rfl rfl rfl (fun w' hb => ?_) ?_
           · clear hb; go_simp)
        | (refine Eaq.movA hops rfl rfl (fun w' => ?_) ?_
           · go_simp)
      go_simp
    refine Eaq.ancG hops rfl rfl ?_
    go_wp2_with fail
    refine (shp_nil ws).mono ?_
    rintro e wx ⟨rfl, e1⟩
    subst e1
    refine ⟨Keep.refl _ _, ?_⟩
    iterate 1
      refine Eaq.movG hops rfl rfl rfl (fun w' hb => ?_) ?_
      · clear hb; go_simp
      go_simp
    iterate 2
      first
        | (refine Eaq.mov hops rfl rfl rfl (fun w' hb => ?_) ?_
           · clear hb; go_simp)
        | (refine Eaq.movA hops rfl rfl (fun w' => ?_) ?_
           · go_simp)
      go_simp
    refine Eaq.ancG hops rfl rfl ?_
    go_wp2_with fail
    refine (cweight_nil ws).mono ?_
    rintro e wt ⟨rfl, hbt⟩
    refine ⟨Keep.of_below hbt, ?_⟩
    have HBt := Lib.hid (HBs.out.trans (hbt.mono HBs.out.size))
    clear hbt HBs HXs HYs HTs HShs
    iterate 1
      refine Eaq.movG hops rfl rfl rfl (fun w' hb => ?_) ?_
      · clear hb; go_simp
      go_simp
    iterate 2
      first
        | (refine Eaq.mov hops rfl rfl rfl (fun w' hb => ?_) ?_
           · clear hb; go_simp)
        | (refine Eaq.movA hops rfl rfl (fun w' => ?_) ?_
           · go_simp)
      go_simp
    refine Eaq.fin (hK _ _ ?_)
    clear hK hops
    go_simp
    go_wp2_with fail
    go_ret
    exact ⟨rfl, HBt.out⟩
  · rw [decide_eq_false hf] at hfew
    have HFew := Lib.hid hfew
    clear hfew p0 p1 p2 p3 hf
    refine HFew.out.mono ?_
    rintro e w2 ⟨rfl, hb2⟩
    have HB2 := Lib.hid (HB.out.trans (hb2.mono HB.out.size))
    clear hb2 HFew
    go_wp2_with fail
    go_ret
    exact ⟨rfl, HB2.out⟩
end Go.Proofs.YtbimpenhmefpeaaGreatDoor
namespace Go.Proofs.YtbimpenhmefpeaaGreatDoor
open Go.RowKit
open Pv (P10)

theorem cell_spot {w : World} {a : Addr} {v : Value} (h : w.cell? a = some v) : a = ⟨a.block, a.off, none⟩ := by
  obtain ⟨b, o, s⟩ := a
  cases s with
  | none => rfl
  | some s =>
    exfalso
    unfold World.cell? at h
    split at h
    · simp at h
    · cases h
theorem pls_build {W : World} {blk : Nat} : ∀ (len off : Nat), (∀ i, i < len → ∃ p, PlAt W p blk (off + i * 4)) → ∃ ps : List P10, ps.length = len ∧ PlsAt W ps blk off
  | 0, off, _ => ⟨[], rfl, by unfold PlsAt; trivial⟩
  | len + 1, off, h => by
    obtain ⟨p, hp⟩ := h 0 (by omega)
    obtain ⟨ps, hl, hps⟩ := pls_build len (off + 4) (fun i hi => by
      obtain ⟨q, hq⟩ := h (i + 1) (by omega)
      exact ⟨q, by rw [show off + 4 + i * 4 = off + (i + 1) * 4 by omega]; exact hq⟩)
    refine ⟨p :: ps, by simp [hl], ?_⟩
    unfold PlsAt
    exact ⟨by simpa using hp, hps⟩
theorem add_off (b o i : Nat) : (⟨b, o, none⟩ : Addr).add i = ⟨b, o + i, none⟩ := by
  unfold Addr.add; split
  · subst_vars; rfl
  · rfl
theorem pl_c74 : Tryz.prog.cellsOf 74 = 4 := by kernel_rfl
theorem pl_c72 : Tryz.prog.cellsOf 72 = 1 := by kernel_rfl
theorem pl_c3 : Tryz.prog.cellsOf 3 = 1 := by kernel_rfl
/-- the four cells of a plan -/
def PlCells (W : World) (cs : List Value) : Prop := ∃ (p : P10) (a : Option Addr) (c b' o' : Nat), cs = [.int .i64 p.op, .int .i64 p.w, .int .i64 p.n, .slice a p.kids.length c] ∧ (p.kids ≠ [] → a = some ⟨b', o', none⟩) ∧ p.kids.length < 9223372036854775808 ∧ PlsAt W p.kids b' o'
set_option maxRecDepth 20000 in
theorem plan_open {Hh : Type} {enc : TypeId × Value → Hh} {W : World} {b0 : Nat} {sp : Nat → Bool} {held : Bool} (fuel : Nat) : ∀ (cs : List Value) (x : DataW Hh × List MemPlace), DataW.trod enc Tryz.prog W b0 sp held fuel 74 cs = some x → PlCells W cs := by
  induction fuel using Nat.strongRecOn with
  | _ fuel ih =>
  intro cs x h
  obtain ⟨xs, n, rfl, _, hcl, hxl, hf⟩ := DataW.trod_struct Tryz.underlying74 h
  rw [pl_c74] at hcl
  match cs, hcl with
  | [c0, c1, c2, c3], _ =>
  have hxs : xs.length = 4 := hxl
  have f0 := hf 0 { name := "Op", type := 3, offset := 0, embedded := false, tag := "", pkgPath := "", byteOffset := 0 } rfl
  have f1 := hf 1 { name := "W", type := 3, offset := 1, embedded := false, tag := "", pkgPath := "", byteOffset := 8 } rfl
  have f2 := hf 2 { name := "N", type := 3, offset := 2, embedded := false, tag := "", pkgPath := "", byteOffset := 16 } rfl
  have f3 := hf 3 { name := "Kids", type := 72, offset := 3, embedded := false, tag := "", pkgPath := "", byteOffset := 24 } rfl
  simp only [pl_c3, pl_c72, List.drop_zero, List.drop_succ_cons, List.take_succ_cons, List.take_zero] at f0 f1 f2 f3
  rw [List.getElem?_eq_getElem (by omega)] at f0 f1 f2 f3
  obtain ⟨n0, e0, _⟩ := DataW.trod_int Tryz.underlying3 f0
  obtain ⟨n1, e1, _⟩ := DataW.trod_int Tryz.underlying3 f1
  obtain ⟨n2, e2, _⟩ := DataW.trod_int Tryz.underlying3 f2
  injection e0 with e0
  injection e1 with e1
  injection e2 with e2
  subst e0 e1 e2
  rcases DataW.trod_slice Tryz.underlying72 f3 with ⟨e3, _⟩ | ⟨a, len, cap, elems, rest, m, rfl, e3, _, _, hlc, hcm, hel, hE, _⟩
  · injection e3 with e3
    subst e3
    exact ⟨.mk n0 n1 n2 [], none, 0, 0, 0, rfl, fun h => absurd rfl h, by simp [P10.kids], by unfold PlsAt P10.kids; trivial⟩
  · injection e3 with e3
    subst e3
    rw [pl_c74] at hE
    by_cases h0 : len = 0
    · subst h0
      exact ⟨.mk n0 n1 n2 [], some a, cap, 0, 0, rfl, fun h => absurd rfl h, by simp [P10.kids], by unfold PlsAt P10.kids; trivial⟩
    · have hcell : ∀ i, i < len → ∃ cs1, W.cells? b0 (a.add (i * 4)) 4 = some cs1 ∧ PlCells W cs1 := fun i hi => by
        have h1 := hE i hi
        rw [List.getElem?_eq_getElem (by omega)] at h1
        obtain ⟨cs1, hc1, hy1⟩ := Option.bind_eq_some_iff.1 h1
        exact ⟨cs1, hc1, ih m (by omega) cs1 _ hy1⟩
      have hspot : a = ⟨a.block, a.off, none⟩ := by
        obtain ⟨cs1, hc1, _⟩ := hcell 0 (by omega)
        obtain ⟨_, hl, hc⟩ := World.cells?_some hc1
        have h1 := hc 0 (by omega)
        rw [List.getElem?_eq_getElem (by omega)] at h1
        have h2 := cell_spot h1
        simpa [Addr.add] using h2
      obtain ⟨ps, hpl, hps⟩ := pls_build (W := W) (blk := a.block) len a.off (fun i hi => by
        obtain ⟨cs1, hc1, p, a1, c1, b1, o1, rfl, ha1, hk1, hp1⟩ := hcell i hi
        obtain ⟨_, _, hc⟩ := World.cells?_some hc1
        rw [hspot, add_off] at hc
        have g0 := hc 0 (by omega)
        have g1 := hc 1 (by omega)
        have g2 := hc 2 (by omega)
        have g3 := hc 3 (by omega)
        rw [add_off] at g0 g1 g2 g3
        refine ⟨p, ?_⟩
        obtain ⟨po, pw, pn, pk⟩ := p
        unfold PlAt
        exact ⟨a1, c1, b1, o1, g0, g1, g2, g3, ha1, hk1, hp1⟩)
      refine ⟨.mk n0 n1 n2 ps, some a, cap, a.block, a.off, by rw [P10.kids, hpl]; rfl, fun _ => by rw [← hspot], ?_, hps⟩
      unfold maxLen at hcm
      rw [P10.kids, hpl]
      omega
theorem plan_value {W : World} {cs : List Value} (h : PlCells W cs) : ∃ p : P10, PlV W p (.agg cs.toArray) := by
  obtain ⟨p, a, c, b', o', rfl, h1, h2, h3⟩ := h
  exact ⟨p, a, c, b', o', rfl, h1, h2, h3⟩
end Go.Proofs.YtbimpenhmefpeaaGreatDoor
namespace Go.Proofs.YtbimpenhmefpeaaGreatDoor
open Go.ChangeShapes Go.ChangeMaps Go.WideShapes Go.ChangeAt Go.WideMaps Go.WideElems Go.RowKit

abbrev laid3 : List (String × DataW Unit) := [("math/bits.deBruijn32tab", Rows.laid_math_bits_deBruijn32tab), ("math/bits.deBruijn64tab", Rows.laid_math_bits_deBruijn64tab), ("internal/strconv.uint64pow10", Rows.laid_internal_strconv_uint64pow10)]
theorem ownK : ownKnob Tryz.prog.godebug = none := by kernel_rfl
theorem g64 : Tryz.prog.globalNamed "math/bits.deBruijn64tab" = some 0 := by kernel_rfl
theorem t64 : (Tryz.prog.globals[0]?).map (·.type) = some 270 := by kernel_rfl
theorem door_met (os : Os) (args : Array Value) : laidMetH Tryz.prog laid3 ((World.doorLaid Tryz.prog 400 os).forCall (fun _ _ => 0) ⟨#[], args, []⟩).memory :=
  laidMetH_of_parts3 (fuel := 8) (laidMet_of_run' 8 (by kernel_rfl) (by kernel_rfl)) (by kernel_rfl) (by kernel_rfl)
theorem laid64_eq : (Rows.laid_math_bits_deBruijn64tab : DataW Unit) = .agg (Lib.deBruijn64tab.map fun (k : Nat) => DataW.lit (.int .u8 (k : Int))) := rfl
theorem arr_cells {P : Program} {W : World} {b0 : Nat} {sp : Nat → Bool} {held : Bool} {fuel : Nat} {T e : TypeId} {n : Nat} {cs : List Value} {l : List Nat} {q : List MemPlace} {enc : TypeId × Value → Unit} (hT : P.underlying T = some (.array n e)) (he : P.underlying e = some (.int .u8)) (hc : P.cellsOf e = 1)
    (hd : DataW.trod enc P W b0 sp held fuel T cs = some (.agg (l.map fun (k : Nat) => DataW.lit (.int .u8 (k : Int))), q)) (hl : l.length = n) : ∀ j, j < n → cs[j]? = some (.int .u8 (l.getD j 0)) := by
  intro j hj
  obtain ⟨xs, m, _, hx, _, hn, hel⟩ := DataW.trod_array hT hd
  simp only [Prod.mk.injEq, DataW.agg.injEq] at hx
  have h1 := hel j hj
  rw [hc, Nat.mul_one] at h1
  have hjx : j < xs.length := by omega
  rw [List.getElem?_eq_getElem hjx] at h1
  obtain ⟨k, e1, e2, _⟩ := DataW.trod_int he h1
  have h2 : (l.map fun (k : Nat) => (DataW.lit (.int .u8 (k : Int)) : DataW Unit))[j]? = (xs.map (·.1))[j]? := by rw [hx.1]
  rw [List.getElem?_map, List.getElem?_map, List.getElem?_eq_getElem hjx, List.getElem?_eq_getElem (by omega), e2] at h2
  simp only [Option.map_some, Option.some.injEq, DataW.lit.injEq, Lit.int.injEq, true_and] at h2
  have h3 : (cs.drop j)[0]? = some (.int .u8 k) := by
    have : ((cs.drop j).take 1)[0]? = some (.int .u8 k) := by rw [e1]; rfl
    simpa using this
  rw [List.getElem?_drop, Nat.add_zero] at h3
  rw [h3, List.getD_eq_getElem?_getD, List.getElem?_eq_getElem (by omega), ← h2]
  rfl
/-- what the listed variables give: the table of trailing zeros -/
theorem tab_of_laid {W : World} (h : laidMetH Tryz.prog laid3 W) : Tab W := by
  rw [MakeChecks.laidMetH_plain _ _ _ (by kernel_rfl)] at h
  obtain ⟨ps, ⟨g0, t0, cs0, f0, p0, q0, _, _, _, _, ⟨g1, t1, cs1, f1, p1, q1, hg1, ht1, hv1, hd1, _⟩, _⟩, _, _⟩ := h
  obtain rfl := Option.some.inj (g64.symm.trans hg1)
  obtain rfl := Option.some.inj (t64.symm.trans ht1)
  rw [laid64_eq] at hd1
  have h64 := arr_cells Tryz.underlying270 Tryz.underlying5 (by kernel_rfl) (l := Lib.deBruijn64tab) hd1 (by decide)
  intro j hj
  have := World.var?_cell hg1 hv1 j
  rw [this, ← Array.getElem?_toList]
  exact h64 j hj
end Go.Proofs.YtbimpenhmefpeaaGreatDoor
namespace Go.Proofs.YtbimpenhmefpeaaGreatDoor
open Go.ChangeShapes Go.ChangeMaps Go.WideShapes Go.ChangeAt Go.WideMaps Go.WideElems Go.RowKit
open Pv (P10)

theorem sorts_laid : laidOutB Tryz.prog = true := by kernel_rfl
set_option maxRecDepth 100000 in
theorem sorts_lifted (os : Os) (started : os.Started) (H : Type) (enc : TypeId × Value → H) :
    ReturnsInHanded {} Tryz.checked os 5 .any (fun w args => (Rows.canonSortsSpec.pre enc Tryz.prog Tryz.f5 [] false w args ∧ laidMetH Tryz.prog laid3 w) ∧ sizedMet enc Tryz.prog Tryz.f5 (OpenSpec.ofChange Rows.canonSortsSpec) false w args)
      (Rows.canonSortsSpec.post enc Tryz.prog Tryz.f5 false true false false) := by
  refine returnsInHanded_of_change_and (C := Tryz.checked) (X := fun w _ => laidMetH Tryz.prog laid3 w) (fun _ _ _ hh h => h.of_heap hh) ownK started (by kernel_rfl) Tryz.func5
    (ChangeSpec.witness_shaped (enc := enc) (C := Tryz.checked) (os := os) (X := fun w _ => laidMetH Tryz.prog laid3 w) false (World.doorLaid Tryz.prog 400 os) #[.agg #[.int .i64 0, .int .i64 0, .int .i64 0, .slice none 0 0], .int .i64 0] 8 rfl (World.shaped_of_RefB (by kernel_rfl) (by kernel_rfl)) (by kernel_rfl) (by kernel_rfl) (by kernel_rfl) (door_met os _)) ?_
  intro W base args ds gs before hval0 hW _ _ hL _
  have hval : ∀ (j : Nat) t v, Tryz.f5.params[j]? = some t → args[j]? = some v → Value.okWide Tryz.prog W .any base t v := hval0
  have hW' := hW
  obtain ⟨p, q, hA0, hV, rfl, hfz, hnd⟩ := hW
  have hA : DataW.TrodAll enc Tryz.prog W 0 (fun _ => true) true Tryz.f5.params.toList args.toList ds p := hA0
  rw [Tryz.params5] at hA hval
  obtain ⟨v0, v1, d0, d1, p0, p1, rfl, rfl, rfl, h0, h1⟩ := trodAll_two hA
  obtain ⟨rfl, rfl⟩ := trodVars_none hV
  have h0k := h0
  obtain ⟨cs, rfl, _⟩ := okWide_struct Tryz.underlying74 (hval 0 74 v0 rfl rfl)
  obtain ⟨fuel, hfu⟩ := h0
  obtain ⟨p, hp⟩ := plan_value (plan_open fuel _ _ hfu)
  have hpv : PlV W p (.agg cs) := hp
  obtain ⟨n, rfl, rfl, rfl, hn⟩ := open_int Tryz.underlying3 (hval 1 3 v1 rfl rfl) h1
  have hT := tab_of_laid hL
  clear hA0 hval0 hL
  simp only [List.append_nil] at hW'
  have hlt : ∀ x ∈ p0, x.block < W.heap.size := fun x hx => by simpa using hW'.lt x hx
  refine (sorts_law p _ n W hT hpv).mono ?_
  rintro e W' ⟨rfl, hbel⟩
  refine ⟨_, rfl, _, _, _, [], p0 ++ [], [], hW', ?_, ?_, rfl, Below.frame hbel _, fun h => by cases h⟩
  · exact trodAll_mk1 (shut_bool Tryz.underlying4 _)
  · exact trodAll_mk2 (Below.trod sorts_laid (by kernel_rfl) (of_decide_eq_true (by kernel_rfl)) h0k hbel hlt) (shut_int Tryz.underlying3 hn)
theorem canonSorts_said : Rows.CanonSortsSaid :=
  OpenClaim.holds_of_wide 5 Tryz.f5 rfl rfl rfl rfl rfl rfl rfl ⟨rfl, rfl, rfl, rfl, rfl⟩ rfl rfl rfl rfl rfl (by kernel_rfl) Tryz.func5 (by kernel_rfl)
    (of_decide_eq_true (by kernel_rfl)) (by unfold Func.isWrapper; first | (rw [if_pos (by decide +kernel)]; kernel_rfl) | (rw [if_neg (by decide +kernel)]; exact ⟨rfl, rfl⟩))
    (fun os started H enc _ => sorts_lifted os started H enc)
end Go.Proofs.YtbimpenhmefpeaaGreatDoor
namespace Go.Proofs.YtbimpenhmefpeaaGreatDoor
open Go
theorem canonSorts_holds : Rows.CanonSortsCardSaid :=
  Claim7.holds_tied_plain_at .later [] [.data, .data, .data] true (true, "fb2de4d0a0ac8d9c3c96458ea43e727b602dfb7fe4b6a57c9a442cb1f5f6da53") false
    canonSorts_said (fun _ h => by cases h) (by kernel_rfl) (fun _ h => by cases h) canonSorts_row_tie rfl ⟨rfl, rfl⟩ (by kernel_rfl) rfl
    (fun f fn hf hfn => by
      obtain rfl : f = 5 := Option.some.inj ((show Tryz.prog.funcNamed "periscope/periscopelaw17.CanonSorts" = some 5 by kernel_rfl).symm.trans hf) |>.symm
      obtain rfl : fn = Tryz.f5 := (Option.some.inj (Tryz.func5.symm.trans hfn)).symm
      exact ⟨by kernel_rfl, fun j t ht => by
        rw [Tryz.params5] at ht
        have hm : t ∈ [74, 3] := by simpa using Array.mem_of_getElem? ht
        have hall : ([74, 3].all fun u => !Tryz.prog.wantsStandIn u) = true := by kernel_rfl
        exact (show Tryz.prog.wantsStandIn t = false by simpa using List.all_eq_true.1 hall t hm)⟩)
    (by kernel_rfl)
end Go.Proofs.YtbimpenhmefpeaaGreatDoor
