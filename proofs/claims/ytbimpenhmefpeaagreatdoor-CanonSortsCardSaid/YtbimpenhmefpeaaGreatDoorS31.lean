/- Make where there is a fault; Canon by no state at all. -/
import Derived.Test.YtbimpenhmefpeaaGreatDoorS27
import Derived.Test.YtbimpenhmefpeaaGreatDoorS30
import Derived.Test.YtbimpenhmefpeaaGreatDoorS03
import Derived.Test.YtbimpenhmefpeaaGreatDoorS01
import Derived.Test.YtbimpenhmefpeaaGreatDoorS11
import Derived.Test.YtbimpenhmefpeaaGreatDoorS29
set_option linter.all false
namespace Go.Proofs.YtbimpenhmefpeaaGreatDoor
open Go.RowKit Go.Maps
variable {H : Nat → Prop}

abbrev FV (f : Pv.Fault) : Value := .agg (faultC f)
theorem fl_set2 {w : World} {r : Nat} (f : Pv.Fault) (h : w.heap[r]? = some (.cells #[.int .i64 0, .int .i64 0, .int .i64 0, .bool false, Str [], .int .i64 0, .int .i64 0] 36)) :
    (((((((w.setCell ⟨r, 0, none⟩ (.int .i64 (f.e : Int))).setCell ⟨r, 1, none⟩ (.int .i64 (f.op : Int))).setCell ⟨r, 2, none⟩ (.int .i64 f.at_)).setCell ⟨r, 3, none⟩ (.bool f.view)).setCell ⟨r, 4, none⟩ (Str f.text)).setCell ⟨r, 5, none⟩ (.int .i64 f.i)).setCell ⟨r, 6, none⟩ (.int .i64 f.j)).heap[r]? = some (.cells (faultC f) 36) ∧
    Keep (· = r) w (((((((w.setCell ⟨r, 0, none⟩ (.int .i64 (f.e : Int))).setCell ⟨r, 1, none⟩ (.int .i64 (f.op : Int))).setCell ⟨r, 2, none⟩ (.int .i64 f.at_)).setCell ⟨r, 3, none⟩ (.bool f.view)).setCell ⟨r, 4, none⟩ (Str f.text)).setCell ⟨r, 5, none⟩ (.int .i64 f.i)).setCell ⟨r, 6, none⟩ (.int .i64 f.j)) := by
  have K : ∀ (W : World) (o : Nat) (v : Value), Keep (· = r) W (W.setCell ⟨r, o, none⟩ v) := fun W o v => Keep.set rfl
  refine ⟨?_, ((((((K _ _ _).trans (K _ _ _)).trans (K _ _ _)).trans (K _ _ _)).trans (K _ _ _)).trans (K _ _ _)).trans (K _ _ _)⟩
  rw [blk_set (blk_set (blk_set (blk_set (blk_set (blk_set (blk_set h))))))]
  rfl
/-- what Canon leaves where there is a fault -/
def CanF (P : Pv.Fault → Prop) (c bb : Nat) (w : World) (e : Ending) (w' : World) : Prop := e = .returned (.pointer none) ∧ ∃ f : Pv.Fault, CkAt w' c bb f ∧ f.e ≠ 0 ∧ P f ∧ Keep (askT c bb) w w'
def MakeF (P : Pv.Fault → Prop) (bb : Nat) (w : World) (e : Ending) (w' : World) : Prop := ∃ f : Pv.Fault, e = .returned (.tuple #[.pointer none, FV f]) ∧ P f ∧ Keep (· = bb) w w'
set_option maxRecDepth 20000 in
theorem make_fail (P : Pv.Fault → Prop) (tv : Value) (bb : Nat) (w : World)
    (hc : ∀ w1 c, Below w.heap.size w w1 → CkAt w1 c bb {} → w.heap.size < c → Calls Tryz.prog 21 #[Ptr c, tv] w1 (CanF P c bb w1)) (hb : bb < w.heap.size) :
    Calls Tryz.prog 27 #[tv, Ptr bb] w (MakeF P bb w) := by
  have HC := Lib.hid hc
  clear hc
  go_enter Tryz.func27, Tryz.ntmps27
  go_wp2_with fail
  obtain ⟨r, hr⟩ : ∃ r, w.heap.size = r := ⟨_, rfl⟩
  obtain ⟨w1, hw1⟩ : ∃ w1, (w.alloc (.cells #[.int .i64 0, .int .i64 0, .int .i64 0, .bool false, Str [], .int .i64 0, .int .i64 0] 36)).alloc (.cells #[Ptr bb, .int .i64 0, .int .i64 0, .int .i64 0, .bool false, Str [], .int .i64 0, .int .i64 0] 38) = w1 := ⟨_, rfl⟩
  have hb1 : Below w.heap.size w w1 := by rw [← hw1]; exact ((Below.refl _ _).alloc (Nat.le_refl _) _).alloc (by simp) _
  have hr1 : w1.heap[r]? = some (.cells #[.int .i64 0, .int .i64 0, .int .i64 0, .bool false, Str [], .int .i64 0, .int .i64 0] 36) := by rw [← hw1]; exact blk_old (blk_new hr)
  have hc1 : CkAt w1 (r + 1) bb {} := by rw [← hw1]; exact blk_new (by simp; omega)
  rw [hw1, hr]
  clear hw1
  have HCa := Lib.hid (HC.out w1 (r + 1) hb1 hc1 (by omega))
  have HR1 := Lib.hid hr1
  have HB1 := Lib.hid hb1
  clear hb1 hr1 hc1 HC
  refine HCa.out.mono ?_
  rintro e w2 ⟨rfl, f, hc2, hfe, hp, hk2⟩
  have hr2 := hk2.blk (by rintro (e | e) <;> omega) HR1.out
  have hok := ok_any (r + 1) bb f w2 hc2
  rw [show (f.e == 0) = false by simpa using hfe] at hok
  have HOk := Lib.hid hok
  have HR2 := Lib.hid hr2
  have HC2 := Lib.hid hc2
  have HP := Lib.hid hp
  have HKw := Lib.hid ((Keep.of_below (H := (· = bb)) HB1.out).trans_ hk2 fun x e => by
    rcases e with e | e
    · right; omega
    · exact .inl e)
  clear hok hr2 hc2 hk2 HCa hfe hp
  go_wp2_with fail
  refine HOk.out.mono ?_
  rintro e w3 ⟨rfl, e3⟩
  subst e3
  clear HOk
  have nf : ∀ x, ¬ (fun _ : Nat => False) x := fun _ h => h
  have nr := nf r
  have nc := nf (r + 1)
  have c1 : w2.cell? ⟨r + 1, 1, none⟩ = some (.int .i64 (f.e : Int)) := cell_of_blk (o := 1) HC2.out rfl
  have c2 : w2.cell? ⟨r + 1, 2, none⟩ = some (.int .i64 (f.op : Int)) := cell_of_blk (o := 2) HC2.out rfl
  have c3 : w2.cell? ⟨r + 1, 3, none⟩ = some (.int .i64 f.at_) := cell_of_blk (o := 3) HC2.out rfl
  have c4 : w2.cell? ⟨r + 1, 4, none⟩ = some (.bool f.view) := cell_of_blk (o := 4) HC2.out rfl
  have c5 : w2.cell? ⟨r + 1, 5, none⟩ = some (Str f.text) := cell_of_blk (o := 5) HC2.out rfl
  have c6 : w2.cell? ⟨r + 1, 6, none⟩ = some (.int .i64 f.i) := cell_of_blk (o := 6) HC2.out rfl
  have c7 : w2.cell? ⟨r + 1, 7, none⟩ = some (.int .i64 f.j) := cell_of_blk (o := 7) HC2.out rfl
  have x0 : w2.cell? ⟨r, 0, none⟩ = some (.int .i64 0) := cell_of_blk (o := 0) HR2.out rfl
  have x1 : w2.cell? ⟨r, 1, none⟩ = some (.int .i64 0) := cell_of_blk (o := 1) HR2.out rfl
  have x2 : w2.cell? ⟨r, 2, none⟩ = some (.int .i64 0) := cell_of_blk (o := 2) HR2.out rfl
  have x3 : w2.cell? ⟨r, 3, none⟩ = some (.bool false) := cell_of_blk (o := 3) HR2.out rfl
  have x4 : w2.cell? ⟨r, 4, none⟩ = some (Str []) := cell_of_blk (o := 4) HR2.out rfl
  have x5 : w2.cell? ⟨r, 5, none⟩ = some (.int .i64 0) := cell_of_blk (o := 5) HR2.out rfl
  have x6 : w2.cell? ⟨r, 6, none⟩ = some (.int .i64 0) := cell_of_blk (o := 6) HR2.out rfl
  have fr : ∀ o, w2.frozen? ⟨r, o, none⟩ = false := fun o => frozen_of_blk HR2.out
  go_wp2_with fail
  refine Eag.region (.mov 0 (.mov 1 (.mov 2 (.mov 3 (.mov 4 (.anc 5 Eag.Sch.fin)))))) [5] (by kernel_rfl) (by kernel_rfl) (fun K ops hops hK => ?_)
  iterate 5
    refine Eag.mov hops rfl rfl (fun w' hb => ?_) ?_
    · have q0 := later hb c1; have q1 := later hb c2; have q2 := later hb c3; have q3 := later hb c4; have q4 := later hb c5; have q5 := later hb c6; have q6 := later hb c7; clear hb; go_simp
    go_simp
  refine Eag.anc hops rfl rfl ?_
  go_wp2_with fail
  refine Eag.fin (hK _ _ ?_)
  clear hK hops
  go_simp
  go_wp2_with fail
  clear x0 x1 x2 x3 x4 x5 x6 fr c1 c2 c3 c4 c5 c6 c7
  have hst := fl_set2 f HR2.out
  obtain ⟨w4, hw4⟩ : ∃ w4, (((((((w2.setCell ⟨r, 0, none⟩ (.int .i64 (f.e : Int))).setCell ⟨r, 1, none⟩ (.int .i64 (f.op : Int))).setCell ⟨r, 2, none⟩ (.int .i64 f.at_)).setCell ⟨r, 3, none⟩ (.bool f.view)).setCell ⟨r, 4, none⟩ (Str f.text)).setCell ⟨r, 5, none⟩ (.int .i64 f.i)).setCell ⟨r, 6, none⟩ (.int .i64 f.j)) = w4 := ⟨_, rfl⟩
  rw [hw4] at hst ⊢
  clear hw4
  have hd4 : w4.drew.heap[r]? = some (.cells (faultC f) 36) := hst.1
  have x0 : w4.drew.cell? ⟨r, 0, none⟩ = some (.int .i64 (f.e : Int)) := cell_of_blk (o := 0) hd4 rfl
  have x1 : w4.drew.cell? ⟨r, 1, none⟩ = some (.int .i64 (f.op : Int)) := cell_of_blk (o := 1) hd4 rfl
  have x2 : w4.drew.cell? ⟨r, 2, none⟩ = some (.int .i64 f.at_) := cell_of_blk (o := 2) hd4 rfl
  have x3 : w4.drew.cell? ⟨r, 3, none⟩ = some (.bool f.view) := cell_of_blk (o := 3) hd4 rfl
  have x4 : w4.drew.cell? ⟨r, 4, none⟩ = some (Str f.text) := cell_of_blk (o := 4) hd4 rfl
  have x5 : w4.drew.cell? ⟨r, 5, none⟩ = some (.int .i64 f.i) := cell_of_blk (o := 5) hd4 rfl
  have x6 : w4.drew.cell? ⟨r, 6, none⟩ = some (.int .i64 f.j) := cell_of_blk (o := 6) hd4 rfl
  refine bodyPost_ret (v := .tuple #[.pointer none, FV f]) ?_ rfl ⟨f, rfl, HP.out, (HKw.out.trans_ hst.2 fun x e => .inr (by omega)).trans (Keep.drew _)⟩
  simp [results, Tryz.results27, go_sem, x0, x1, x2, x3, x4, x5, x6]

/-- the faults by no state at all -/
def ZeroF (t : Pv.T) (f : Pv.Fault) : Prop := f.e = 5 ∨ f.e = 23 ∨ (f.e = 8 ∧ Pv.canonAll t = false)
theorem matchR_dec (t : List UInt8) (r : Pv.R) : Pv.matchR t r = true ∨ Pv.matchR t r = false := by cases Pv.matchR t r <;> simp
set_option maxRecDepth 20000 in
set_option maxHeartbeats 1000000 in
theorem cz_keep (t : Pv.T) (r : Pv.R) (tb rb c bb u : Nat) (at_ : Int) (name text back : List UInt8) (a : Option Addr) (kc : Nat) (w : World) (hT : Tab w) (ht : TermAt w tb 16 at_ name (Ptr rb) text back (.slice a 0 kc)) (hr : ReAt H w r rb) (hbud : BudAt w bb 0 u) (hbb : H bb) (hH : ∀ h, H h → h < w.heap.size)
    (hsz : Pv.size r < 137438953472) (hc : CkAt w c bb {}) (hsh : Pure 38 #[Ptr tb] w (.bool true)) :
    Calls Tryz.prog 21 #[Ptr c, Ptr tb] w (CanF (ZeroF t) c bb w) := by
  have HR := Lib.hid hr
  clear hr
  have t0 : w.cell? ⟨tb, 0, none⟩ = some (.int .i64 16) := cell_of_blk (o := 0) ht rfl
  have t6 : w.cell? ⟨tb, 6, none⟩ = some (.slice a 0 kc) := cell_of_blk (o := 6) ht rfl
  have htl := blk_lt ht
  have HSh := Lib.hid hsh
  have HT := Lib.hid hT
  have HTm := Lib.hid ht
  have HBud := Lib.hid hbud
  have HH := Lib.hid hH
  have HC := Lib.hid hc
  clear hsh hT ht hbud hH hc
  go_enter Tryz.func21, Tryz.ntmps21
  go_wp2_with fail
  refine HSh.out.mono ?_
  rintro e w' ⟨rfl, rfl⟩
  go_wp2_with fail
  obtain ⟨k, hk⟩ : ∃ k, w.heap.size = k := ⟨_, rfl⟩
  obtain ⟨w1, hw1⟩ : ∃ w1, w.alloc (.cells #[Ptr tb, .pointer none, .pointer none, .slice none 0 0, .pointer none, .pointer none] 68) = w1 := ⟨_, rfl⟩
  have hb1 : Below w.heap.size w w1 := by rw [← hw1]; exact (Below.refl _ _).alloc (Nat.le_refl _) _
  have hx1 : w1.heap[k]? = some (.cells (CanC tb (.pointer none) (.pointer none) (.slice none 0 0) (.pointer none) (.pointer none)) 68) := by rw [← hw1]; exact blk_new hk
  rw [hw1, hk]
  have hwk : w.heap.size ≤ k := by omega
  clear hw1
  have HB1 := Lib.hid hb1
  have HX1 := Lib.hid hx1
  clear hb1 hx1
  clear t0 t6
  go_loopw [58] (fun i wr => i = .int .i64 0 ∧ wr = w1) (fun _ _ => 0)
  case atStart => exact ⟨rfl, rfl⟩
  case round =>
  obtain ⟨rfl, rfl⟩ := hrel
  obtain ⟨w1, hw1⟩ : ∃ w1, wr = w1 := ⟨_, rfl⟩
  rw [hw1] at HB1 HX1 ⊢
  clear hw1
  have htm1 := later_blk HB1.out HTm.out
  have hty := types_keep c k tb rb at_ name text back (.slice a 0 kc) (.slice none 0 0) w1 HX1.out htm1
  have HTy := Lib.hid hty
  clear hty htm1
  go_wp2_with fail
  refine HTy.out.mono ?_
  rintro e w2 ⟨rfl, hx2, hk2⟩
  have HX2 := Lib.hid hx2
  have hk2w : Keep (askT c bb) w w2 := (Keep.of_below HB1.out).trans_ hk2 fun x e => .inr (by rw [e]; exact hwk)
  have HK2 := Lib.hid hk2w
  have hkbb : bb ≠ k := by have := HH.out bb hbb; omega
  have HB2 := Lib.hid ((HBud.out.later HB1.out).keep hk2 hkbb)
  have hcw := blk_lt HC.out
  have HC2 := Lib.hid (show CkAt w2 c bb {} from (HC.out.later HB1.out).keep hk2 (show ¬ c = k by omega))
  have HT2 := Lib.hid (show Tab w2 from (HT.out.later HB1.out).keep hk2 (fun e => by
    have h0 := (HT.out 0 (by decide))
    have := World.block_lt_of_cell? w _ h0
    simp at this
    omega))
  have hr1 : ReAt (fun x => H x ∨ x = k) w r rb := HR.out.widen fun x hx => by
    rcases hx with hx | hx
    · exact .inl hx
    · exact .inr (by omega)
  have HR2 := Lib.hid (show ReAt H w2 r rb from ((hr1.later HB1.out).keep (hk2.wide fun x e => .inl (.inr e))).widen fun x h => .inl (.inl h))
  clear hx2 hk2 hk2w hr1 HTy
  have hkc : ¬ k = c := by have := blk_lt HC.out; omega
  have hkb : ¬ k = bb := by have := HH.out bb hbb; omega
  have c1 : w2.cell? ⟨k, 1, none⟩ = some (Ptr rb) := cell_of_blk (o := 1) HX2.out rfl
  have hsd := side_none (H := H) r rb c bb 0 u w2 HT2.out HR2.out HB2.out hbb (fun h hh => Nat.lt_of_lt_of_le (HH.out h hh) HK2.out.size) hsz (by omega) HC2.out (Pv.side_zero r)
  have HSd := Lib.hid hsd
  clear hsd
  go_wp2_with fail
  refine HSd.out.mono ?_
  rintro e w3 ⟨rfl, hc3, _, hk3⟩
  have hx3 := hk3.blk (by rintro (e | e) <;> omega) HX2.out
  have c4 : w3.cell? ⟨k, 4, none⟩ = some (.pointer none) := cell_of_blk (o := 4) hx3 rfl
  have c2 : w3.cell? ⟨k, 2, none⟩ = some (Ptr rb) := cell_of_blk (o := 2) hx3 rfl
  have f4 : ∀ o, w3.frozen? ⟨k, o, none⟩ = false := fun o => frozen_of_blk hx3
  have HX3 := Lib.hid hx3
  have HC3 := Lib.hid hc3
  have HK3 := Lib.hid (HK2.out.trans hk3)
  clear hx3 hc3 hk3 HSd c1 HX2
  go_wp2_with fail
  obtain ⟨w4, hw4⟩ : ∃ w4, w3.setCell ⟨k, 4, none⟩ (.pointer none) = w4 := ⟨_, rfl⟩
  have hk4 : Keep (· = k) w3 w4 := by rw [← hw4]; exact Keep.set rfl
  have hx4 : w4.heap[k]? = some (.cells (CanC tb (Ptr rb) (Ptr rb) (.slice none 0 0) (.pointer none) (.pointer none)) 68) := by rw [← hw4, blk_set HX3.out]; rfl
  rw [hw4]
  clear hw4 c4 f4 c2
  have hc4 := HC3.out.keep hk4 (fun e => hkc e.symm)
  have HC4 := Lib.hid hc4
  have HK4 := Lib.hid (HK3.out.trans_ hk4 fun x e => .inr (by rw [e]; exact hwk))
  have c5 : w4.cell? ⟨k, 5, none⟩ = some (.pointer none) := cell_of_blk (o := 5) hx4 rfl
  have f5 : ∀ o, w4.frozen? ⟨k, o, none⟩ = false := fun o => frozen_of_blk hx4
  have hsn := side_not c bb { e := 5 } w4 hc4 (by decide) rb
  have HSn := Lib.hid hsn
  clear hx4 hc4 hk4 hsn HC3 HK3 HX3
  refine HSn.out.mono ?_
  rintro e w' ⟨rfl, e4⟩
  subst e4
  go_wp2_with fail
  obtain ⟨w5, hw5⟩ : ∃ w5, w4.setCell ⟨k, 5, none⟩ (.pointer none) = w5 := ⟨_, rfl⟩
  have hk5 : Keep (· = k) w4 w5 := by rw [← hw5]; exact Keep.set rfl
  rw [hw5]
  clear hw5 c5 f5 HSn
  have hc5 := HC4.out.keep hk5 (fun e => hkc e.symm)
  have HC5 := Lib.hid hc5
  have HK5 := Lib.hid (HK4.out.trans_ hk5 fun x e => .inr (by rw [e]; exact hwk))
  have HOk := Lib.hid (ok_any c bb { e := 5 } w5 hc5)
  clear hc5 hk5
  refine HOk.out.mono ?_
  rintro e w' ⟨rfl, e5⟩
  subst e5
  go_wp2_with fail
  go_ret
  exact ⟨rfl, { e := 5 }, HC5.out, by decide, .inl rfl, HK5.out⟩
set_option maxRecDepth 20000 in
/-- types, where the text is none of the expression's -/
theorem types_normF (P : Pv.R → Prop) (hP : ∀ r c, P r → P (Pv.by_ c r)) (hPs : ∀ r, P r → Pv.size r ≤ 300000) (r : Pv.R) (hrP : P r) (c bb k tb rb : Nat) (at_ : Int) (name text back : List UInt8) (kids kv : Value) (w : World) (hx : w.heap[k]? = some (.cells (CanC tb (.pointer none) (.pointer none) kv (.pointer none) (.pointer none)) 68)) (ht : TermAt w tb 17 at_ name (Ptr rb) text back kids)
    (hr : ReAt H w r rb) (hH : ∀ h, H h → h < w.heap.size) (hHk : H k) (htl : text.length < 549755813888) (hc : CkAt w c bb {}) (hq : Pv.matchR text r = false) :
    Calls Tryz.prog 61 #[Ptr c, Ptr k] w fun e w' => e = .returned (.bool false) ∧ CkAt w' c bb { e := 23, op := 17, at_ := at_, text := text } ∧ Keep (fun x => x = k ∨ x = c) w w' := by
  have x0 : w.cell? ⟨k, 0, none⟩ = some (Ptr tb) := cell_of_blk (o := 0) hx rfl
  have t0 : w.cell? ⟨tb, 0, none⟩ = some (.int .i64 17) := cell_of_blk (o := 0) ht rfl
  have t3 : w.cell? ⟨tb, 3, none⟩ = some (Ptr rb) := cell_of_blk (o := 3) ht rfl
  have t4 : w.cell? ⟨tb, 4, none⟩ = some (Str text) := cell_of_blk (o := 4) ht rfl
  have nft : ¬ (fun _ : Nat => False) tb := fun h => h
  have hwd := word_any (H := H) text w.drew hH (by omega)
  have HX := Lib.hid hx
  have HT := Lib.hid ht
  have HR := Lib.hid hr
  have HC := Lib.hid hc
  have HWd := Lib.hid hwd
  have HH := Lib.hid hH
  have HP := Lib.hid hP
  have HPs := Lib.hid hPs
  have HQ := Lib.hid hq
  have hkc : k ≠ c := by
    rintro rfl
    have h2 := HC.out
    unfold CkAt at h2
    rw [HX.out] at h2
    cases h2
  have hkt : k ≠ tb := by
    rintro rfl
    have h2 := HT.out
    unfold TermAt at h2
    rw [HX.out] at h2
    cases h2
  clear hx ht hr hc hwd hH hP hPs hq
  go_enter Tryz.func61, Tryz.ntmps61
  go_wp2_with fail
  refine Eaq.region (Keep fun _ => False) (.mov 0 (.mov 1 (.mov 2 (.mov 3 (.mov 4 (.mov 5 (.mov 6 (.mov 7 (.mov 8 (.mov 9 (.anc 10 (.mov 11 (.mov 12 (.anc 13 (.mov 14 (.mov 15 (.anc 16 Eag.Sch.fin))))))))))))))))) [13, 16] [1] (by kernel_rfl) (by kernel_rfl) (fun K ops hops hK => ?_)
  iterate 10
    first
      | (refine Eaq.mov hops rfl rfl rfl (fun w' hb => ?_) ?_
         · have q0 := Keep.cell hb nft t3; have q1 := Keep.cell hb nft t4; clear hb; go_simp)
      | (refine Eaq.movA hops rfl rfl (fun w' => ?_) ?_
         · go_simp)
    go_simp
  refine Eaq.anc hops rfl rfl ?_
  go_wp2_with fail
  refine HWd.out.mono ?_
  rintro e w1 ⟨wb, rfl, hat1, hb1⟩
  refine ⟨Keep.of_below hb1, ?_⟩
  have hB1 : Below w.heap.size w w1 := (Below.refl _ w).drew.trans hb1
  have hx1 := later_blk hB1 HX.out
  have c1 : w1.cell? ⟨k, 1, none⟩ = some (.pointer none) := cell_of_blk (o := 1) hx1 rfl
  have c2 : w1.cell? ⟨k, 2, none⟩ = some (.pointer none) := cell_of_blk (o := 2) hx1 rfl
  have fr : ∀ o, w1.frozen? ⟨k, o, none⟩ = false := fun o => frozen_of_blk hx1
  have HX1 := Lib.hid hx1
  have HB1 := Lib.hid hB1
  have HA1 := Lib.hid hat1
  clear hx1 hB1 hb1 hat1 HWd t3 t4 t0 x0
  iterate 2
    first
      | (refine Eaq.mov hops rfl rfl rfl (fun w' hb => ?_) ?_
         · clear hb; go_simp)
      | (refine Eaq.movA hops rfl rfl (fun w' => ?_) ?_
         · go_simp)
    go_simp
  refine Eaq.anc hops rfl rfl ?_
  go_wp2_with fail
  iterate 2
    first
      | (refine Eaq.mov hops rfl rfl rfl (fun w' hb => ?_) ?_
         · clear hb; go_simp)
      | (refine Eaq.movA hops rfl rfl (fun w' => ?_) ?_
         · go_simp)
    go_simp
  refine Eaq.anc hops rfl rfl ?_
  go_wp2_with fail
  refine Eaq.fin (hK _ _ ?_)
  clear hK hops
  go_simp
  obtain ⟨w2, hw2⟩ : ∃ w2, (w1.setCell ⟨k, 1, none⟩ (Ptr rb)).setCell ⟨k, 2, none⟩ (Ptr wb) = w2 := ⟨_, rfl⟩
  have hk2 : Keep (· = k) w1 w2 := by
    have K : ∀ (W : World) (o : Nat) (v : Value), Keep (· = k) W (W.setCell ⟨k, o, none⟩ v) := fun W o v => Keep.set rfl
    rw [← hw2]; exact (K _ _ _).trans (K _ _ _)
  have hx2 : w2.heap[k]? = some (.cells (CanC tb (Ptr rb) (Ptr wb) kv (.pointer none) (.pointer none)) 68) := by
    rw [← hw2, blk_set (blk_set HX1.out)]; rfl
  rw [hw2]
  clear hw2 c1 c2 fr
  have hk02 : Keep (· = k) w w2 := (Keep.of_below HB1.out).trans hk2
  have ht2 := hk02.blk (show ¬ tb = k by omega) HT.out
  have t3 : w2.cell? ⟨tb, 3, none⟩ = some (Ptr rb) := cell_of_blk (o := 3) ht2 rfl
  have t4 : w2.cell? ⟨tb, 4, none⟩ = some (Str text) := cell_of_blk (o := 4) ht2 rfl
  have hc2 := HC.out.keep hk02 (fun e => hkc e.symm)
  have hkH : Keep H w w2 := hk02.wide fun x e => .inl (by rw [e]; exact hHk)
  have htc : ¬ (fun x => x = c) tb := fun e => by
    have h1 := ht2
    unfold TermAt at h1
    rw [show tb = c from e] at h1
    have h2 := hc2
    unfold CkAt at h2
    rw [h1] at h2
    cases h2
  have hwi := within_any (H := H) P HP.out HPs.out r hrP text rb c bb w2.drew ((HR.out.keep hkH).later (Below.refl _ _).drew) (fun h hh => by have h1 := HH.out h hh; have h2 := hk02.size; exact Nat.lt_of_lt_of_le h1 h2) htl (hc2.later (Below.refl _ _).drew) tb 17 at_ (HeadAt.later (TermAt.head ht2) (Below.refl _ _).drew)
  rw [HQ.out] at hwi
  simp only [Bool.false_eq_true, if_false] at hwi
  have HWi := Lib.hid hwi
  have HK2 := Lib.hid hk02
  clear hk2 hx2 hk02 ht2 hc2 hkH hwi HA1
  go_wp2_with fail
  refine Eaq.region (Keep fun x => x = c) (.mov 0 (.mov 1 (.mov 2 (.mov 3 (.mov 4 (.mov 5 (.mov 6 (.mov 7 (.mov 8 (.mov 9 (.anc 10 (.mov 11 Eag.Sch.fin)))))))))))) [] [] (by kernel_rfl) (by kernel_rfl) (fun K ops hops hK => ?_)
  iterate 10
    first
      | (refine Eaq.mov hops rfl rfl rfl (fun w' hb => ?_) ?_
         · have q0 := Keep.cell hb htc t3; have q1 := Keep.cell hb htc t4; clear hb; go_simp)
      | (refine Eaq.movA hops rfl rfl (fun w' => ?_) ?_
         · go_simp)
    go_simp
  refine Eaq.anc hops rfl rfl ?_
  go_wp2_with fail
  refine HWi.out.mono ?_
  rintro e w3 ⟨rfl, hc3, hk3⟩
  refine ⟨hk3, ?_⟩
  have HC3 := Lib.hid hc3
  have HK3 := Lib.hid ((HK2.out.wide fun x e => .inl (.inl e)).trans (((Keep.drew w2).trans hk3).wide fun x e => .inl (.inr e)) : Keep (fun x => x = k ∨ x = c) w w3)
  clear hc3 hk3 HWi t3 t4
  iterate 1
    first
      | (refine Eaq.mov hops rfl rfl rfl (fun w' hb => ?_) ?_
         · clear hb; go_simp)
      | (refine Eaq.movA hops rfl rfl (fun w' => ?_) ?_
         · go_simp)
    go_simp
  refine Eaq.fin (hK _ _ ?_)
  clear hK hops
  go_simp
  go_wp2_with fail
  refine bodyPost_ret (v := .bool false) ?_ rfl ⟨rfl, HC3.out, HK3.out⟩
  simp [results, Tryz.results61, go_sem]
set_option maxRecDepth 20000 in
set_option maxHeartbeats 1000000 in
theorem cz_norm (P : Pv.R → Prop) (hP : ∀ r c, P r → P (Pv.by_ c r)) (hPs : ∀ r, P r → Pv.size r ≤ 300000) (t : Pv.T) (r : Pv.R) (hrP : P r) (tb rb c bb u : Nat) (at_ : Int) (name text back : List UInt8) (a : Option Addr) (kc : Nat) (w : World) (hT : Tab w) (ht : TermAt w tb 17 at_ name (Ptr rb) text back (.slice a 0 kc)) (hr : ReAt H w r rb) (hbud : BudAt w bb 0 u) (hbb : H bb) (hH : ∀ h, H h → h < w.heap.size)
    (hsz : Pv.size r < 137438953472) (htx : text.length < 549755813888) (hc : CkAt w c bb {}) (hsh : Pure 38 #[Ptr tb] w (.bool true)) :
    Calls Tryz.prog 21 #[Ptr c, Ptr tb] w (CanF (ZeroF t) c bb w) := by
  have HR := Lib.hid hr
  have HP := Lib.hid hP
  have HPs := Lib.hid hPs
  clear hr hP hPs
  have t0 : w.cell? ⟨tb, 0, none⟩ = some (.int .i64 17) := cell_of_blk (o := 0) ht rfl
  have t6 : w.cell? ⟨tb, 6, none⟩ = some (.slice a 0 kc) := cell_of_blk (o := 6) ht rfl
  have htl := blk_lt ht
  have HSh := Lib.hid hsh
  have HT := Lib.hid hT
  have HTm := Lib.hid ht
  have HBud := Lib.hid hbud
  have HH := Lib.hid hH
  have HC := Lib.hid hc
  clear hsh hT ht hbud hH hc
  go_enter Tryz.func21, Tryz.ntmps21
  go_wp2_with fail
  refine HSh.out.mono ?_
  rintro e w' ⟨rfl, rfl⟩
  go_wp2_with fail
  obtain ⟨k, hk⟩ : ∃ k, w.heap.size = k := ⟨_, rfl⟩
  obtain ⟨w1, hw1⟩ : ∃ w1, w.alloc (.cells #[Ptr tb, .pointer none, .pointer none, .slice none 0 0, .pointer none, .pointer none] 68) = w1 := ⟨_, rfl⟩
  have hb1 : Below w.heap.size w w1 := by rw [← hw1]; exact (Below.refl _ _).alloc (Nat.le_refl _) _
  have hx1 : w1.heap[k]? = some (.cells (CanC tb (.pointer none) (.pointer none) (.slice none 0 0) (.pointer none) (.pointer none)) 68) := by rw [← hw1]; exact blk_new hk
  rw [hw1, hk]
  have hwk : w.heap.size ≤ k := by omega
  clear hw1
  have HB1 := Lib.hid hb1
  have HX1 := Lib.hid hx1
  clear hb1 hx1
  clear t0 t6
  have hr1' : ReAt (fun x => H x ∨ x = k) w r rb := HR.out.widen fun x hx => by
    rcases hx with hx | hx
    · exact .inl hx
    · exact .inr (by omega)
  have hlt1 : ∀ h, (H h ∨ h = k) → h < w1.heap.size := fun h hh => by
    have h3 := blk_lt HX1.out
    have h4 := HB1.out.size
    rcases hh with hh | hh
    · have := HH.out h hh; omega
    · omega
  have HR1 := Lib.hid (hr1'.later HB1.out)
  have HL1 := Lib.hid hlt1
  clear hr1' hlt1
  go_loopw [58] (fun i wr => i = .int .i64 0 ∧ wr = w1) (fun _ _ => 0)
  case atStart => exact ⟨rfl, rfl⟩
  case round =>
  obtain ⟨rfl, rfl⟩ := hrel
  obtain ⟨w1, hw1⟩ : ∃ w1, wr = w1 := ⟨_, rfl⟩
  rw [hw1] at HB1 HX1 HR1 HL1 ⊢
  clear hw1
  have htm1 := later_blk HB1.out HTm.out
  rcases matchR_dec text r with hq | hq
  · have hty := types_norm (H := fun x => H x ∨ x = k) P HP.out HPs.out r hrP c bb k tb rb at_ name text back (.slice a 0 kc) (.slice none 0 0) w1 HX1.out htm1 HR1.out HL1.out (.inr rfl) htx (HC.out.later HB1.out) hq
    have HTy := Lib.hid hty
    clear hty htm1 hq
    go_wp2_with fail
    refine HTy.out.mono ?_
    rintro e w2 ⟨cb, rfl, hx2, _, hk2⟩
    as_aux_lemma =>
      have HX2 := Lib.hid hx2
      have hk2w : Keep (askT c bb) w w2 := (Keep.of_below HB1.out).trans_ hk2 fun x e => .inr (by rw [e]; exact hwk)
      have HK2 := Lib.hid hk2w
      have hkbb : bb ≠ k := by have := HH.out bb hbb; omega
      have HB2 := Lib.hid ((HBud.out.later HB1.out).keep hk2 hkbb)
      have hcw := blk_lt HC.out
      have HC2 := Lib.hid (show CkAt w2 c bb {} from (HC.out.later HB1.out).keep hk2 (show ¬ c = k by omega))
      have HT2 := Lib.hid (show Tab w2 from (HT.out.later HB1.out).keep hk2 (fun e => by
        have h0 := (HT.out 0 (by decide))
        have := World.block_lt_of_cell? w _ h0
        simp at this
        omega))
      have hr1 : ReAt (fun x => H x ∨ x = k) w r rb := HR.out.widen fun x hx => by
        rcases hx with hx | hx
        · exact .inl hx
        · exact .inr (by omega)
      have HR2 := Lib.hid (show ReAt H w2 r rb from ((hr1.later HB1.out).keep (hk2.wide fun x e => .inl (.inr e))).widen fun x h => .inl (.inl h))
      clear hx2 hk2 hk2w hr1 HTy
      have hkc : ¬ k = c := by have := blk_lt HC.out; omega
      have hkb : ¬ k = bb := by have := HH.out bb hbb; omega
      have c1 : w2.cell? ⟨k, 1, none⟩ = some (Ptr rb) := cell_of_blk (o := 1) HX2.out rfl
      have hsd := side_none (H := H) r rb c bb 0 u w2 HT2.out HR2.out HB2.out hbb (fun h hh => Nat.lt_of_lt_of_le (HH.out h hh) HK2.out.size) hsz (by omega) HC2.out (Pv.side_zero r)
      have HSd := Lib.hid hsd
      clear hsd
      go_wp2_with fail
      refine HSd.out.mono ?_
      rintro e w3 ⟨rfl, hc3, _, hk3⟩
      have hx3 := hk3.blk (by rintro (e | e) <;> omega) HX2.out
      have c4 : w3.cell? ⟨k, 4, none⟩ = some (.pointer none) := cell_of_blk (o := 4) hx3 rfl
      have c2 : w3.cell? ⟨k, 2, none⟩ = some (Ptr cb) := cell_of_blk (o := 2) hx3 rfl
      have f4 : ∀ o, w3.frozen? ⟨k, o, none⟩ = false := fun o => frozen_of_blk hx3
      have HX3 := Lib.hid hx3
      have HC3 := Lib.hid hc3
      have HK3 := Lib.hid (HK2.out.trans hk3)
      clear hx3 hc3 hk3 HSd c1 HX2
      go_wp2_with fail
      obtain ⟨w4, hw4⟩ : ∃ w4, w3.setCell ⟨k, 4, none⟩ (.pointer none) = w4 := ⟨_, rfl⟩
      have hk4 : Keep (· = k) w3 w4 := by rw [← hw4]; exact Keep.set rfl
      have hx4 : w4.heap[k]? = some (.cells (CanC tb (Ptr rb) (Ptr cb) (.slice none 0 0) (.pointer none) (.pointer none)) 68) := by rw [← hw4, blk_set HX3.out]; rfl
      rw [hw4]
      clear hw4 c4 f4 c2
      have hc4 := HC3.out.keep hk4 (fun e => hkc e.symm)
      have HC4 := Lib.hid hc4
      have HK4 := Lib.hid (HK3.out.trans_ hk4 fun x e => .inr (by rw [e]; exact hwk))
      have c5 : w4.cell? ⟨k, 5, none⟩ = some (.pointer none) := cell_of_blk (o := 5) hx4 rfl
      have f5 : ∀ o, w4.frozen? ⟨k, o, none⟩ = false := fun o => frozen_of_blk hx4
      have hsn := side_not c bb { e := 5 } w4 hc4 (by decide) cb
      have HSn := Lib.hid hsn
      clear hx4 hc4 hk4 hsn HC3 HK3 HX3
      refine HSn.out.mono ?_
      rintro e w' ⟨rfl, e4⟩
      subst e4
      go_wp2_with fail
      obtain ⟨w5, hw5⟩ : ∃ w5, w4.setCell ⟨k, 5, none⟩ (.pointer none) = w5 := ⟨_, rfl⟩
      have hk5 : Keep (· = k) w4 w5 := by rw [← hw5]; exact Keep.set rfl
      rw [hw5]
      clear hw5 c5 f5 HSn
      have hc5 := HC4.out.keep hk5 (fun e => hkc e.symm)
      have HC5 := Lib.hid hc5
      have HK5 := Lib.hid (HK4.out.trans_ hk5 fun x e => .inr (by rw [e]; exact hwk))
      have HOk := Lib.hid (ok_any c bb { e := 5 } w5 hc5)
      clear hc5 hk5
      refine HOk.out.mono ?_
      rintro e w' ⟨rfl, e5⟩
      subst e5
      go_wp2_with fail
      go_ret
      exact ⟨rfl, { e := 5 }, HC5.out, by decide, .inl rfl, HK5.out⟩
  · have hty := types_normF (H := fun x => H x ∨ x = k) P HP.out HPs.out r hrP c bb k tb rb at_ name text back (.slice a 0 kc) (.slice none 0 0) w1 HX1.out htm1 HR1.out HL1.out (.inr rfl) htx (HC.out.later HB1.out) hq
    have HTy := Lib.hid hty
    clear hty htm1 hq
    go_wp2_with fail
    refine HTy.out.mono ?_
    rintro e w2 ⟨rfl, hc2, hk2⟩
    have HC2 := Lib.hid hc2
    have HK2 := Lib.hid (show Keep (askT c bb) w w2 from (Keep.of_below HB1.out).trans_ hk2 fun x e => by
      rcases e with e | e
      · right; omega
      · exact .inl (.inl e))
    clear hc2 hk2 HTy
    go_wp2_with fail
    go_ret
    exact ⟨rfl, _, HC2.out, (show (23 : Nat) ≠ 0 by decide), .inr (.inl rfl), HK2.out⟩
set_option maxRecDepth 20000 in
set_option maxHeartbeats 1000000 in
theorem cz_kid_7 (P : Pv.Fault → Prop) (tb c bb u ka off kc n b0 : Nat) (at_ : Int) (name text back : List UInt8) (rv : Value) (w : World) (hT : Tab w) (ht : TermAt w tb 7 at_ name rv text back (.slice (some ⟨ka, off, none⟩) n kc)) (hn : 0 < n) (h0 : w.cell? ⟨ka, off, none⟩ = some (Ptr b0)) (hbud : BudAt w bb 0 u) (hH : bb < w.heap.size)
    (hc : CkAt w c bb {}) (hsh : Pure 38 #[Ptr tb] w (.bool true)) (ih : ∀ w1, Below w.heap.size w w1 → Calls Tryz.prog 21 #[Ptr c, Ptr b0] w1 (CanF P c bb w1)) :
    Calls Tryz.prog 21 #[Ptr c, Ptr tb] w (CanF P c bb w) := by
  have hn' : (0 : Int) < n := by omega
  have H0 := Lib.hid h0
  have IH := Lib.hid ih
  clear h0 ih
  have t0 : w.cell? ⟨tb, 0, none⟩ = some (.int .i64 7) := cell_of_blk (o := 0) ht rfl
  have t6 : w.cell? ⟨tb, 6, none⟩ = some (.slice (some ⟨ka, off, none⟩) n kc) := cell_of_blk (o := 6) ht rfl
  have htl := blk_lt ht
  have HSh := Lib.hid hsh
  have HT := Lib.hid hT
  have HTm := Lib.hid ht
  have HBud := Lib.hid hbud
  have HH := Lib.hid hH
  have HC := Lib.hid hc
  clear hsh hT ht hbud hH hc
  go_enter Tryz.func21, Tryz.ntmps21
  go_wp2_with fail
  refine HSh.out.mono ?_
  rintro e w' ⟨rfl, rfl⟩
  go_wp2_with fail
  obtain ⟨k, hk⟩ : ∃ k, w.heap.size = k := ⟨_, rfl⟩
  obtain ⟨w1, hw1⟩ : ∃ w1, w.alloc (.cells #[Ptr tb, .pointer none, .pointer none, .slice none 0 0, .pointer none, .pointer none] 68) = w1 := ⟨_, rfl⟩
  have hb1 : Below w.heap.size w w1 := by rw [← hw1]; exact (Below.refl _ _).alloc (Nat.le_refl _) _
  have hx1 : w1.heap[k]? = some (.cells (CanC tb (.pointer none) (.pointer none) (.slice none 0 0) (.pointer none) (.pointer none)) 68) := by rw [← hw1]; exact blk_new hk
  rw [hw1, hk]
  have hwk : w.heap.size ≤ k := by omega
  clear hw1
  have HB1 := Lib.hid hb1
  have HX1 := Lib.hid hx1
  clear hb1 hx1
  clear t0 t6
  go_loopw [58] (fun i wr => i = .int .i64 0 ∧ wr = w1) (fun _ _ => 0)
  case atStart => exact ⟨rfl, rfl⟩
  case round =>
  obtain ⟨rfl, rfl⟩ := hrel
  obtain ⟨w1, hw1⟩ : ∃ w1, wr = w1 := ⟨_, rfl⟩
  rw [hw1] at HB1 HX1 ⊢
  clear hw1
  have c0 := later HB1.out H0.out
  have HCall := Lib.hid (IH.out w1 HB1.out)
  go_wp2_with fail
  refine HCall.out.mono ?_
  rintro e w2 ⟨rfl, f, hc2, hfe, hp, hk2⟩
  have HFin := Lib.hid (show CanF P c bb w (.returned (.pointer none)) w2 from ⟨rfl, f, hc2, hfe, hp, (Keep.of_below HB1.out).trans hk2⟩)
  clear hc2 hfe hp hk2 HCall c0
  go_wp2_with fail
  go_ret
  exact HFin.out
set_option maxRecDepth 20000 in
set_option maxHeartbeats 1000000 in
theorem cz_kid_8 (P : Pv.Fault → Prop) (tb c bb u ka off kc n b0 : Nat) (at_ : Int) (name text back : List UInt8) (rv : Value) (w : World) (hT : Tab w) (ht : TermAt w tb 8 at_ name rv text back (.slice (some ⟨ka, off, none⟩) n kc)) (hn : 0 < n) (h0 : w.cell? ⟨ka, off, none⟩ = some (Ptr b0)) (hbud : BudAt w bb 0 u) (hH : bb < w.heap.size)
    (hc : CkAt w c bb {}) (hsh : Pure 38 #[Ptr tb] w (.bool true)) (ih : ∀ w1, Below w.heap.size w w1 → Calls Tryz.prog 21 #[Ptr c, Ptr b0] w1 (CanF P c bb w1)) :
    Calls Tryz.prog 21 #[Ptr c, Ptr tb] w (CanF P c bb w) := by
  have hn' : (0 : Int) < n := by omega
  have H0 := Lib.hid h0
  have IH := Lib.hid ih
  clear h0 ih
  have t0 : w.cell? ⟨tb, 0, none⟩ = some (.int .i64 8) := cell_of_blk (o := 0) ht rfl
  have t6 : w.cell? ⟨tb, 6, none⟩ = some (.slice (some ⟨ka, off, none⟩) n kc) := cell_of_blk (o := 6) ht rfl
  have htl := blk_lt ht
  have HSh := Lib.hid hsh
  have HT := Lib.hid hT
  have HTm := Lib.hid ht
  have HBud := Lib.hid hbud
  have HH := Lib.hid hH
  have HC := Lib.hid hc
  clear hsh hT ht hbud hH hc
  go_enter Tryz.func21, Tryz.ntmps21
  go_wp2_with fail
  refine HSh.out.mono ?_
  rintro e w' ⟨rfl, rfl⟩
  go_wp2_with fail
  obtain ⟨k, hk⟩ : ∃ k, w.heap.size = k := ⟨_, rfl⟩
  obtain ⟨w1, hw1⟩ : ∃ w1, w.alloc (.cells #[Ptr tb, .pointer none, .pointer none, .slice none 0 0, .pointer none, .pointer none] 68) = w1 := ⟨_, rfl⟩
  have hb1 : Below w.heap.size w w1 := by rw [← hw1]; exact (Below.refl _ _).alloc (Nat.le_refl _) _
  have hx1 : w1.heap[k]? = some (.cells (CanC tb (.pointer none) (.pointer none) (.slice none 0 0) (.pointer none) (.pointer none)) 68) := by rw [← hw1]; exact blk_new hk
  rw [hw1, hk]
  have hwk : w.heap.size ≤ k := by omega
  clear hw1
  have HB1 := Lib.hid hb1
  have HX1 := Lib.hid hx1
  clear hb1 hx1
  clear t0 t6
  go_loopw [58] (fun i wr => i = .int .i64 0 ∧ wr = w1) (fun _ _ => 0)
  case atStart => exact ⟨rfl, rfl⟩
  case round =>
  obtain ⟨rfl, rfl⟩ := hrel
  obtain ⟨w1, hw1⟩ : ∃ w1, wr = w1 := ⟨_, rfl⟩
  rw [hw1] at HB1 HX1 ⊢
  clear hw1
  have c0 := later HB1.out H0.out
  have HCall := Lib.hid (IH.out w1 HB1.out)
  go_wp2_with fail
  refine HCall.out.mono ?_
  rintro e w2 ⟨rfl, f, hc2, hfe, hp, hk2⟩
  have HFin := Lib.hid (show CanF P c bb w (.returned (.pointer none)) w2 from ⟨rfl, f, hc2, hfe, hp, (Keep.of_below HB1.out).trans hk2⟩)
  clear hc2 hfe hp hk2 HCall c0
  go_wp2_with fail
  go_ret
  exact HFin.out
set_option maxRecDepth 20000 in
set_option maxHeartbeats 1000000 in
theorem cz_kid_9 (P : Pv.Fault → Prop) (tb c bb u ka off kc n b0 : Nat) (at_ : Int) (name text back : List UInt8) (rv : Value) (w : World) (hT : Tab w) (ht : TermAt w tb 9 at_ name rv text back (.slice (some ⟨ka, off, none⟩) n kc)) (hn : 0 < n) (h0 : w.cell? ⟨ka, off, none⟩ = some (Ptr b0)) (hbud : BudAt w bb 0 u) (hH : bb < w.heap.size)
    (hc : CkAt w c bb {}) (hsh : Pure 38 #[Ptr tb] w (.bool true)) (ih : ∀ w1, Below w.heap.size w w1 → Calls Tryz.prog 21 #[Ptr c, Ptr b0] w1 (CanF P c bb w1)) :
    Calls Tryz.prog 21 #[Ptr c, Ptr tb] w (CanF P c bb w) := by
  have hn' : (0 : Int) < n := by omega
  have H0 := Lib.hid h0
  have IH := Lib.hid ih
  clear h0 ih
  have t0 : w.cell? ⟨tb, 0, none⟩ = some (.int .i64 9) := cell_of_blk (o := 0) ht rfl
  have t6 : w.cell? ⟨tb, 6, none⟩ = some (.slice (some ⟨ka, off, none⟩) n kc) := cell_of_blk (o := 6) ht rfl
  have htl := blk_lt ht
  have HSh := Lib.hid hsh
  have HT := Lib.hid hT
  have HTm := Lib.hid ht
  have HBud := Lib.hid hbud
  have HH := Lib.hid hH
  have HC := Lib.hid hc
  clear hsh hT ht hbud hH hc
  go_enter Tryz.func21, Tryz.ntmps21
  go_wp2_with fail
  refine HSh.out.mono ?_
  rintro e w' ⟨rfl, rfl⟩
  go_wp2_with fail
  obtain ⟨k, hk⟩ : ∃ k, w.heap.size = k := ⟨_, rfl⟩
  obtain ⟨w1, hw1⟩ : ∃ w1, w.alloc (.cells #[Ptr tb, .pointer none, .pointer none, .slice none 0 0, .pointer none, .pointer none] 68) = w1 := ⟨_, rfl⟩
  have hb1 : Below w.heap.size w w1 := by rw [← hw1]; exact (Below.refl _ _).alloc (Nat.le_refl _) _
  have hx1 : w1.heap[k]? = some (.cells (CanC tb (.pointer none) (.pointer none) (.slice none 0 0) (.pointer none) (.pointer none)) 68) := by rw [← hw1]; exact blk_new hk
  rw [hw1, hk]
  have hwk : w.heap.size ≤ k := by omega
  clear hw1
  have HB1 := Lib.hid hb1
  have HX1 := Lib.hid hx1
  clear hb1 hx1
  clear t0 t6
  go_loopw [58] (fun i wr => i = .int .i64 0 ∧ wr = w1) (fun _ _ => 0)
  case atStart => exact ⟨rfl, rfl⟩
  case round =>
  obtain ⟨rfl, rfl⟩ := hrel
  obtain ⟨w1, hw1⟩ : ∃ w1, wr = w1 := ⟨_, rfl⟩
  rw [hw1] at HB1 HX1 ⊢
  clear hw1
  have c0 := later HB1.out H0.out
  have HCall := Lib.hid (IH.out w1 HB1.out)
  go_wp2_with fail
  refine HCall.out.mono ?_
  rintro e w2 ⟨rfl, f, hc2, hfe, hp, hk2⟩
  have HFin := Lib.hid (show CanF P c bb w (.returned (.pointer none)) w2 from ⟨rfl, f, hc2, hfe, hp, (Keep.of_below HB1.out).trans hk2⟩)
  clear hc2 hfe hp hk2 HCall c0
  go_wp2_with fail
  go_ret
  exact HFin.out
end Go.Proofs.YtbimpenhmefpeaaGreatDoor
namespace Go.Proofs.YtbimpenhmefpeaaGreatDoor
open Pv
/-- the expressions behind bytes of the law's -/
def clos : Nat → List R → List R → List R
  | 0, _, acc => acc
  | n + 1, todo, acc => match todo with
    | [] => acc
    | r :: rest => if inL acc r then clos n rest acc else clos n (rest ++ ([97, 98, 99, 59, 120].map fun c => by_ c r)) (acc ++ [r])
end Go.Proofs.YtbimpenhmefpeaaGreatDoor
namespace Go.Proofs.YtbimpenhmefpeaaGreatDoor
open Go.RowKit Go.Maps
variable {H : Nat → Prop}

theorem e10C_closed : Pv.closedL (clos 300 Pv.e10L []) = true := by decide +kernel
theorem e10C_size' : ((clos 300 Pv.e10L []).all fun r => decide (Pv.size r ≤ 100)) = true := by decide +kernel
theorem e10C_size : ∀ r ∈ clos 300 Pv.e10L [], Pv.size r ≤ 100 := fun r hr => by simpa using List.all_eq_true.1 e10C_size' r hr
theorem e10L_sub' : (Pv.e10L.all fun r => Pv.inL (clos 300 Pv.e10L []) r) = true := by decide +kernel
theorem e10L_sub : ∀ r ∈ Pv.e10L, r ∈ clos 300 Pv.e10L [] := fun r hr => Pv.inL_mem (List.all_eq_true.1 e10L_sub' r hr)
theorem e10L_size : ∀ r ∈ Pv.e10L, Pv.size r ≤ 100 := fun r hr => e10C_size r (e10L_sub r hr)
theorem canon_zero : ∀ (m : Nat) (t : Pv.T) (tb c bb u : Nat) (w : World), Pv.tsize t ≤ m → Pv.TGood t → TAt H w t tb → Tab w → BudAt w bb 0 u → CkAt w c bb {} → H bb → (∀ h, H h → h < w.heap.size) →
    Calls Tryz.prog 21 #[Ptr c, Ptr tb] w (CanF (ZeroF t) c bb w)
  | 0, t, _, _, _, _, _, hm, _, _, _, _, _, _, _ => by have := tsize_eq t; omega
  | m + 1, t, tb, c, bb, u, w, hm, hg, hat, hT, hbud, hc, hbb, hH => by
    have hgo := hg.open_
    have hsz := tsize_eq t
    obtain ⟨_, rv, a, kc, bs, hr, ha, hterm, hsl, hts⟩ := hat.open_
    have hlen := hts.length
    have hsh := shaped_all t.op tb t.at_ t.name t.text t.back w t.re rv hr.rv a bs.length kc hgo.1 hgo.2.1 hterm
    rw [hlen, hgo.2.2.1] at hsh
    have hop : (t.op = 2 ∨ t.op = 3 ∨ t.op = 4 ∨ t.op = 5 ∨ t.op = 6 ∨ t.op = 10 ∨ t.op = 11 ∨ t.op = 12 ∨ t.op = 13 ∨ t.op = 14 ∨ t.op = 15) ∨ t.op = 16 ∨ t.op = 17 ∨ (t.op = 7 ∨ t.op = 8 ∨ t.op = 9) := by have h1 := hgo.1; have h2 := hgo.2.1; omega
    rcases hop with hs | h16 | h17 | hk
    · refine (canon_sort tb t.op c bb t.at_ w hs hat.head hc hsh).mono ?_
      rintro e w' ⟨rfl, hc', hk'⟩
      refine ⟨rfl, _, hc', (show (8 : Nat) ≠ 0 by decide), .inr (.inr ⟨rfl, Pv.canonAll_op ?_⟩), hk'.wide fun x e => .inl (.inl e)⟩
      rcases hs with e | e | e | e | e | e | e | e | e | e | e <;> rw [e] <;> rfl
    · have hs := hgo.2.2.1
      rw [h16] at hs hterm
      have hs' : (t.re.isSome && t.kids.length == 0) = true := hs
      simp only [Bool.and_eq_true, beq_iff_eq] at hs'
      obtain ⟨r, hre⟩ := Option.isSome_iff_exists.1 hs'.1
      rw [hre] at hr
      obtain ⟨rb, rfl, hat'⟩ := hr
      rw [show bs.length = 0 by omega] at hterm
      have := e10L_size r (hgo.2.2.2.2.2.1 r hre)
      exact cz_keep (H := H) t r tb rb c bb u t.at_ t.name t.text t.back a kc w hT hterm hat' hbud hbb hH (by omega) hc hsh
    · have hs := hgo.2.2.1
      rw [h17] at hs hterm
      have hs' : (t.re.isSome && t.kids.length == 0) = true := hs
      simp only [Bool.and_eq_true, beq_iff_eq] at hs'
      obtain ⟨r, hre⟩ := Option.isSome_iff_exists.1 hs'.1
      rw [hre] at hr
      obtain ⟨rb, rfl, hat'⟩ := hr
      rw [show bs.length = 0 by omega] at hterm
      have hrL := hgo.2.2.2.2.2.1 r hre
      have := e10L_size r hrL
      exact cz_norm (H := H) (· ∈ clos 300 Pv.e10L []) (fun r c hr => Pv.closedL_by e10C_closed c hr) (fun r hr => by have := e10C_size r hr; omega) t r (e10L_sub r hrL) tb rb c bb u t.at_ t.name t.text t.back a kc w hT hterm hat' hbud hbb hH (by omega) (by have := hgo.2.2.2.1; omega) hc hsh
    · have hkl : 0 < t.kids.length := by
        have hs := hgo.2.2.1
        rcases hk with e | e | e <;> rw [e] at hs
        · have hs' : (t.kids.length == 2) = true := hs
          simp only [beq_iff_eq] at hs'; omega
        · have hs' : (t.kids.length == 2) = true := hs
          simp only [beq_iff_eq] at hs'; omega
        · have hs' : (t.kids.length == 1) = true := hs
          simp only [beq_iff_eq] at hs'; omega
      obtain ⟨hb0, hat0⟩ := hts.get 0 hkl
      obtain ⟨ka, off, rfl, hc0⟩ := hsl.cell 0 (by simpa using hb0)
      have hc0' : w.cell? ⟨ka, off, none⟩ = some (Ptr bs[0]) := by simpa using hc0
      have hsz0 := Pv.tsizes_get hkl
      have ih : ∀ w1, Below w.heap.size w w1 → Calls Tryz.prog 21 #[Ptr c, Ptr bs[0]] w1 (CanF (ZeroF t) c bb w1) := fun w1 hb => by
        refine (canon_zero m _ _ c bb u w1 (by omega) (hgo.2.2.2.2.2.2.get hkl) (hat0.later hb) (hT.later hb) (hbud.later hb) (hc.later hb) hbb (fun h hh => Nat.lt_of_lt_of_le (hH h hh) hb.size)).mono ?_
        rintro e w' ⟨rfl, f, h1, h2, h3, h4⟩
        refine ⟨rfl, f, h1, h2, ?_, h4⟩
        rcases h3 with h | h | ⟨h, h'⟩
        · exact .inl h
        · exact .inr (.inl h)
        · exact .inr (.inr ⟨h, Pv.canonAll_kid hkl h'⟩)
      have hbl := hH bb hbb
      have hn : 0 < bs.length := by omega
      rcases hk with e | e | e <;> rw [e] at hterm
      · exact cz_kid_7 _ tb c bb u ka off kc bs.length bs[0] t.at_ t.name t.text t.back rv w hT hterm hn hc0' hbud hbl hc hsh ih
      · exact cz_kid_8 _ tb c bb u ka off kc bs.length bs[0] t.at_ t.name t.text t.back rv w hT hterm hn hc0' hbud hbl hc hsh ih
      · exact cz_kid_9 _ tb c bb u ka off kc bs.length bs[0] t.at_ t.name t.text t.back rv w hT hterm hn hc0' hbud hbl hc hsh ih
end Go.Proofs.YtbimpenhmefpeaaGreatDoor
