/- Terms made by plans. -/
import Derived.Test.YtbimpenhmefpeaaGreatDoorS32
import Derived.Test.YtbimpenhmefpeaaGreatDoorS26
set_option linter.all false
namespace Go.Proofs.YtbimpenhmefpeaaGreatDoor
open Go.RowKit Go.Maps
open Pv (P10)
variable {H : Nat → Prop}

/-- a good term, made new by a plan -/
def MadeT (H : Nat → Prop) (p : P10) (w : World) (e : Ending) (w' : World) : Prop := ∃ (t : Pv.T) (b : Nat) (kv rv : Value) (bs : List Nat), e = .returned (Ptr b) ∧ Pv.TGood t ∧ Pv.tsize t ≤ 3 * P10.nodes p ∧ TAt H w' t b ∧
  TermAt w' b t.op 0 t.name rv t.text t.back kv ∧ ReO H w' t.re rv ∧ Row w.heap.size 25 w' kv (bs.map Ptr) ∧ bs.length = t.kids.length ∧ w.heap.size ≤ b ∧ Below w.heap.size w w'
theorem made_leaf {p : P10} {w w' : World} {op tb : Nat} {re : Option Pv.R} {rv : Value} {name tx bk : List UInt8} (hc : TermAt w' tb op 0 name rv tx bk (.slice none 0 0)) (hr : ReO H w' re rv) (h2 : 2 ≤ op) (h17 : op ≤ 17) (hs : Pv.shapedOf op re.isSome 0 = true)
    (htx : tx.length ≤ 9) (hbk : bk.length ≤ 9) (hre : ∀ r, re = some r → r ∈ Pv.e10L) (htb : w.heap.size ≤ tb) (hH : ∀ h, H h → h < w.heap.size) (hb : Below w.heap.size w w') : MadeT H p w (.returned (Ptr tb)) w' := by
  have hn := P10.nodes_pos p
  refine ⟨.mk op 0 name re tx bk [], tb, .slice none 0 0, rv, [], rfl, ?_, ?_, ?_, hc, hr, Row.nil _ _ _, rfl, htb, hb⟩
  · unfold Pv.TGood
    exact ⟨h2, h17, hs, htx, hbk, hre, by unfold Pv.TGoods; trivial⟩
  · simp only [Pv.tsize, Pv.tsizes]; omega
  · exact TAt.mk_ (a := none) (c := 0) (bs := []) (fun h => by have := hH _ h; omega) hr (fun _ _ e => by cases e) hc (Sl.nil _) TsAt.nil
theorem made_kids {p : P10} {w w' : World} {op tb g : Nat} {ks : List Pv.T} {bs : List Nat} (hc : TermAt w' tb op 0 [] (.pointer none) [] [] (.slice (some ⟨g, 0, none⟩) bs.length bs.length)) (hg : w'.heap[g]? = some (.cells (bs.map Ptr).toArray 25)) (hks : TsAt H w' ks bs) (hgk : Pv.TGoods ks)
    (hsz : Pv.tsizes ks + 1 ≤ 3 * P10.nodes p) (h2 : 2 ≤ op) (h17 : op ≤ 17) (hs : Pv.shapedOf op false ks.length = true) (hbl : bs.length ≤ 2) (htb : w.heap.size ≤ tb) (hgb : w.heap.size ≤ g) (hH : ∀ h, H h → h < w.heap.size) (hb : Below w.heap.size w w') : MadeT H p w (.returned (Ptr tb)) w' := by
  have hrow : Row w.heap.size 25 w' (.slice (some ⟨g, 0, none⟩) bs.length bs.length) (bs.map Ptr) := by
    have := Row.of_blk (base := w.heap.size) (w := w') (xs := bs.map Ptr) hgb hg (by unfold maxLen; simp; omega)
    simpa using this
  obtain ⟨a, c, e1, e2, _⟩ := hrow.form
  simp only [List.length_map, Value.slice.injEq, true_and] at e1
  obtain ⟨rfl, rfl⟩ := e1
  refine ⟨.mk op 0 [] none [] [] ks, tb, _, .pointer none, bs, rfl, ?_, ?_, ?_, hc, rfl, hrow, hks.length, htb, hb⟩
  · unfold Pv.TGood
    exact ⟨h2, h17, hs, by simp, by simp, (fun _ h => by cases h), hgk⟩
  · simp only [Pv.tsize]; omega
  · exact TAt.mk_ (fun h => by have := hH _ h; omega) rfl (fun blk off e => by cases e; exact ⟨fun h => by have := hH _ h; omega, blk_lt hg⟩) hc e2 hks
abbrev tC (op : Int) (name : List UInt8) (rv : Value) (tx bk : List UInt8) (kv : Value) : Array Value := #[.int .i64 op, .int .i64 0, Str name, rv, Str tx, Str bk, kv]
set_option maxRecDepth 20000 in
theorem make10_2 (p : P10) (v : Value) (w : World) (hv : PlV w p v) (hop : opN p = 2) (hH : ∀ h, H h → h < w.heap.size) : Calls Tryz.prog 35 #[v] w (MadeT H p w) := by
  have HV := Lib.hid hv
  obtain ⟨a, c, b', o', rfl, ha, hkl, hks⟩ := hv
  have HH := Lib.hid hH
  have HOp := Lib.hid (fun (W : World) (h : PlV W p (.agg #[.int .i64 p.op, .int .i64 p.w, .int .i64 p.n, .slice a p.kids.length c])) => show Calls Tryz.prog 74 #[.agg #[.int .i64 p.op, .int .i64 p.w, .int .i64 p.n, .slice a p.kids.length c]] W fun e w' => e = .returned (.int .i64 2) ∧ Below W.heap.size W w' by have := op10_any p _ W h; rw [hop] at this; exact this)
  clear hH ha hks hop
  go_enter Tryz.func35, Tryz.ntmps35
  go_wp2_with fail
  obtain ⟨pb, hpb⟩ : ∃ n, w.heap.size = n := ⟨_, rfl⟩
  obtain ⟨w1, hw1⟩ : ∃ w1, w.alloc (.cells #[.int .i64 p.op, .int .i64 p.w, .int .i64 p.n, .slice a p.kids.length c] 74) = w1 := ⟨_, rfl⟩
  have hb1 : Below w.heap.size w w1 := by rw [← hw1]; exact (Below.refl _ _).alloc (Nat.le_refl _) _
  have hp1 : w1.heap[pb]? = some (.cells #[.int .i64 p.op, .int .i64 p.w, .int .i64 p.n, .slice a p.kids.length c] 74) := by rw [← hw1]; exact blk_new hpb
  rw [hpb, hw1]
  clear hw1
  refine (HOp.out w1 (HV.out.later hb1)).mono ?_
  rintro e w2 ⟨rfl, hb2⟩
  have h02 := hb1.trans (hb2.mono hb1.size)
  have hp2 := later_blk hb2 hp1
  have z0 : (w2.alloc (.cells (tC 2 [] (.pointer none) [] [] (.slice none 0 0)) 30)).cell? ⟨w2.heap.size, 0, none⟩ = some (.int .i64 2) := cell_of_blk (o := 0) (blk_new rfl) rfl
  have q0 : (w2.alloc (.cells (tC 2 [] (.pointer none) [] [] (.slice none 0 0)) 30)).cell? ⟨pb, 0, none⟩ = some (.int .i64 p.op) := cell_of_blk (o := 0) (blk_old hp2) rfl
  have q1 : (w2.alloc (.cells (tC 2 [] (.pointer none) [] [] (.slice none 0 0)) 30)).cell? ⟨pb, 1, none⟩ = some (.int .i64 p.w) := cell_of_blk (o := 1) (blk_old hp2) rfl
  have q2 : (w2.alloc (.cells (tC 2 [] (.pointer none) [] [] (.slice none 0 0)) 30)).cell? ⟨pb, 2, none⟩ = some (.int .i64 p.n) := cell_of_blk (o := 2) (blk_old hp2) rfl
  have q3 : (w2.alloc (.cells (tC 2 [] (.pointer none) [] [] (.slice none 0 0)) 30)).cell? ⟨pb, 3, none⟩ = some (.slice a p.kids.length c) := cell_of_blk (o := 3) (blk_old hp2) rfl
  have H02 := Lib.hid h02
  have HP2 := Lib.hid hp2
  have hwtb : w.heap.size ≤ w2.heap.size := h02.size
  clear hb1 hb2 hp1 h02 hp2 HOp
  go_wp2_with fail
  obtain ⟨tb, htb⟩ : ∃ n, w2.heap.size = n := ⟨_, rfl⟩
  obtain ⟨w3, hw3⟩ : ∃ w3, w2.alloc (.cells (tC 2 [] (.pointer none) [] [] (.slice none 0 0)) 30) = w3 := ⟨_, rfl⟩
  have hb3 : Below w2.heap.size w2 w3 := by rw [← hw3]; exact (Below.refl _ _).alloc (Nat.le_refl _) _
  have ht3 : w3.heap[tb]? = some (.cells (tC 2 [] (.pointer none) [] [] (.slice none 0 0)) 30) := by rw [← hw3]; exact blk_new htb
  have hpt : pb ≠ tb := by have := blk_lt HP2.out; omega
  have HB := Lib.hid (H02.out.trans (hb3.mono H02.out.size))
  have HP := Lib.hid (later_blk hb3 HP2.out)
  have HT := Lib.hid ht3
  rw [htb] at hwtb
  rw [htb, hw3]
  clear hw3 z0 q0 q1 q2 q3 hb3 HP2 H02 ht3
  have hH3 : ∀ h, (H h ∨ h = tb) → h < w3.heap.size := fun h hh => by
    rcases hh with hh | hh
    · have h1 := HH.out h hh; have h2 := HB.out.size; omega
    · have h1 := blk_lt HT.out; omega
  refine (expr10_any (H := fun x => H x ∨ x = tb) p.w w3 hH3).mono ?_
  rintro e w4 ⟨rb, rfl, hr, hb⟩
  have HR := Lib.hid hr
  replace HT := Lib.hid (later_blk hb HT.out)
  replace HP := Lib.hid (later_blk hb HP.out)
  replace HB := Lib.hid (HB.out.trans (hb.mono HB.out.size))
  try replace HR := Lib.hid (HR.out.later hb)
  clear hb
  replace HR := Lib.hid hr
  clear hr hH3
  have x : w4.cell? ⟨tb, 3, none⟩ = some (.pointer none) := cell_of_blk (o := 3) HT.out rfl
  have fr : ∀ o, w4.frozen? ⟨tb, o, none⟩ = false := fun o => frozen_of_blk HT.out
  have y0 : (w4.setCell ⟨tb, 3, none⟩ (Ptr rb)).cell? ⟨tb, 0, none⟩ = some (.int .i64 2) := cell_of_blk (o := 0) (blk_set HT.out) rfl
  have y2 : (w4.setCell ⟨tb, 3, none⟩ (Ptr rb)).cell? ⟨pb, 2, none⟩ = some (.int .i64 p.n) := cell_of_blk (o := 2) (keep_set HP.out hpt) rfl
  go_wp2_with fail
  obtain ⟨w5, hw5⟩ : ∃ w5, w4.setCell ⟨tb, 3, none⟩ (Ptr rb) = w5 := ⟨_, rfl⟩
  have hk : Keep (· = tb) w4 w5 := by rw [← hw5]; exact Keep.set rfl
  have ht : w5.heap[tb]? = some (.cells (tC 2 [] (Ptr rb) [] [] (.slice none 0 0)) 30) := by rw [← hw5, blk_set HT.out]; rfl
  try rw [hw5]
  replace HT := Lib.hid ht
  replace HP := Lib.hid (hk.blk hpt HP.out)
  try replace HR := Lib.hid (HR.out.keep (hk.wide fun x e => .inl (.inr e)))
  replace HB := Lib.hid (HB.out.trans (hk.below HB.out.size fun x e => by rw [e]; exact hwtb))
  clear hw5 hk ht x fr y0 y2
  refine bodyPost_ret (v := Ptr tb) ?_ rfl (made_leaf (re := some (Pv.e10Of p.w)) (name := []) (tx := []) (bk := []) HT.out ⟨rb, rfl, HR.out.widen fun x h => .inl (.inl h)⟩ (by decide) (by decide) rfl (by decide) (by decide) (fun r e => by cases e; exact Pv.e10Of_mem _) hwtb HH.out HB.out)
  simp [results, Tryz.results35, go_sem]
set_option maxRecDepth 20000 in
theorem make10_16 (p : P10) (v : Value) (w : World) (hv : PlV w p v) (hop : opN p = 16) (hH : ∀ h, H h → h < w.heap.size) : Calls Tryz.prog 35 #[v] w (MadeT H p w) := by
  have HV := Lib.hid hv
  obtain ⟨a, c, b', o', rfl, ha, hkl, hks⟩ := hv
  have HH := Lib.hid hH
  have HOp := Lib.hid (fun (W : World) (h : PlV W p (.agg #[.int .i64 p.op, .int .i64 p.w, .int .i64 p.n, .slice a p.kids.length c])) => show Calls Tryz.prog 74 #[.agg #[.int .i64 p.op, .int .i64 p.w, .int .i64 p.n, .slice a p.kids.length c]] W fun e w' => e = .returned (.int .i64 16) ∧ Below W.heap.size W w' by have := op10_any p _ W h; rw [hop] at this; exact this)
  clear hH ha hks hop
  go_enter Tryz.func35, Tryz.ntmps35
  go_wp2_with fail
  obtain ⟨pb, hpb⟩ : ∃ n, w.heap.size = n := ⟨_, rfl⟩
  obtain ⟨w1, hw1⟩ : ∃ w1, w.alloc (.cells #[.int .i64 p.op, .int .i64 p.w, .int .i64 p.n, .slice a p.kids.length c] 74) = w1 := ⟨_, rfl⟩
  have hb1 : Below w.heap.size w w1 := by rw [← hw1]; exact (Below.refl _ _).alloc (Nat.le_refl _) _
  have hp1 : w1.heap[pb]? = some (.cells #[.int .i64 p.op, .int .i64 p.w, .int .i64 p.n, .slice a p.kids.length c] 74) := by rw [← hw1]; exact blk_new hpb
  rw [hpb, hw1]
  clear hw1
  refine (HOp.out w1 (HV.out.later hb1)).mono ?_
  rintro e w2 ⟨rfl, hb2⟩
  have h02 := hb1.trans (hb2.mono hb1.size)
  have hp2 := later_blk hb2 hp1
  have z0 : (w2.alloc (.cells (tC 16 [] (.pointer none) [] [] (.slice none 0 0)) 30)).cell? ⟨w2.heap.size, 0, none⟩ = some (.int .i64 16) := cell_of_blk (o := 0) (blk_new rfl) rfl
  have q0 : (w2.alloc (.cells (tC 16 [] (.pointer none) [] [] (.slice none 0 0)) 30)).cell? ⟨pb, 0, none⟩ = some (.int .i64 p.op) := cell_of_blk (o := 0) (blk_old hp2) rfl
  have q1 : (w2.alloc (.cells (tC 16 [] (.pointer none) [] [] (.slice none 0 0)) 30)).cell? ⟨pb, 1, none⟩ = some (.int .i64 p.w) := cell_of_blk (o := 1) (blk_old hp2) rfl
  have q2 : (w2.alloc (.cells (tC 16 [] (.pointer none) [] [] (.slice none 0 0)) 30)).cell? ⟨pb, 2, none⟩ = some (.int .i64 p.n) := cell_of_blk (o := 2) (blk_old hp2) rfl
  have q3 : (w2.alloc (.cells (tC 16 [] (.pointer none) [] [] (.slice none 0 0)) 30)).cell? ⟨pb, 3, none⟩ = some (.slice a p.kids.length c) := cell_of_blk (o := 3) (blk_old hp2) rfl
  have H02 := Lib.hid h02
  have HP2 := Lib.hid hp2
  have hwtb : w.heap.size ≤ w2.heap.size := h02.size
  clear hb1 hb2 hp1 h02 hp2 HOp
  go_wp2_with fail
  obtain ⟨tb, htb⟩ : ∃ n, w2.heap.size = n := ⟨_, rfl⟩
  obtain ⟨w3, hw3⟩ : ∃ w3, w2.alloc (.cells (tC 16 [] (.pointer none) [] [] (.slice none 0 0)) 30) = w3 := ⟨_, rfl⟩
  have hb3 : Below w2.heap.size w2 w3 := by rw [← hw3]; exact (Below.refl _ _).alloc (Nat.le_refl _) _
  have ht3 : w3.heap[tb]? = some (.cells (tC 16 [] (.pointer none) [] [] (.slice none 0 0)) 30) := by rw [← hw3]; exact blk_new htb
  have hpt : pb ≠ tb := by have := blk_lt HP2.out; omega
  have HB := Lib.hid (H02.out.trans (hb3.mono H02.out.size))
  have HP := Lib.hid (later_blk hb3 HP2.out)
  have HT := Lib.hid ht3
  rw [htb] at hwtb
  rw [htb, hw3]
  clear hw3 z0 q0 q1 q2 q3 hb3 HP2 H02 ht3
  have hH3 : ∀ h, (H h ∨ h = tb) → h < w3.heap.size := fun h hh => by
    rcases hh with hh | hh
    · have h1 := HH.out h hh; have h2 := HB.out.size; omega
    · have h1 := blk_lt HT.out; omega
  refine (expr10_any (H := fun x => H x ∨ x = tb) p.w w3 hH3).mono ?_
  rintro e w4 ⟨rb, rfl, hr, hb⟩
  have HR := Lib.hid hr
  replace HT := Lib.hid (later_blk hb HT.out)
  replace HP := Lib.hid (later_blk hb HP.out)
  replace HB := Lib.hid (HB.out.trans (hb.mono HB.out.size))
  try replace HR := Lib.hid (HR.out.later hb)
  clear hb
  replace HR := Lib.hid hr
  clear hr hH3
  have x : w4.cell? ⟨tb, 3, none⟩ = some (.pointer none) := cell_of_blk (o := 3) HT.out rfl
  have fr : ∀ o, w4.frozen? ⟨tb, o, none⟩ = false := fun o => frozen_of_blk HT.out
  have y0 : (w4.setCell ⟨tb, 3, none⟩ (Ptr rb)).cell? ⟨tb, 0, none⟩ = some (.int .i64 16) := cell_of_blk (o := 0) (blk_set HT.out) rfl
  have y2 : (w4.setCell ⟨tb, 3, none⟩ (Ptr rb)).cell? ⟨pb, 2, none⟩ = some (.int .i64 p.n) := cell_of_blk (o := 2) (keep_set HP.out hpt) rfl
  go_wp2_with fail
  obtain ⟨w5, hw5⟩ : ∃ w5, w4.setCell ⟨tb, 3, none⟩ (Ptr rb) = w5 := ⟨_, rfl⟩
  have hk : Keep (· = tb) w4 w5 := by rw [← hw5]; exact Keep.set rfl
  have ht : w5.heap[tb]? = some (.cells (tC 16 [] (Ptr rb) [] [] (.slice none 0 0)) 30) := by rw [← hw5, blk_set HT.out]; rfl
  try rw [hw5]
  replace HT := Lib.hid ht
  replace HP := Lib.hid (hk.blk hpt HP.out)
  try replace HR := Lib.hid (HR.out.keep (hk.wide fun x e => .inl (.inr e)))
  replace HB := Lib.hid (HB.out.trans (hk.below HB.out.size fun x e => by rw [e]; exact hwtb))
  clear hw5 hk ht x fr y0 y2
  refine bodyPost_ret (v := Ptr tb) ?_ rfl (made_leaf (re := some (Pv.e10Of p.w)) (name := []) (tx := []) (bk := []) HT.out ⟨rb, rfl, HR.out.widen fun x h => .inl (.inl h)⟩ (by decide) (by decide) rfl (by decide) (by decide) (fun r e => by cases e; exact Pv.e10Of_mem _) hwtb HH.out HB.out)
  simp [results, Tryz.results35, go_sem]
set_option maxRecDepth 20000 in
theorem make10_17 (p : P10) (v : Value) (w : World) (hv : PlV w p v) (hop : opN p = 17) (hH : ∀ h, H h → h < w.heap.size) : Calls Tryz.prog 35 #[v] w (MadeT H p w) := by
  have HV := Lib.hid hv
  obtain ⟨a, c, b', o', rfl, ha, hkl, hks⟩ := hv
  have HH := Lib.hid hH
  have HOp := Lib.hid (fun (W : World) (h : PlV W p (.agg #[.int .i64 p.op, .int .i64 p.w, .int .i64 p.n, .slice a p.kids.length c])) => show Calls Tryz.prog 74 #[.agg #[.int .i64 p.op, .int .i64 p.w, .int .i64 p.n, .slice a p.kids.length c]] W fun e w' => e = .returned (.int .i64 17) ∧ Below W.heap.size W w' by have := op10_any p _ W h; rw [hop] at this; exact this)
  clear hH ha hks hop
  go_enter Tryz.func35, Tryz.ntmps35
  go_wp2_with fail
  obtain ⟨pb, hpb⟩ : ∃ n, w.heap.size = n := ⟨_, rfl⟩
  obtain ⟨w1, hw1⟩ : ∃ w1, w.alloc (.cells #[.int .i64 p.op, .int .i64 p.w, .int .i64 p.n, .slice a p.kids.length c] 74) = w1 := ⟨_, rfl⟩
  have hb1 : Below w.heap.size w w1 := by rw [← hw1]; exact (Below.refl _ _).alloc (Nat.le_refl _) _
  have hp1 : w1.heap[pb]? = some (.cells #[.int .i64 p.op, .int .i64 p.w, .int .i64 p.n, .slice a p.kids.length c] 74) := by rw [← hw1]; exact blk_new hpb
  rw [hpb, hw1]
  clear hw1
  refine (HOp.out w1 (HV.out.later hb1)).mono ?_
  rintro e w2 ⟨rfl, hb2⟩
  have h02 := hb1.trans (hb2.mono hb1.size)
  have hp2 := later_blk hb2 hp1
  have z0 : (w2.alloc (.cells (tC 17 [] (.pointer none) [] [] (.slice none 0 0)) 30)).cell? ⟨w2.heap.size, 0, none⟩ = some (.int .i64 17) := cell_of_blk (o := 0) (blk_new rfl) rfl
  have q0 : (w2.alloc (.cells (tC 17 [] (.pointer none) [] [] (.slice none 0 0)) 30)).cell? ⟨pb, 0, none⟩ = some (.int .i64 p.op) := cell_of_blk (o := 0) (blk_old hp2) rfl
  have q1 : (w2.alloc (.cells (tC 17 [] (.pointer none) [] [] (.slice none 0 0)) 30)).cell? ⟨pb, 1, none⟩ = some (.int .i64 p.w) := cell_of_blk (o := 1) (blk_old hp2) rfl
  have q2 : (w2.alloc (.cells (tC 17 [] (.pointer none) [] [] (.slice none 0 0)) 30)).cell? ⟨pb, 2, none⟩ = some (.int .i64 p.n) := cell_of_blk (o := 2) (blk_old hp2) rfl
  have q3 : (w2.alloc (.cells (tC 17 [] (.pointer none) [] [] (.slice none 0 0)) 30)).cell? ⟨pb, 3, none⟩ = some (.slice a p.kids.length c) := cell_of_blk (o := 3) (blk_old hp2) rfl
  have H02 := Lib.hid h02
  have HP2 := Lib.hid hp2
  have hwtb : w.heap.size ≤ w2.heap.size := h02.size
  clear hb1 hb2 hp1 h02 hp2 HOp
  go_wp2_with fail
  obtain ⟨tb, htb⟩ : ∃ n, w2.heap.size = n := ⟨_, rfl⟩
  obtain ⟨w3, hw3⟩ : ∃ w3, w2.alloc (.cells (tC 17 [] (.pointer none) [] [] (.slice none 0 0)) 30) = w3 := ⟨_, rfl⟩
  have hb3 : Below w2.heap.size w2 w3 := by rw [← hw3]; exact (Below.refl _ _).alloc (Nat.le_refl _) _
  have ht3 : w3.heap[tb]? = some (.cells (tC 17 [] (.pointer none) [] [] (.slice none 0 0)) 30) := by rw [← hw3]; exact blk_new htb
  have hpt : pb ≠ tb := by have := blk_lt HP2.out; omega
  have HB := Lib.hid (H02.out.trans (hb3.mono H02.out.size))
  have HP := Lib.hid (later_blk hb3 HP2.out)
  have HT := Lib.hid ht3
  rw [htb] at hwtb
  rw [htb, hw3]
  clear hw3 z0 q0 q1 q2 q3 hb3 HP2 H02 ht3
  have hH3 : ∀ h, (H h ∨ h = tb) → h < w3.heap.size := fun h hh => by
    rcases hh with hh | hh
    · have h1 := HH.out h hh; have h2 := HB.out.size; omega
    · have h1 := blk_lt HT.out; omega
  refine (expr10_any (H := fun x => H x ∨ x = tb) p.w w3 hH3).mono ?_
  rintro e w4 ⟨rb, rfl, hr, hb⟩
  have HR := Lib.hid hr
  replace HT := Lib.hid (later_blk hb HT.out)
  replace HP := Lib.hid (later_blk hb HP.out)
  replace HB := Lib.hid (HB.out.trans (hb.mono HB.out.size))
  try replace HR := Lib.hid (HR.out.later hb)
  clear hb
  replace HR := Lib.hid hr
  clear hr hH3
  have x : w4.cell? ⟨tb, 3, none⟩ = some (.pointer none) := cell_of_blk (o := 3) HT.out rfl
  have fr : ∀ o, w4.frozen? ⟨tb, o, none⟩ = false := fun o => frozen_of_blk HT.out
  have y0 : (w4.setCell ⟨tb, 3, none⟩ (Ptr rb)).cell? ⟨tb, 0, none⟩ = some (.int .i64 17) := cell_of_blk (o := 0) (blk_set HT.out) rfl
  have y2 : (w4.setCell ⟨tb, 3, none⟩ (Ptr rb)).cell? ⟨pb, 2, none⟩ = some (.int .i64 p.n) := cell_of_blk (o := 2) (keep_set HP.out hpt) rfl
  go_wp2_with fail
  obtain ⟨w5, hw5⟩ : ∃ w5, w4.setCell ⟨tb, 3, none⟩ (Ptr rb) = w5 := ⟨_, rfl⟩
  have hk : Keep (· = tb) w4 w5 := by rw [← hw5]; exact Keep.set rfl
  have ht : w5.heap[tb]? = some (.cells (tC 17 [] (Ptr rb) [] [] (.slice none 0 0)) 30) := by rw [← hw5, blk_set HT.out]; rfl
  try rw [hw5]
  replace HT := Lib.hid ht
  replace HP := Lib.hid (hk.blk hpt HP.out)
  try replace HR := Lib.hid (HR.out.keep (hk.wide fun x e => .inl (.inr e)))
  replace HB := Lib.hid (HB.out.trans (hk.below HB.out.size fun x e => by rw [e]; exact hwtb))
  clear hw5 hk ht x fr y0 y2
  refine (text10_any _ w5).mono ?_
  rintro e w6 ⟨⟨l, rfl, hl⟩, hb⟩
  replace HT := Lib.hid (later_blk hb HT.out)
  replace HP := Lib.hid (later_blk hb HP.out)
  replace HB := Lib.hid (HB.out.trans (hb.mono HB.out.size))
  try replace HR := Lib.hid (HR.out.later hb)
  clear hb
  have x : w6.cell? ⟨tb, 4, none⟩ = some (Str []) := cell_of_blk (o := 4) HT.out rfl
  have fr : ∀ o, w6.frozen? ⟨tb, o, none⟩ = false := fun o => frozen_of_blk HT.out
  have y0 : (w6.setCell ⟨tb, 4, none⟩ (Str l)).cell? ⟨tb, 0, none⟩ = some (.int .i64 17) := cell_of_blk (o := 0) (blk_set HT.out) rfl
  have y2 : (w6.setCell ⟨tb, 4, none⟩ (Str l)).cell? ⟨pb, 2, none⟩ = some (.int .i64 p.n) := cell_of_blk (o := 2) (keep_set HP.out hpt) rfl
  go_wp2_with fail
  obtain ⟨w7, hw7⟩ : ∃ w5, w6.setCell ⟨tb, 4, none⟩ (Str l) = w5 := ⟨_, rfl⟩
  have hk : Keep (· = tb) w6 w7 := by rw [← hw7]; exact Keep.set rfl
  have ht : w7.heap[tb]? = some (.cells (tC 17 [] (Ptr rb) l [] (.slice none 0 0)) 30) := by rw [← hw7, blk_set HT.out]; rfl
  try rw [hw7]
  replace HT := Lib.hid ht
  replace HP := Lib.hid (hk.blk hpt HP.out)
  try replace HR := Lib.hid (HR.out.keep (hk.wide fun x e => .inl (.inr e)))
  replace HB := Lib.hid (HB.out.trans (hk.below HB.out.size fun x e => by rw [e]; exact hwtb))
  clear hw7 hk ht x fr y0 y2
  refine bodyPost_ret (v := Ptr tb) ?_ rfl (made_leaf (re := some (Pv.e10Of p.w)) (name := []) (tx := l) (bk := []) HT.out ⟨rb, rfl, HR.out.widen fun x h => .inl (.inl h)⟩ (by decide) (by decide) rfl hl (by decide) (fun r e => by cases e; exact Pv.e10Of_mem _) hwtb HH.out HB.out)
  simp [results, Tryz.results35, go_sem]
set_option maxRecDepth 20000 in
theorem make10_5 (p : P10) (v : Value) (w : World) (hv : PlV w p v) (hop : opN p = 5) (hH : ∀ h, H h → h < w.heap.size) : Calls Tryz.prog 35 #[v] w (MadeT H p w) := by
  have HV := Lib.hid hv
  obtain ⟨a, c, b', o', rfl, ha, hkl, hks⟩ := hv
  have HH := Lib.hid hH
  have HOp := Lib.hid (fun (W : World) (h : PlV W p (.agg #[.int .i64 p.op, .int .i64 p.w, .int .i64 p.n, .slice a p.kids.length c])) => show Calls Tryz.prog 74 #[.agg #[.int .i64 p.op, .int .i64 p.w, .int .i64 p.n, .slice a p.kids.length c]] W fun e w' => e = .returned (.int .i64 5) ∧ Below W.heap.size W w' by have := op10_any p _ W h; rw [hop] at this; exact this)
  clear hH ha hks hop
  go_enter Tryz.func35, Tryz.ntmps35
  go_wp2_with fail
  obtain ⟨pb, hpb⟩ : ∃ n, w.heap.size = n := ⟨_, rfl⟩
  obtain ⟨w1, hw1⟩ : ∃ w1, w.alloc (.cells #[.int .i64 p.op, .int .i64 p.w, .int .i64 p.n, .slice a p.kids.length c] 74) = w1 := ⟨_, rfl⟩
  have hb1 : Below w.heap.size w w1 := by rw [← hw1]; exact (Below.refl _ _).alloc (Nat.le_refl _) _
  have hp1 : w1.heap[pb]? = some (.cells #[.int .i64 p.op, .int .i64 p.w, .int .i64 p.n, .slice a p.kids.length c] 74) := by rw [← hw1]; exact blk_new hpb
  rw [hpb, hw1]
  clear hw1
  refine (HOp.out w1 (HV.out.later hb1)).mono ?_
  rintro e w2 ⟨rfl, hb2⟩
  have h02 := hb1.trans (hb2.mono hb1.size)
  have hp2 := later_blk hb2 hp1
  have z0 : (w2.alloc (.cells (tC 5 [] (.pointer none) [] [] (.slice none 0 0)) 30)).cell? ⟨w2.heap.size, 0, none⟩ = some (.int .i64 5) := cell_of_blk (o := 0) (blk_new rfl) rfl
  have q0 : (w2.alloc (.cells (tC 5 [] (.pointer none) [] [] (.slice none 0 0)) 30)).cell? ⟨pb, 0, none⟩ = some (.int .i64 p.op) := cell_of_blk (o := 0) (blk_old hp2) rfl
  have q1 : (w2.alloc (.cells (tC 5 [] (.pointer none) [] [] (.slice none 0 0)) 30)).cell? ⟨pb, 1, none⟩ = some (.int .i64 p.w) := cell_of_blk (o := 1) (blk_old hp2) rfl
  have q2 : (w2.alloc (.cells (tC 5 [] (.pointer none) [] [] (.slice none 0 0)) 30)).cell? ⟨pb, 2, none⟩ = some (.int .i64 p.n) := cell_of_blk (o := 2) (blk_old hp2) rfl
  have q3 : (w2.alloc (.cells (tC 5 [] (.pointer none) [] [] (.slice none 0 0)) 30)).cell? ⟨pb, 3, none⟩ = some (.slice a p.kids.length c) := cell_of_blk (o := 3) (blk_old hp2) rfl
  have H02 := Lib.hid h02
  have HP2 := Lib.hid hp2
  have hwtb : w.heap.size ≤ w2.heap.size := h02.size
  clear hb1 hb2 hp1 h02 hp2 HOp
  go_wp2_with fail
  obtain ⟨tb, htb⟩ : ∃ n, w2.heap.size = n := ⟨_, rfl⟩
  obtain ⟨w3, hw3⟩ : ∃ w3, w2.alloc (.cells (tC 5 [] (.pointer none) [] [] (.slice none 0 0)) 30) = w3 := ⟨_, rfl⟩
  have hb3 : Below w2.heap.size w2 w3 := by rw [← hw3]; exact (Below.refl _ _).alloc (Nat.le_refl _) _
  have ht3 : w3.heap[tb]? = some (.cells (tC 5 [] (.pointer none) [] [] (.slice none 0 0)) 30) := by rw [← hw3]; exact blk_new htb
  have hpt : pb ≠ tb := by have := blk_lt HP2.out; omega
  have HB := Lib.hid (H02.out.trans (hb3.mono H02.out.size))
  have HP := Lib.hid (later_blk hb3 HP2.out)
  have HT := Lib.hid ht3
  rw [htb] at hwtb
  rw [htb, hw3]
  clear hw3 z0 q0 q1 q2 q3 hb3 HP2 H02 ht3
  have hH3 : ∀ h, (H h ∨ h = tb) → h < w3.heap.size := fun h hh => by
    rcases hh with hh | hh
    · have h1 := HH.out h hh; have h2 := HB.out.size; omega
    · have h1 := blk_lt HT.out; omega
  refine (expr10_any (H := fun x => H x ∨ x = tb) p.w w3 hH3).mono ?_
  rintro e w4 ⟨rb, rfl, hr, hb⟩
  have HR := Lib.hid hr
  replace HT := Lib.hid (later_blk hb HT.out)
  replace HP := Lib.hid (later_blk hb HP.out)
  replace HB := Lib.hid (HB.out.trans (hb.mono HB.out.size))
  try replace HR := Lib.hid (HR.out.later hb)
  clear hb
  replace HR := Lib.hid hr
  clear hr hH3
  have x : w4.cell? ⟨tb, 3, none⟩ = some (.pointer none) := cell_of_blk (o := 3) HT.out rfl
  have fr : ∀ o, w4.frozen? ⟨tb, o, none⟩ = false := fun o => frozen_of_blk HT.out
  have y0 : (w4.setCell ⟨tb, 3, none⟩ (Ptr rb)).cell? ⟨tb, 0, none⟩ = some (.int .i64 5) := cell_of_blk (o := 0) (blk_set HT.out) rfl
  have y2 : (w4.setCell ⟨tb, 3, none⟩ (Ptr rb)).cell? ⟨pb, 2, none⟩ = some (.int .i64 p.n) := cell_of_blk (o := 2) (keep_set HP.out hpt) rfl
  go_wp2_with fail
  obtain ⟨w5, hw5⟩ : ∃ w5, w4.setCell ⟨tb, 3, none⟩ (Ptr rb) = w5 := ⟨_, rfl⟩
  have hk : Keep (· = tb) w4 w5 := by rw [← hw5]; exact Keep.set rfl
  have ht : w5.heap[tb]? = some (.cells (tC 5 [] (Ptr rb) [] [] (.slice none 0 0)) 30) := by rw [← hw5, blk_set HT.out]; rfl
  try rw [hw5]
  replace HT := Lib.hid ht
  replace HP := Lib.hid (hk.blk hpt HP.out)
  try replace HR := Lib.hid (HR.out.keep (hk.wide fun x e => .inl (.inr e)))
  replace HB := Lib.hid (HB.out.trans (hk.below HB.out.size fun x e => by rw [e]; exact hwtb))
  clear hw5 hk ht x fr y0 y2
  refine (text10_any _ w5).mono ?_
  rintro e w6 ⟨⟨l, rfl, hl⟩, hb⟩
  replace HT := Lib.hid (later_blk hb HT.out)
  replace HP := Lib.hid (later_blk hb HP.out)
  replace HB := Lib.hid (HB.out.trans (hb.mono HB.out.size))
  try replace HR := Lib.hid (HR.out.later hb)
  clear hb
  have x : w6.cell? ⟨tb, 5, none⟩ = some (Str []) := cell_of_blk (o := 5) HT.out rfl
  have fr : ∀ o, w6.frozen? ⟨tb, o, none⟩ = false := fun o => frozen_of_blk HT.out
  have y0 : (w6.setCell ⟨tb, 5, none⟩ (Str l)).cell? ⟨tb, 0, none⟩ = some (.int .i64 5) := cell_of_blk (o := 0) (blk_set HT.out) rfl
  have y2 : (w6.setCell ⟨tb, 5, none⟩ (Str l)).cell? ⟨pb, 2, none⟩ = some (.int .i64 p.n) := cell_of_blk (o := 2) (keep_set HP.out hpt) rfl
  go_wp2_with fail
  obtain ⟨w7, hw7⟩ : ∃ w5, w6.setCell ⟨tb, 5, none⟩ (Str l) = w5 := ⟨_, rfl⟩
  have hk : Keep (· = tb) w6 w7 := by rw [← hw7]; exact Keep.set rfl
  have ht : w7.heap[tb]? = some (.cells (tC 5 [] (Ptr rb) [] l (.slice none 0 0)) 30) := by rw [← hw7, blk_set HT.out]; rfl
  try rw [hw7]
  replace HT := Lib.hid ht
  replace HP := Lib.hid (hk.blk hpt HP.out)
  try replace HR := Lib.hid (HR.out.keep (hk.wide fun x e => .inl (.inr e)))
  replace HB := Lib.hid (HB.out.trans (hk.below HB.out.size fun x e => by rw [e]; exact hwtb))
  clear hw7 hk ht x fr y0 y2
  refine bodyPost_ret (v := Ptr tb) ?_ rfl (made_leaf (re := some (Pv.e10Of p.w)) (name := []) (tx := []) (bk := l) HT.out ⟨rb, rfl, HR.out.widen fun x h => .inl (.inl h)⟩ (by decide) (by decide) rfl (by decide) hl (fun r e => by cases e; exact Pv.e10Of_mem _) hwtb HH.out HB.out)
  simp [results, Tryz.results35, go_sem]
set_option maxRecDepth 20000 in
theorem make10_4 (p : P10) (v : Value) (w : World) (hv : PlV w p v) (hop : opN p = 4) (hH : ∀ h, H h → h < w.heap.size) : Calls Tryz.prog 35 #[v] w (MadeT H p w) := by
  have HV := Lib.hid hv
  obtain ⟨a, c, b', o', rfl, ha, hkl, hks⟩ := hv
  have HH := Lib.hid hH
  have HOp := Lib.hid (fun (W : World) (h : PlV W p (.agg #[.int .i64 p.op, .int .i64 p.w, .int .i64 p.n, .slice a p.kids.length c])) => show Calls Tryz.prog 74 #[.agg #[.int .i64 p.op, .int .i64 p.w, .int .i64 p.n, .slice a p.kids.length c]] W fun e w' => e = .returned (.int .i64 4) ∧ Below W.heap.size W w' by have := op10_any p _ W h; rw [hop] at this; exact this)
  clear hH ha hks hop
  go_enter Tryz.func35, Tryz.ntmps35
  go_wp2_with fail
  obtain ⟨pb, hpb⟩ : ∃ n, w.heap.size = n := ⟨_, rfl⟩
  obtain ⟨w1, hw1⟩ : ∃ w1, w.alloc (.cells #[.int .i64 p.op, .int .i64 p.w, .int .i64 p.n, .slice a p.kids.length c] 74) = w1 := ⟨_, rfl⟩
  have hb1 : Below w.heap.size w w1 := by rw [← hw1]; exact (Below.refl _ _).alloc (Nat.le_refl _) _
  have hp1 : w1.heap[pb]? = some (.cells #[.int .i64 p.op, .int .i64 p.w, .int .i64 p.n, .slice a p.kids.length c] 74) := by rw [← hw1]; exact blk_new hpb
  rw [hpb, hw1]
  clear hw1
  refine (HOp.out w1 (HV.out.later hb1)).mono ?_
  rintro e w2 ⟨rfl, hb2⟩
  have h02 := hb1.trans (hb2.mono hb1.size)
  have hp2 := later_blk hb2 hp1
  have z0 : (w2.alloc (.cells (tC 4 [] (.pointer none) [] [] (.slice none 0 0)) 30)).cell? ⟨w2.heap.size, 0, none⟩ = some (.int .i64 4) := cell_of_blk (o := 0) (blk_new rfl) rfl
  have q0 : (w2.alloc (.cells (tC 4 [] (.pointer none) [] [] (.slice none 0 0)) 30)).cell? ⟨pb, 0, none⟩ = some (.int .i64 p.op) := cell_of_blk (o := 0) (blk_old hp2) rfl
  have q1 : (w2.alloc (.cells (tC 4 [] (.pointer none) [] [] (.slice none 0 0)) 30)).cell? ⟨pb, 1, none⟩ = some (.int .i64 p.w) := cell_of_blk (o := 1) (blk_old hp2) rfl
  have q2 : (w2.alloc (.cells (tC 4 [] (.pointer none) [] [] (.slice none 0 0)) 30)).cell? ⟨pb, 2, none⟩ = some (.int .i64 p.n) := cell_of_blk (o := 2) (blk_old hp2) rfl
  have q3 : (w2.alloc (.cells (tC 4 [] (.pointer none) [] [] (.slice none 0 0)) 30)).cell? ⟨pb, 3, none⟩ = some (.slice a p.kids.length c) := cell_of_blk (o := 3) (blk_old hp2) rfl
  have H02 := Lib.hid h02
  have HP2 := Lib.hid hp2
  have hwtb : w.heap.size ≤ w2.heap.size := h02.size
  clear hb1 hb2 hp1 h02 hp2 HOp
  go_wp2_with fail
  obtain ⟨tb, htb⟩ : ∃ n, w2.heap.size = n := ⟨_, rfl⟩
  obtain ⟨w3, hw3⟩ : ∃ w3, w2.alloc (.cells (tC 4 [] (.pointer none) [] [] (.slice none 0 0)) 30) = w3 := ⟨_, rfl⟩
  have hb3 : Below w2.heap.size w2 w3 := by rw [← hw3]; exact (Below.refl _ _).alloc (Nat.le_refl _) _
  have ht3 : w3.heap[tb]? = some (.cells (tC 4 [] (.pointer none) [] [] (.slice none 0 0)) 30) := by rw [← hw3]; exact blk_new htb
  have hpt : pb ≠ tb := by have := blk_lt HP2.out; omega
  have HB := Lib.hid (H02.out.trans (hb3.mono H02.out.size))
  have HP := Lib.hid (later_blk hb3 HP2.out)
  have HT := Lib.hid ht3
  rw [htb] at hwtb
  rw [htb, hw3]
  clear hw3 z0 q0 q1 q2 q3 hb3 HP2 H02 ht3
  have hH3 : ∀ h, (H h ∨ h = tb) → h < w3.heap.size := fun h hh => by
    rcases hh with hh | hh
    · have h1 := HH.out h hh; have h2 := HB.out.size; omega
    · have h1 := blk_lt HT.out; omega
  refine (expr10_any (H := fun x => H x ∨ x = tb) p.w w3 hH3).mono ?_
  rintro e w4 ⟨rb, rfl, hr, hb⟩
  have HR := Lib.hid hr
  replace HT := Lib.hid (later_blk hb HT.out)
  replace HP := Lib.hid (later_blk hb HP.out)
  replace HB := Lib.hid (HB.out.trans (hb.mono HB.out.size))
  try replace HR := Lib.hid (HR.out.later hb)
  clear hb
  replace HR := Lib.hid hr
  clear hr hH3
  have x : w4.cell? ⟨tb, 3, none⟩ = some (.pointer none) := cell_of_blk (o := 3) HT.out rfl
  have fr : ∀ o, w4.frozen? ⟨tb, o, none⟩ = false := fun o => frozen_of_blk HT.out
  have y0 : (w4.setCell ⟨tb, 3, none⟩ (Ptr rb)).cell? ⟨tb, 0, none⟩ = some (.int .i64 4) := cell_of_blk (o := 0) (blk_set HT.out) rfl
  have y2 : (w4.setCell ⟨tb, 3, none⟩ (Ptr rb)).cell? ⟨pb, 2, none⟩ = some (.int .i64 p.n) := cell_of_blk (o := 2) (keep_set HP.out hpt) rfl
  go_wp2_with fail
  obtain ⟨w5, hw5⟩ : ∃ w5, w4.setCell ⟨tb, 3, none⟩ (Ptr rb) = w5 := ⟨_, rfl⟩
  have hk : Keep (· = tb) w4 w5 := by rw [← hw5]; exact Keep.set rfl
  have ht : w5.heap[tb]? = some (.cells (tC 4 [] (Ptr rb) [] [] (.slice none 0 0)) 30) := by rw [← hw5, blk_set HT.out]; rfl
  try rw [hw5]
  replace HT := Lib.hid ht
  replace HP := Lib.hid (hk.blk hpt HP.out)
  try replace HR := Lib.hid (HR.out.keep (hk.wide fun x e => .inl (.inr e)))
  replace HB := Lib.hid (HB.out.trans (hk.below HB.out.size fun x e => by rw [e]; exact hwtb))
  clear hw5 hk ht x fr y0 y2
  refine (text10_any _ w5).mono ?_
  rintro e w6 ⟨⟨l, rfl, hl⟩, hb⟩
  replace HT := Lib.hid (later_blk hb HT.out)
  replace HP := Lib.hid (later_blk hb HP.out)
  replace HB := Lib.hid (HB.out.trans (hb.mono HB.out.size))
  try replace HR := Lib.hid (HR.out.later hb)
  clear hb
  have x : w6.cell? ⟨tb, 4, none⟩ = some (Str []) := cell_of_blk (o := 4) HT.out rfl
  have fr : ∀ o, w6.frozen? ⟨tb, o, none⟩ = false := fun o => frozen_of_blk HT.out
  have y0 : (w6.setCell ⟨tb, 4, none⟩ (Str l)).cell? ⟨tb, 0, none⟩ = some (.int .i64 4) := cell_of_blk (o := 0) (blk_set HT.out) rfl
  have y2 : (w6.setCell ⟨tb, 4, none⟩ (Str l)).cell? ⟨pb, 2, none⟩ = some (.int .i64 p.n) := cell_of_blk (o := 2) (keep_set HP.out hpt) rfl
  go_wp2_with fail
  obtain ⟨w7, hw7⟩ : ∃ w5, w6.setCell ⟨tb, 4, none⟩ (Str l) = w5 := ⟨_, rfl⟩
  have hk : Keep (· = tb) w6 w7 := by rw [← hw7]; exact Keep.set rfl
  have ht : w7.heap[tb]? = some (.cells (tC 4 [] (Ptr rb) l [] (.slice none 0 0)) 30) := by rw [← hw7, blk_set HT.out]; rfl
  try rw [hw7]
  replace HT := Lib.hid ht
  replace HP := Lib.hid (hk.blk hpt HP.out)
  try replace HR := Lib.hid (HR.out.keep (hk.wide fun x e => .inl (.inr e)))
  replace HB := Lib.hid (HB.out.trans (hk.below HB.out.size fun x e => by rw [e]; exact hwtb))
  clear hw7 hk ht x fr y0 y2
  refine (text10_any _ w7).mono ?_
  rintro e w8 ⟨⟨m, rfl, hm⟩, hb⟩
  replace HT := Lib.hid (later_blk hb HT.out)
  replace HP := Lib.hid (later_blk hb HP.out)
  replace HB := Lib.hid (HB.out.trans (hb.mono HB.out.size))
  try replace HR := Lib.hid (HR.out.later hb)
  clear hb
  have x : w8.cell? ⟨tb, 5, none⟩ = some (Str []) := cell_of_blk (o := 5) HT.out rfl
  have fr : ∀ o, w8.frozen? ⟨tb, o, none⟩ = false := fun o => frozen_of_blk HT.out
  have y0 : (w8.setCell ⟨tb, 5, none⟩ (Str m)).cell? ⟨tb, 0, none⟩ = some (.int .i64 4) := cell_of_blk (o := 0) (blk_set HT.out) rfl
  have y2 : (w8.setCell ⟨tb, 5, none⟩ (Str m)).cell? ⟨pb, 2, none⟩ = some (.int .i64 p.n) := cell_of_blk (o := 2) (keep_set HP.out hpt) rfl
  go_wp2_with fail
  obtain ⟨w9, hw9⟩ : ∃ w5, w8.setCell ⟨tb, 5, none⟩ (Str m) = w5 := ⟨_, rfl⟩
  have hk : Keep (· = tb) w8 w9 := by rw [← hw9]; exact Keep.set rfl
  have ht : w9.heap[tb]? = some (.cells (tC 4 [] (Ptr rb) l m (.slice none 0 0)) 30) := by rw [← hw9, blk_set HT.out]; rfl
  try rw [hw9]
  replace HT := Lib.hid ht
  replace HP := Lib.hid (hk.blk hpt HP.out)
  try replace HR := Lib.hid (HR.out.keep (hk.wide fun x e => .inl (.inr e)))
  replace HB := Lib.hid (HB.out.trans (hk.below HB.out.size fun x e => by rw [e]; exact hwtb))
  clear hw9 hk ht x fr y0 y2
  refine bodyPost_ret (v := Ptr tb) ?_ rfl (made_leaf (re := some (Pv.e10Of p.w)) (name := []) (tx := l) (bk := m) HT.out ⟨rb, rfl, HR.out.widen fun x h => .inl (.inl h)⟩ (by decide) (by decide) rfl hl hm (fun r e => by cases e; exact Pv.e10Of_mem _) hwtb HH.out HB.out)
  simp [results, Tryz.results35, go_sem]
set_option maxRecDepth 20000 in
theorem make10_6 (p : P10) (v : Value) (w : World) (hv : PlV w p v) (hop : opN p = 6) (hH : ∀ h, H h → h < w.heap.size) : Calls Tryz.prog 35 #[v] w (MadeT H p w) := by
  have HV := Lib.hid hv
  obtain ⟨a, c, b', o', rfl, ha, hkl, hks⟩ := hv
  have HH := Lib.hid hH
  have HOp := Lib.hid (fun (W : World) (h : PlV W p (.agg #[.int .i64 p.op, .int .i64 p.w, .int .i64 p.n, .slice a p.kids.length c])) => show Calls Tryz.prog 74 #[.agg #[.int .i64 p.op, .int .i64 p.w, .int .i64 p.n, .slice a p.kids.length c]] W fun e w' => e = .returned (.int .i64 6) ∧ Below W.heap.size W w' by have := op10_any p _ W h; rw [hop] at this; exact this)
  clear hH ha hks hop
  go_enter Tryz.func35, Tryz.ntmps35
  go_wp2_with fail
  obtain ⟨pb, hpb⟩ : ∃ n, w.heap.size = n := ⟨_, rfl⟩
  obtain ⟨w1, hw1⟩ : ∃ w1, w.alloc (.cells #[.int .i64 p.op, .int .i64 p.w, .int .i64 p.n, .slice a p.kids.length c] 74) = w1 := ⟨_, rfl⟩
  have hb1 : Below w.heap.size w w1 := by rw [← hw1]; exact (Below.refl _ _).alloc (Nat.le_refl _) _
  have hp1 : w1.heap[pb]? = some (.cells #[.int .i64 p.op, .int .i64 p.w, .int .i64 p.n, .slice a p.kids.length c] 74) := by rw [← hw1]; exact blk_new hpb
  rw [hpb, hw1]
  clear hw1
  refine (HOp.out w1 (HV.out.later hb1)).mono ?_
  rintro e w2 ⟨rfl, hb2⟩
  have h02 := hb1.trans (hb2.mono hb1.size)
  have hp2 := later_blk hb2 hp1
  have z0 : (w2.alloc (.cells (tC 6 [] (.pointer none) [] [] (.slice none 0 0)) 30)).cell? ⟨w2.heap.size, 0, none⟩ = some (.int .i64 6) := cell_of_blk (o := 0) (blk_new rfl) rfl
  have q0 : (w2.alloc (.cells (tC 6 [] (.pointer none) [] [] (.slice none 0 0)) 30)).cell? ⟨pb, 0, none⟩ = some (.int .i64 p.op) := cell_of_blk (o := 0) (blk_old hp2) rfl
  have q1 : (w2.alloc (.cells (tC 6 [] (.pointer none) [] [] (.slice none 0 0)) 30)).cell? ⟨pb, 1, none⟩ = some (.int .i64 p.w) := cell_of_blk (o := 1) (blk_old hp2) rfl
  have q2 : (w2.alloc (.cells (tC 6 [] (.pointer none) [] [] (.slice none 0 0)) 30)).cell? ⟨pb, 2, none⟩ = some (.int .i64 p.n) := cell_of_blk (o := 2) (blk_old hp2) rfl
  have q3 : (w2.alloc (.cells (tC 6 [] (.pointer none) [] [] (.slice none 0 0)) 30)).cell? ⟨pb, 3, none⟩ = some (.slice a p.kids.length c) := cell_of_blk (o := 3) (blk_old hp2) rfl
  have H02 := Lib.hid h02
  have HP2 := Lib.hid hp2
  have hwtb : w.heap.size ≤ w2.heap.size := h02.size
  clear hb1 hb2 hp1 h02 hp2 HOp
  go_wp2_with fail
  obtain ⟨tb, htb⟩ : ∃ n, w2.heap.size = n := ⟨_, rfl⟩
  obtain ⟨w3, hw3⟩ : ∃ w3, w2.alloc (.cells (tC 6 [] (.pointer none) [] [] (.slice none 0 0)) 30) = w3 := ⟨_, rfl⟩
  have hb3 : Below w2.heap.size w2 w3 := by rw [← hw3]; exact (Below.refl _ _).alloc (Nat.le_refl _) _
  have ht3 : w3.heap[tb]? = some (.cells (tC 6 [] (.pointer none) [] [] (.slice none 0 0)) 30) := by rw [← hw3]; exact blk_new htb
  have hpt : pb ≠ tb := by have := blk_lt HP2.out; omega
  have HB := Lib.hid (H02.out.trans (hb3.mono H02.out.size))
  have HP := Lib.hid (later_blk hb3 HP2.out)
  have HT := Lib.hid ht3
  rw [htb] at hwtb
  rw [htb, hw3]
  clear hw3 z0 q0 q1 q2 q3 hb3 HP2 H02 ht3
  refine (text10_any _ w3).mono ?_
  rintro e w4 ⟨⟨l, rfl, hl⟩, hb⟩
  replace HT := Lib.hid (later_blk hb HT.out)
  replace HP := Lib.hid (later_blk hb HP.out)
  replace HB := Lib.hid (HB.out.trans (hb.mono HB.out.size))
  try replace HR := Lib.hid (HR.out.later hb)
  clear hb
  have x : w4.cell? ⟨tb, 4, none⟩ = some (Str []) := cell_of_blk (o := 4) HT.out rfl
  have fr : ∀ o, w4.frozen? ⟨tb, o, none⟩ = false := fun o => frozen_of_blk HT.out
  have y0 : (w4.setCell ⟨tb, 4, none⟩ (Str l)).cell? ⟨tb, 0, none⟩ = some (.int .i64 6) := cell_of_blk (o := 0) (blk_set HT.out) rfl
  have y2 : (w4.setCell ⟨tb, 4, none⟩ (Str l)).cell? ⟨pb, 2, none⟩ = some (.int .i64 p.n) := cell_of_blk (o := 2) (keep_set HP.out hpt) rfl
  go_wp2_with fail
  obtain ⟨w5, hw5⟩ : ∃ w5, w4.setCell ⟨tb, 4, none⟩ (Str l) = w5 := ⟨_, rfl⟩
  have hk : Keep (· = tb) w4 w5 := by rw [← hw5]; exact Keep.set rfl
  have ht : w5.heap[tb]? = some (.cells (tC 6 [] (.pointer none) l [] (.slice none 0 0)) 30) := by rw [← hw5, blk_set HT.out]; rfl
  try rw [hw5]
  replace HT := Lib.hid ht
  replace HP := Lib.hid (hk.blk hpt HP.out)
  try replace HR := Lib.hid (HR.out.keep (hk.wide fun x e => .inl (.inr e)))
  replace HB := Lib.hid (HB.out.trans (hk.below HB.out.size fun x e => by rw [e]; exact hwtb))
  clear hw5 hk ht x fr y0 y2
  refine bodyPost_ret (v := Ptr tb) ?_ rfl (made_leaf (re := none) (name := []) (tx := l) (bk := []) HT.out rfl (by decide) (by decide) (by decide) hl (by decide) (fun r e => by cases e) hwtb HH.out HB.out)
  simp [results, Tryz.results35, go_sem]

theorem bit1 (n : Int) : bits BinOp.and IntKind.i64 n 1 = 0 ∨ bits BinOp.and IntKind.i64 n 1 = 1 := by
  have h : (BitVec.ofInt 64 n &&& 1).toNat = 0 ∨ (BitVec.ofInt 64 n &&& 1).toNat = 1 := by
    rw [BitVec.toNat_and]
    have h1 : (1 : BitVec 64).toNat = 1 := rfl
    rw [h1, Nat.and_one_is_mod]
    omega
  show IntKind.i64.wrap ((BitVec.ofInt 64 n &&& BitVec.ofInt 64 1).toNat : Int) = 0 ∨ IntKind.i64.wrap ((BitVec.ofInt 64 n &&& BitVec.ofInt 64 1).toNat : Int) = 1
  have e : BitVec.ofInt 64 1 = 1 := rfl
  rw [e]
  rcases h with h | h <;> rw [h]
  · exact .inl (by decide)
  · exact .inr (by decide)
set_option maxRecDepth 20000 in
theorem make10_3 (p : P10) (v : Value) (w : World) (hv : PlV w p v) (hop : opN p = 3) (hH : ∀ h, H h → h < w.heap.size) : Calls Tryz.prog 35 #[v] w (MadeT H p w) := by
  have HV := Lib.hid hv
  obtain ⟨a, c, b', o', rfl, ha, hkl, hks⟩ := hv
  have HH := Lib.hid hH
  have HOp := Lib.hid (fun (W : World) (h : PlV W p (.agg #[.int .i64 p.op, .int .i64 p.w, .int .i64 p.n, .slice a p.kids.length c])) => show Calls Tryz.prog 74 #[.agg #[.int .i64 p.op, .int .i64 p.w, .int .i64 p.n, .slice a p.kids.length c]] W fun e w' => e = .returned (.int .i64 3) ∧ Below W.heap.size W w' by have := op10_any p _ W h; rw [hop] at this; exact this)
  clear hH ha hks hop
  go_enter Tryz.func35, Tryz.ntmps35
  go_wp2_with fail
  obtain ⟨pb, hpb⟩ : ∃ n, w.heap.size = n := ⟨_, rfl⟩
  obtain ⟨w1, hw1⟩ : ∃ w1, w.alloc (.cells #[.int .i64 p.op, .int .i64 p.w, .int .i64 p.n, .slice a p.kids.length c] 74) = w1 := ⟨_, rfl⟩
  have hb1 : Below w.heap.size w w1 := by rw [← hw1]; exact (Below.refl _ _).alloc (Nat.le_refl _) _
  have hp1 : w1.heap[pb]? = some (.cells #[.int .i64 p.op, .int .i64 p.w, .int .i64 p.n, .slice a p.kids.length c] 74) := by rw [← hw1]; exact blk_new hpb
  rw [hpb, hw1]
  clear hw1
  refine (HOp.out w1 (HV.out.later hb1)).mono ?_
  rintro e w2 ⟨rfl, hb2⟩
  have h02 := hb1.trans (hb2.mono hb1.size)
  have hp2 := later_blk hb2 hp1
  have z0 : (w2.alloc (.cells (tC 3 [] (.pointer none) [] [] (.slice none 0 0)) 30)).cell? ⟨w2.heap.size, 0, none⟩ = some (.int .i64 3) := cell_of_blk (o := 0) (blk_new rfl) rfl
  have q0 : (w2.alloc (.cells (tC 3 [] (.pointer none) [] [] (.slice none 0 0)) 30)).cell? ⟨pb, 0, none⟩ = some (.int .i64 p.op) := cell_of_blk (o := 0) (blk_old hp2) rfl
  have q1 : (w2.alloc (.cells (tC 3 [] (.pointer none) [] [] (.slice none 0 0)) 30)).cell? ⟨pb, 1, none⟩ = some (.int .i64 p.w) := cell_of_blk (o := 1) (blk_old hp2) rfl
  have q2 : (w2.alloc (.cells (tC 3 [] (.pointer none) [] [] (.slice none 0 0)) 30)).cell? ⟨pb, 2, none⟩ = some (.int .i64 p.n) := cell_of_blk (o := 2) (blk_old hp2) rfl
  have q3 : (w2.alloc (.cells (tC 3 [] (.pointer none) [] [] (.slice none 0 0)) 30)).cell? ⟨pb, 3, none⟩ = some (.slice a p.kids.length c) := cell_of_blk (o := 3) (blk_old hp2) rfl
  have H02 := Lib.hid h02
  have HP2 := Lib.hid hp2
  have hwtb : w.heap.size ≤ w2.heap.size := h02.size
  clear hb1 hb2 hp1 h02 hp2 HOp
  go_wp2_with fail
  obtain ⟨tb, htb⟩ : ∃ n, w2.heap.size = n := ⟨_, rfl⟩
  obtain ⟨w3, hw3⟩ : ∃ w3, w2.alloc (.cells (tC 3 [] (.pointer none) [] [] (.slice none 0 0)) 30) = w3 := ⟨_, rfl⟩
  have hb3 : Below w2.heap.size w2 w3 := by rw [← hw3]; exact (Below.refl _ _).alloc (Nat.le_refl _) _
  have ht3 : w3.heap[tb]? = some (.cells (tC 3 [] (.pointer none) [] [] (.slice none 0 0)) 30) := by rw [← hw3]; exact blk_new htb
  have hpt : pb ≠ tb := by have := blk_lt HP2.out; omega
  have HB := Lib.hid (H02.out.trans (hb3.mono H02.out.size))
  have HP := Lib.hid (later_blk hb3 HP2.out)
  have HT := Lib.hid ht3
  rw [htb] at hwtb
  rw [htb, hw3]
  clear hw3 z0 q0 q1 q2 q3 hb3 HP2 H02 ht3
  have hH3 : ∀ h, (H h ∨ h = tb) → h < w3.heap.size := fun h hh => by
    rcases hh with hh | hh
    · have h1 := HH.out h hh; have h2 := HB.out.size; omega
    · have h1 := blk_lt HT.out; omega
  refine (expr10_any (H := fun x => H x ∨ x = tb) p.w w3 hH3).mono ?_
  rintro e w4 ⟨rb, rfl, hr, hb⟩
  have HR := Lib.hid hr
  replace HT := Lib.hid (later_blk hb HT.out)
  replace HP := Lib.hid (later_blk hb HP.out)
  replace HB := Lib.hid (HB.out.trans (hb.mono HB.out.size))
  try replace HR := Lib.hid (HR.out.later hb)
  clear hb
  replace HR := Lib.hid hr
  clear hr hH3
  have x : w4.cell? ⟨tb, 3, none⟩ = some (.pointer none) := cell_of_blk (o := 3) HT.out rfl
  have fr : ∀ o, w4.frozen? ⟨tb, o, none⟩ = false := fun o => frozen_of_blk HT.out
  have y0 : (w4.setCell ⟨tb, 3, none⟩ (Ptr rb)).cell? ⟨tb, 0, none⟩ = some (.int .i64 3) := cell_of_blk (o := 0) (blk_set HT.out) rfl
  have z2 : ((w4.setCell ⟨tb, 3, none⟩ (Ptr rb)).alloc (.cells #[.string ⟨#[107]⟩, .string ⟨#[99, 111, 108, 111, 114]⟩] 9)).cell? ⟨pb, 2, none⟩ = some (.int .i64 p.n) := cell_of_blk (o := 2) (blk_old (keep_set HP.out hpt)) rfl
  have zt : ((w4.setCell ⟨tb, 3, none⟩ (Ptr rb)).alloc (.cells #[.string ⟨#[107]⟩, .string ⟨#[99, 111, 108, 111, 114]⟩] 9)).cell? ⟨tb, 2, none⟩ = some (Str []) := cell_of_blk (o := 2) (blk_old (blk_set HT.out)) rfl
  have zf : ∀ o, ((w4.setCell ⟨tb, 3, none⟩ (Ptr rb)).alloc (.cells #[.string ⟨#[107]⟩, .string ⟨#[99, 111, 108, 111, 114]⟩] 9)).frozen? ⟨tb, o, none⟩ = false := fun o => frozen_of_blk (blk_old (blk_set HT.out))
  have hst : ∀ (v : Value), (w4.setCell ⟨tb, 3, none⟩ (Ptr rb)).heap.size = w4.heap.size := fun _ => by simp
  rcases bit1 p.n with hbit | hbit
  · go_wp2_with fail
    obtain ⟨w5, hw5⟩ : ∃ w5, ((w4.setCell ⟨tb, 3, none⟩ (Ptr rb)).alloc (.cells #[.string ⟨#[107]⟩, .string ⟨#[99, 111, 108, 111, 114]⟩] 9)).setCell ⟨tb, 2, none⟩ (Str [107]) = w5 := ⟨_, rfl⟩
    have ht5 : w5.heap[tb]? = some (.cells (tC 3 [107] (Ptr rb) [] [] (.slice none 0 0)) 30) := by rw [← hw5, blk_set (blk_old (blk_set HT.out))]; rfl
    have hk5 : Keep (· = tb) w4 w5 := by rw [← hw5]; exact ((Keep.set (H := (· = tb)) rfl).trans (Keep.alloc _ _)).trans (Keep.set rfl)
    try rw [hw5]
    refine bodyPost_ret (v := Ptr tb) ?_ rfl (made_leaf (re := some (Pv.e10Of p.w)) (name := [107]) (tx := []) (bk := []) ht5 ⟨rb, rfl, (HR.out.keep (hk5.wide fun x e => .inl (.inr e))).widen fun x h => .inl (.inl h)⟩ (by decide) (by decide) rfl (by decide) (by decide) (fun r e => by cases e; exact Pv.e10Of_mem _) hwtb HH.out (HB.out.trans (hk5.below HB.out.size fun x e => by rw [e]; exact hwtb)))
    simp [results, Tryz.results35, go_sem]
  · go_wp2_with fail
    obtain ⟨w5, hw5⟩ : ∃ w5, ((w4.setCell ⟨tb, 3, none⟩ (Ptr rb)).alloc (.cells #[.string ⟨#[107]⟩, .string ⟨#[99, 111, 108, 111, 114]⟩] 9)).setCell ⟨tb, 2, none⟩ (Str [99, 111, 108, 111, 114]) = w5 := ⟨_, rfl⟩
    have ht5 : w5.heap[tb]? = some (.cells (tC 3 [99, 111, 108, 111, 114] (Ptr rb) [] [] (.slice none 0 0)) 30) := by rw [← hw5, blk_set (blk_old (blk_set HT.out))]; rfl
    have hk5 : Keep (· = tb) w4 w5 := by rw [← hw5]; exact ((Keep.set (H := (· = tb)) rfl).trans (Keep.alloc _ _)).trans (Keep.set rfl)
    try rw [hw5]
    refine bodyPost_ret (v := Ptr tb) ?_ rfl (made_leaf (re := some (Pv.e10Of p.w)) (name := [99, 111, 108, 111, 114]) (tx := []) (bk := []) ht5 ⟨rb, rfl, (HR.out.keep (hk5.wide fun x e => .inl (.inr e))).widen fun x h => .inl (.inl h)⟩ (by decide) (by decide) rfl (by decide) (by decide) (fun r e => by cases e; exact Pv.e10Of_mem _) hwtb HH.out (HB.out.trans (hk5.below HB.out.size fun x e => by rw [e]; exact hwtb)))
    simp [results, Tryz.results35, go_sem]
/-- of how many parts a kid may be -/
def kidN (p : P10) (i : Nat) : Nat := if h : i < p.kids.length then 3 * P10.nodes p.kids[i] else 1
def KidT (H : Nat → Prop) (p : P10) (i : Nat) (w : World) (e : Ending) (w' : World) : Prop := ∃ (t : Pv.T) (b : Nat), e = .returned (Ptr b) ∧ Pv.TGood t ∧ Pv.tsize t ≤ kidN p i ∧ TAt H w' t b ∧ w.heap.size ≤ b ∧ Below w.heap.size w w'
/-- what Make does at plans of so many parts -/
def Makes10 (m : Nat) : Prop := ∀ (H : Nat → Prop) (q : P10) (v : Value) (W : World), P10.nodes q ≤ m → PlV W q v → (∀ h, H h → h < W.heap.size) → Calls Tryz.prog 35 #[v] W (MadeT H q W)
set_option maxRecDepth 20000 in
theorem kid10_any (m : Nat) (hmake : Makes10 m) (p : P10) (v : Value) (i : Nat) (hi : i < 2) (w : World) (hm : P10.nodesL p.kids ≤ m) (hv : PlV w p v) (hH : ∀ h, H h → h < w.heap.size) :
    Calls Tryz.prog 77 #[v, .int .i64 (i : Int)] w (KidT H p i w) := by
  obtain ⟨a, c, b', o', rfl, ha, hkl, hks⟩ := hv
  have HKs := Lib.hid hks
  have HA := Lib.hid ha
  have HH := Lib.hid hH
  have HM := Lib.hid hm
  have HMk := Lib.hid hmake
  obtain ⟨n, hn⟩ : ∃ n, p.kids.length = n := ⟨_, rfl⟩
  have HL := Lib.hid hn
  rw [hn] at hkl ⊢
  clear hks ha hH hm hn hmake
  by_cases hin : i < n
  · have hkk2 : i < p.kids.length := by rw [HL.out]; exact hin
    have hne : p.kids ≠ [] := fun e => by rw [e] at hkk2; cases hkk2
    have hae := HA.out hne
    subst hae
    have hbA : Below w.heap.size w (w.alloc (.cells #[.int .i64 p.op, .int .i64 p.w, .int .i64 p.n, .slice (some ⟨b', o', none⟩) n c] 74)) := (Below.refl _ _).alloc (Nat.le_refl _) _
    obtain ⟨a', c', c0, c1, c2, c3, hv'⟩ := ((HKs.out.get i hkk2).later hbA).cells
    have hng := P10.nodes_get hkk2
    have hcall := HMk.out H (p.kids[i]'hkk2) _ _ (by have := HM.out; omega) hv' (fun h hh => Nat.lt_of_lt_of_le (HH.out h hh) hbA.size)
    have hkn : kidN p i = 3 * P10.nodes (p.kids[i]'hkk2) := by unfold kidN; rw [dif_pos hkk2]
    have HKn := Lib.hid hkn
    have HCall := Lib.hid hcall
    have HBA := Lib.hid hbA
    have hin' : (i : Int) < n := by omega
    have hi2 : (i : Int) < 2 := by omega
    clear hcall hng hv' hkn hne hbA HA
    go_enter Tryz.func77, Tryz.ntmps77
    go_wp2_with fail
    refine HCall.out.mono ?_
    rintro e w1 ⟨t, b, kv, rv, bs, rfl, hg, hsz, hat, _, _, _, _, hb0, hb1⟩
    have HFin := Lib.hid (show KidT H p i w (.returned (Ptr b)) w1 from ⟨t, b, rfl, hg, by rw [HKn.out]; exact hsz, hat, Nat.le_trans HBA.out.size hb0, HBA.out.trans (hb1.mono HBA.out.size)⟩)
    clear hg hsz hat hb0 hb1 HCall c0 c1 c2 c3
    go_wp2_with fail
    refine bodyPost_ret (v := Ptr b) ?_ rfl HFin.out
    simp [results, Tryz.results77, go_sem]
  · have hin' : ¬ (i : Int) < n := by omega
    have hdn : decide ((i : Int) < n) = false := decide_eq_false hin'
    have hkn : kidN p i = 1 := by unfold kidN; rw [dif_neg (by rw [HL.out]; exact hin)]
    have HKn := Lib.hid hkn
    clear hkn
    go_enter Tryz.func77, Tryz.ntmps77
    go_wp2_with fail
    refine (word_any (H := H) [97] _ (fun h hh => by have := HH.out h hh; simp; omega) (by decide)).mono ?_
    rintro e w1 ⟨rb, rfl, hr, hb⟩
    have hB1 : Below w.heap.size w w1 := ((Below.refl _ w).alloc (Nat.le_refl _) _).trans (hb.mono (by simp))
    have HB1 := Lib.hid hB1
    have HR := Lib.hid hr
    clear hB1 hr hb
    go_wp2_with fail
    have hb2 : Below w1.heap.size w1 (w1.alloc (.cells (tC 2 [] (Ptr rb) [] [] (.slice none 0 0)) 30)) := (Below.refl _ _).alloc (Nat.le_refl _) _
    have hbw := HB1.out.size
    refine bodyPost_ret (v := Ptr w1.heap.size) ?_ rfl ⟨.mk 2 0 [] (some (Pv.word [97])) [] [] [], w1.heap.size, rfl, ?_, ?_, ?_, hbw, HB1.out.trans (hb2.mono hbw)⟩
    · simp [results, Tryz.results77, go_sem]
    · unfold Pv.TGood
      exact ⟨by decide, by decide, by decide, by decide, by decide, (fun r e => by cases e; simp [Pv.e10L]), by unfold Pv.TGoods; trivial⟩
    · rw [HKn.out]; simp [Pv.tsize, Pv.tsizes]
    · exact TAt.mk_ (a := none) (c := 0) (bs := []) (fun h => by have := HH.out _ h; omega) ⟨rb, rfl, HR.out.later hb2⟩ (fun _ _ e => by cases e) (blk_new rfl) (Sl.nil _) TsAt.nil
theorem kidN_two (p : P10) : kidN p 0 + kidN p 1 + 1 ≤ 3 * P10.nodes p := by
  have h := nodes_eq p
  unfold kidN
  split
  · rename_i h0
    split
    · rename_i h1
      have := P10.nodes_get2 h1
      omega
    · have := P10.nodes_get h0
      omega
  · split
    · omega
    · omega
theorem kidN_one (p : P10) : kidN p 0 + 1 ≤ 3 * P10.nodes p := by
  have h := nodes_eq p
  unfold kidN
  split
  · rename_i h0
    have := P10.nodes_get h0
    omega
  · omega
set_option maxRecDepth 20000 in
theorem make10_7 (m : Nat) (hmake : Makes10 m) (p : P10) (hm : P10.nodesL p.kids ≤ m) (v : Value) (w : World) (hv : PlV w p v) (hop : opN p = 7) (hH : ∀ h, H h → h < w.heap.size) : Calls Tryz.prog 35 #[v] w (MadeT H p w) := by
  have HV := Lib.hid hv
  obtain ⟨a, c, b', o', rfl, ha, hkl, hks⟩ := hv
  have HH := Lib.hid hH
  have HOp := Lib.hid (fun (W : World) (h : PlV W p (.agg #[.int .i64 p.op, .int .i64 p.w, .int .i64 p.n, .slice a p.kids.length c])) => show Calls Tryz.prog 74 #[.agg #[.int .i64 p.op, .int .i64 p.w, .int .i64 p.n, .slice a p.kids.length c]] W fun e w' => e = .returned (.int .i64 7) ∧ Below W.heap.size W w' by have := op10_any p _ W h; rw [hop] at this; exact this)
  clear hH ha hks hop
  go_enter Tryz.func35, Tryz.ntmps35
  go_wp2_with fail
  obtain ⟨pb, hpb⟩ : ∃ n, w.heap.size = n := ⟨_, rfl⟩
  obtain ⟨w1, hw1⟩ : ∃ w1, w.alloc (.cells #[.int .i64 p.op, .int .i64 p.w, .int .i64 p.n, .slice a p.kids.length c] 74) = w1 := ⟨_, rfl⟩
  have hb1 : Below w.heap.size w w1 := by rw [← hw1]; exact (Below.refl _ _).alloc (Nat.le_refl _) _
  have hp1 : w1.heap[pb]? = some (.cells #[.int .i64 p.op, .int .i64 p.w, .int .i64 p.n, .slice a p.kids.length c] 74) := by rw [← hw1]; exact blk_new hpb
  rw [hpb, hw1]
  clear hw1
  refine (HOp.out w1 (HV.out.later hb1)).mono ?_
  rintro e w2 ⟨rfl, hb2⟩
  have h02 := hb1.trans (hb2.mono hb1.size)
  have hp2 := later_blk hb2 hp1
  have z0 : (w2.alloc (.cells (tC 7 [] (.pointer none) [] [] (.slice none 0 0)) 30)).cell? ⟨w2.heap.size, 0, none⟩ = some (.int .i64 7) := cell_of_blk (o := 0) (blk_new rfl) rfl
  have q0 : (w2.alloc (.cells (tC 7 [] (.pointer none) [] [] (.slice none 0 0)) 30)).cell? ⟨pb, 0, none⟩ = some (.int .i64 p.op) := cell_of_blk (o := 0) (blk_old hp2) rfl
  have q1 : (w2.alloc (.cells (tC 7 [] (.pointer none) [] [] (.slice none 0 0)) 30)).cell? ⟨pb, 1, none⟩ = some (.int .i64 p.w) := cell_of_blk (o := 1) (blk_old hp2) rfl
  have q2 : (w2.alloc (.cells (tC 7 [] (.pointer none) [] [] (.slice none 0 0)) 30)).cell? ⟨pb, 2, none⟩ = some (.int .i64 p.n) := cell_of_blk (o := 2) (blk_old hp2) rfl
  have q3 : (w2.alloc (.cells (tC 7 [] (.pointer none) [] [] (.slice none 0 0)) 30)).cell? ⟨pb, 3, none⟩ = some (.slice a p.kids.length c) := cell_of_blk (o := 3) (blk_old hp2) rfl
  have H02 := Lib.hid h02
  have HP2 := Lib.hid hp2
  have hwtb : w.heap.size ≤ w2.heap.size := h02.size
  clear hb1 hb2 hp1 h02 hp2 HOp
  go_wp2_with fail
  obtain ⟨tb, htb⟩ : ∃ n, w2.heap.size = n := ⟨_, rfl⟩
  obtain ⟨w3, hw3⟩ : ∃ w3, w2.alloc (.cells (tC 7 [] (.pointer none) [] [] (.slice none 0 0)) 30) = w3 := ⟨_, rfl⟩
  have hb3 : Below w2.heap.size w2 w3 := by rw [← hw3]; exact (Below.refl _ _).alloc (Nat.le_refl _) _
  have ht3 : w3.heap[tb]? = some (.cells (tC 7 [] (.pointer none) [] [] (.slice none 0 0)) 30) := by rw [← hw3]; exact blk_new htb
  have hpt : pb ≠ tb := by have := blk_lt HP2.out; omega
  have HB := Lib.hid (H02.out.trans (hb3.mono H02.out.size))
  have HP := Lib.hid (later_blk hb3 HP2.out)
  have HT := Lib.hid ht3
  rw [htb] at hwtb
  rw [htb, hw3]
  clear hw3 z0 q0 q1 q2 q3 hb3 HP2 H02 ht3
  have p0 : w3.cell? ⟨pb, 0, none⟩ = some (.int .i64 p.op) := cell_of_blk (o := 0) HP.out rfl
  have p1 : w3.cell? ⟨pb, 1, none⟩ = some (.int .i64 p.w) := cell_of_blk (o := 1) HP.out rfl
  have p2 : w3.cell? ⟨pb, 2, none⟩ = some (.int .i64 p.n) := cell_of_blk (o := 2) HP.out rfl
  have p3 : w3.cell? ⟨pb, 3, none⟩ = some (.slice a p.kids.length c) := cell_of_blk (o := 3) HP.out rfl
  have hH3 : ∀ h, (H h ∨ h = tb) → h < w3.heap.size := fun h hh => by
    rcases hh with hh | hh
    · have h1 := HH.out h hh; have h2 := HB.out.size; omega
    · have h1 := blk_lt HT.out; omega
  have HH3 := Lib.hid hH3
  have HMk := Lib.hid hmake
  have HM := Lib.hid hm
  clear hH3 hmake hm
  refine Eag.region (.mov 0 (.mov 1 (.mov 3 (.anc 2 (.anc 4 (.anc 5 (.mov 6 (.mov 7 (.anc 8 Eag.Sch.fin))))))))) [8] (by kernel_rfl) (by kernel_rfl) (fun K ops hops hK => ?_)
  iterate 3
    refine Eag.mov hops rfl rfl (fun w' hb => ?_) ?_
    · have q0 := later hb p0; have q1 := later hb p1; have q2 := later hb p2; have q3 := later hb p3; clear hb; go_simp
    go_simp
  clear p0 p1 p2 p3
  refine Eag.anc hops rfl rfl ?_
  go_wp2_with fail
  have hd3 : Below w3.heap.size w3 w3.drew := (Below.refl _ _).drew
  refine (kid10_any (H := fun x => H x ∨ x = tb) m HMk.out p _ 0 (by omega) w3.drew HM.out ((HV.out.later HB.out).later hd3) HH3.out).mono ?_
  rintro e w4 ⟨t1, b1, rfl, hg1, hs1, hat1, hbb1, hb4⟩
  refine ⟨hb4, ?_⟩
  have h34 : Below w3.heap.size w3 w4 := hd3.trans hb4
  have H34 := Lib.hid h34
  have HA1 := Lib.hid hat1
  have HG1 := Lib.hid hg1
  have HS1 := Lib.hid hs1
  clear hat1 hb4 h34 hg1 hs1 hd3
  refine Eag.anc hops rfl rfl ?_
  go_wp2_with fail
  refine (kid10_any (H := fun x => H x ∨ x = tb) m HMk.out p _ 1 (by omega) w4 HM.out ((HV.out.later HB.out).later H34.out) (fun h hh => Nat.lt_of_lt_of_le (HH3.out h hh) H34.out.size)).mono ?_
  rintro e w5 ⟨t2, b2, rfl, hg2, hs2, hat2, hbb2, hb5⟩
  refine ⟨hb5, ?_⟩
  have h35 : Below w3.heap.size w3 w5 := H34.out.trans (hb5.mono H34.out.size)
  have HA1' := Lib.hid (HA1.out.later hb5)
  have H35 := Lib.hid h35
  have HA2 := Lib.hid hat2
  have HG2 := Lib.hid hg2
  have HS2 := Lib.hid hs2
  clear hat2 hb5 h35 HA1 H34 hg2 hs2
  refine Eag.anc hops rfl rfl ?_
  go_wp2_with fail
  refine ⟨(Below.refl _ _).alloc (Nat.le_refl _) _, ?_⟩
  obtain ⟨g, hg⟩ : ∃ n, w5.heap.size = n := ⟨_, rfl⟩
  obtain ⟨w6, hw6⟩ : ∃ w6, w5.alloc (.cells #[Ptr b1, Ptr b2] 25) = w6 := ⟨_, rfl⟩
  have hb6 : Below w5.heap.size w5 w6 := by rw [← hw6]; exact (Below.refl _ _).alloc (Nat.le_refl _) _
  have hx6 : w6.heap[g]? = some (.cells #[Ptr b1, Ptr b2] 25) := by rw [← hw6]; exact blk_new hg
  rw [hg, hw6]
  clear hw6
  have h36 : Below w3.heap.size w3 w6 := H35.out.trans (hb6.mono H35.out.size)
  have hgtb : tb < g := by have h1 := blk_lt HT.out; have h2 := H35.out.size; omega
  have ht6 := later_blk h36 HT.out
  have t6 : w6.cell? ⟨tb, 6, none⟩ = some (.slice none 0 0) := cell_of_blk (o := 6) ht6 rfl
  have fr : ∀ o, w6.frozen? ⟨tb, o, none⟩ = false := fun o => frozen_of_blk ht6
  have HT6 := Lib.hid ht6
  have HX6 := Lib.hid hx6
  have HK6 := Lib.hid (TsAt.two (HA1'.out.later hb6) (HA2.out.later hb6))
  have HB6 := Lib.hid (HB.out.trans (h36.mono HB.out.size))
  clear ht6 hx6 h36 hb6 HA1' HA2 H35
  iterate 2
    refine Eag.mov hops rfl rfl (fun w' hb => ?_) ?_
    · clear hb; go_simp
    go_simp
  refine Eag.anc hops rfl rfl ?_
  go_wp2_with fail
  refine Eag.fin (hK _ _ ?_)
  clear hK hops
  go_simp
  go_wp2_with fail
  obtain ⟨w7, hw7⟩ : ∃ w7, w6.setCell ⟨tb, 6, none⟩ (.slice (some ⟨g, 0, none⟩) 2 2) = w7 := ⟨_, rfl⟩
  have hk : Keep (· = tb) w6 w7 := by rw [← hw7]; exact Keep.set rfl
  have ht7 : w7.heap[tb]? = some (.cells (tC 7 [] (.pointer none) [] [] (.slice (some ⟨g, 0, none⟩) 2 2)) 30) := by rw [← hw7, blk_set HT6.out]; rfl
  rw [hw7]
  clear hw7
  refine bodyPost_ret (v := Ptr tb) ?_ rfl (made_kids (ks := [t1, t2]) (bs := [b1, b2]) ht7 (hk.blk (show ¬ g = tb by omega) HX6.out) ((HK6.out.keep (hk.wide fun x e => .inl (.inr e))).widen fun x h => .inl (.inl h)) (by unfold Pv.TGoods Pv.TGoods Pv.TGoods; exact ⟨HG1.out, HG2.out, trivial⟩)
    (by have h1 := kidN_two p; have h2 := HS1.out; have h3 := HS2.out; simp only [Pv.tsizes]; omega) (by decide) (by decide) rfl (by simp) hwtb (by omega) HH.out (HB6.out.trans (hk.below HB6.out.size fun x e => by rw [e]; exact hwtb)))
  simp [results, Tryz.results35, go_sem]
set_option maxRecDepth 20000 in
theorem make10_8 (m : Nat) (hmake : Makes10 m) (p : P10) (hm : P10.nodesL p.kids ≤ m) (v : Value) (w : World) (hv : PlV w p v) (hop : opN p = 8) (hH : ∀ h, H h → h < w.heap.size) : Calls Tryz.prog 35 #[v] w (MadeT H p w) := by
  have HV := Lib.hid hv
  obtain ⟨a, c, b', o', rfl, ha, hkl, hks⟩ := hv
  have HH := Lib.hid hH
  have HOp := Lib.hid (fun (W : World) (h : PlV W p (.agg #[.int .i64 p.op, .int .i64 p.w, .int .i64 p.n, .slice a p.kids.length c])) => show Calls Tryz.prog 74 #[.agg #[.int .i64 p.op, .int .i64 p.w, .int .i64 p.n, .slice a p.kids.length c]] W fun e w' => e = .returned (.int .i64 8) ∧ Below W.heap.size W w' by have := op10_any p _ W h; rw [hop] at this; exact this)
  clear hH ha hks hop
  go_enter Tryz.func35, Tryz.ntmps35
  go_wp2_with fail
  obtain ⟨pb, hpb⟩ : ∃ n, w.heap.size = n := ⟨_, rfl⟩
  obtain ⟨w1, hw1⟩ : ∃ w1, w.alloc (.cells #[.int .i64 p.op, .int .i64 p.w, .int .i64 p.n, .slice a p.kids.length c] 74) = w1 := ⟨_, rfl⟩
  have hb1 : Below w.heap.size w w1 := by rw [← hw1]; exact (Below.refl _ _).alloc (Nat.le_refl _) _
  have hp1 : w1.heap[pb]? = some (.cells #[.int .i64 p.op, .int .i64 p.w, .int .i64 p.n, .slice a p.kids.length c] 74) := by rw [← hw1]; exact blk_new hpb
  rw [hpb, hw1]
  clear hw1
  refine (HOp.out w1 (HV.out.later hb1)).mono ?_
  rintro e w2 ⟨rfl, hb2⟩
  have h02 := hb1.trans (hb2.mono hb1.size)
  have hp2 := later_blk hb2 hp1
  have z0 : (w2.alloc (.cells (tC 8 [] (.pointer none) [] [] (.slice none 0 0)) 30)).cell? ⟨w2.heap.size, 0, none⟩ = some (.int .i64 8) := cell_of_blk (o := 0) (blk_new rfl) rfl
  have q0 : (w2.alloc (.cells (tC 8 [] (.pointer none) [] [] (.slice none 0 0)) 30)).cell? ⟨pb, 0, none⟩ = some (.int .i64 p.op) := cell_of_blk (o := 0) (blk_old hp2) rfl
  have q1 : (w2.alloc (.cells (tC 8 [] (.pointer none) [] [] (.slice none 0 0)) 30)).cell? ⟨pb, 1, none⟩ = some (.int .i64 p.w) := cell_of_blk (o := 1) (blk_old hp2) rfl
  have q2 : (w2.alloc (.cells (tC 8 [] (.pointer none) [] [] (.slice none 0 0)) 30)).cell? ⟨pb, 2, none⟩ = some (.int .i64 p.n) := cell_of_blk (o := 2) (blk_old hp2) rfl
  have q3 : (w2.alloc (.cells (tC 8 [] (.pointer none) [] [] (.slice none 0 0)) 30)).cell? ⟨pb, 3, none⟩ = some (.slice a p.kids.length c) := cell_of_blk (o := 3) (blk_old hp2) rfl
  have H02 := Lib.hid h02
  have HP2 := Lib.hid hp2
  have hwtb : w.heap.size ≤ w2.heap.size := h02.size
  clear hb1 hb2 hp1 h02 hp2 HOp
  go_wp2_with fail
  obtain ⟨tb, htb⟩ : ∃ n, w2.heap.size = n := ⟨_, rfl⟩
  obtain ⟨w3, hw3⟩ : ∃ w3, w2.alloc (.cells (tC 8 [] (.pointer none) [] [] (.slice none 0 0)) 30) = w3 := ⟨_, rfl⟩
  have hb3 : Below w2.heap.size w2 w3 := by rw [← hw3]; exact (Below.refl _ _).alloc (Nat.le_refl _) _
  have ht3 : w3.heap[tb]? = some (.cells (tC 8 [] (.pointer none) [] [] (.slice none 0 0)) 30) := by rw [← hw3]; exact blk_new htb
  have hpt : pb ≠ tb := by have := blk_lt HP2.out; omega
  have HB := Lib.hid (H02.out.trans (hb3.mono H02.out.size))
  have HP := Lib.hid (later_blk hb3 HP2.out)
  have HT := Lib.hid ht3
  rw [htb] at hwtb
  rw [htb, hw3]
  clear hw3 z0 q0 q1 q2 q3 hb3 HP2 H02 ht3
  have p0 : w3.cell? ⟨pb, 0, none⟩ = some (.int .i64 p.op) := cell_of_blk (o := 0) HP.out rfl
  have p1 : w3.cell? ⟨pb, 1, none⟩ = some (.int .i64 p.w) := cell_of_blk (o := 1) HP.out rfl
  have p2 : w3.cell? ⟨pb, 2, none⟩ = some (.int .i64 p.n) := cell_of_blk (o := 2) HP.out rfl
  have p3 : w3.cell? ⟨pb, 3, none⟩ = some (.slice a p.kids.length c) := cell_of_blk (o := 3) HP.out rfl
  have hH3 : ∀ h, (H h ∨ h = tb) → h < w3.heap.size := fun h hh => by
    rcases hh with hh | hh
    · have h1 := HH.out h hh; have h2 := HB.out.size; omega
    · have h1 := blk_lt HT.out; omega
  have HH3 := Lib.hid hH3
  have HMk := Lib.hid hmake
  have HM := Lib.hid hm
  clear hH3 hmake hm
  refine Eag.region (.mov 0 (.mov 1 (.mov 3 (.anc 2 (.anc 4 (.anc 5 (.mov 6 (.mov 7 (.anc 8 Eag.Sch.fin))))))))) [8] (by kernel_rfl) (by kernel_rfl) (fun K ops hops hK => ?_)
  iterate 3
    refine Eag.mov hops rfl rfl (fun w' hb => ?_) ?_
    · have q0 := later hb p0; have q1 := later hb p1; have q2 := later hb p2; have q3 := later hb p3; clear hb; go_simp
    go_simp
  clear p0 p1 p2 p3
  refine Eag.anc hops rfl rfl ?_
  go_wp2_with fail
  have hd3 : Below w3.heap.size w3 w3.drew := (Below.refl _ _).drew
  refine (kid10_any (H := fun x => H x ∨ x = tb) m HMk.out p _ 0 (by omega) w3.drew HM.out ((HV.out.later HB.out).later hd3) HH3.out).mono ?_
  rintro e w4 ⟨t1, b1, rfl, hg1, hs1, hat1, hbb1, hb4⟩
  refine ⟨hb4, ?_⟩
  have h34 : Below w3.heap.size w3 w4 := hd3.trans hb4
  have H34 := Lib.hid h34
  have HA1 := Lib.hid hat1
  have HG1 := Lib.hid hg1
  have HS1 := Lib.hid hs1
  clear hat1 hb4 h34 hg1 hs1 hd3
  refine Eag.anc hops rfl rfl ?_
  go_wp2_with fail
  refine (kid10_any (H := fun x => H x ∨ x = tb) m HMk.out p _ 1 (by omega) w4 HM.out ((HV.out.later HB.out).later H34.out) (fun h hh => Nat.lt_of_lt_of_le (HH3.out h hh) H34.out.size)).mono ?_
  rintro e w5 ⟨t2, b2, rfl, hg2, hs2, hat2, hbb2, hb5⟩
  refine ⟨hb5, ?_⟩
  have h35 : Below w3.heap.size w3 w5 := H34.out.trans (hb5.mono H34.out.size)
  have HA1' := Lib.hid (HA1.out.later hb5)
  have H35 := Lib.hid h35
  have HA2 := Lib.hid hat2
  have HG2 := Lib.hid hg2
  have HS2 := Lib.hid hs2
  clear hat2 hb5 h35 HA1 H34 hg2 hs2
  refine Eag.anc hops rfl rfl ?_
  go_wp2_with fail
  refine ⟨(Below.refl _ _).alloc (Nat.le_refl _) _, ?_⟩
  obtain ⟨g, hg⟩ : ∃ n, w5.heap.size = n := ⟨_, rfl⟩
  obtain ⟨w6, hw6⟩ : ∃ w6, w5.alloc (.cells #[Ptr b1, Ptr b2] 25) = w6 := ⟨_, rfl⟩
  have hb6 : Below w5.heap.size w5 w6 := by rw [← hw6]; exact (Below.refl _ _).alloc (Nat.le_refl _) _
  have hx6 : w6.heap[g]? = some (.cells #[Ptr b1, Ptr b2] 25) := by rw [← hw6]; exact blk_new hg
  rw [hg, hw6]
  clear hw6
  have h36 : Below w3.heap.size w3 w6 := H35.out.trans (hb6.mono H35.out.size)
  have hgtb : tb < g := by have h1 := blk_lt HT.out; have h2 := H35.out.size; omega
  have ht6 := later_blk h36 HT.out
  have t6 : w6.cell? ⟨tb, 6, none⟩ = some (.slice none 0 0) := cell_of_blk (o := 6) ht6 rfl
  have fr : ∀ o, w6.frozen? ⟨tb, o, none⟩ = false := fun o => frozen_of_blk ht6
  have HT6 := Lib.hid ht6
  have HX6 := Lib.hid hx6
  have HK6 := Lib.hid (TsAt.two (HA1'.out.later hb6) (HA2.out.later hb6))
  have HB6 := Lib.hid (HB.out.trans (h36.mono HB.out.size))
  clear ht6 hx6 h36 hb6 HA1' HA2 H35
  iterate 2
    refine Eag.mov hops rfl rfl (fun w' hb => ?_) ?_
    · clear hb; go_simp
    go_simp
  refine Eag.anc hops rfl rfl ?_
  go_wp2_with fail
  refine Eag.fin (hK _ _ ?_)
  clear hK hops
  go_simp
  go_wp2_with fail
  obtain ⟨w7, hw7⟩ : ∃ w7, w6.setCell ⟨tb, 6, none⟩ (.slice (some ⟨g, 0, none⟩) 2 2) = w7 := ⟨_, rfl⟩
  have hk : Keep (· = tb) w6 w7 := by rw [← hw7]; exact Keep.set rfl
  have ht7 : w7.heap[tb]? = some (.cells (tC 8 [] (.pointer none) [] [] (.slice (some ⟨g, 0, none⟩) 2 2)) 30) := by rw [← hw7, blk_set HT6.out]; rfl
  rw [hw7]
  clear hw7
  refine bodyPost_ret (v := Ptr tb) ?_ rfl (made_kids (ks := [t1, t2]) (bs := [b1, b2]) ht7 (hk.blk (show ¬ g = tb by omega) HX6.out) ((HK6.out.keep (hk.wide fun x e => .inl (.inr e))).widen fun x h => .inl (.inl h)) (by unfold Pv.TGoods Pv.TGoods Pv.TGoods; exact ⟨HG1.out, HG2.out, trivial⟩)
    (by have h1 := kidN_two p; have h2 := HS1.out; have h3 := HS2.out; simp only [Pv.tsizes]; omega) (by decide) (by decide) rfl (by simp) hwtb (by omega) HH.out (HB6.out.trans (hk.below HB6.out.size fun x e => by rw [e]; exact hwtb)))
  simp [results, Tryz.results35, go_sem]
set_option maxRecDepth 20000 in
theorem make10_10 (m : Nat) (hmake : Makes10 m) (p : P10) (hm : P10.nodesL p.kids ≤ m) (v : Value) (w : World) (hv : PlV w p v) (hop : opN p = 10) (hH : ∀ h, H h → h < w.heap.size) : Calls Tryz.prog 35 #[v] w (MadeT H p w) := by
  have HV := Lib.hid hv
  obtain ⟨a, c, b', o', rfl, ha, hkl, hks⟩ := hv
  have HH := Lib.hid hH
  have HOp := Lib.hid (fun (W : World) (h : PlV W p (.agg #[.int .i64 p.op, .int .i64 p.w, .int .i64 p.n, .slice a p.kids.length c])) => show Calls Tryz.prog 74 #[.agg #[.int .i64 p.op, .int .i64 p.w, .int .i64 p.n, .slice a p.kids.length c]] W fun e w' => e = .returned (.int .i64 10) ∧ Below W.heap.size W w' by have := op10_any p _ W h; rw [hop] at this; exact this)
  clear hH ha hks hop
  go_enter Tryz.func35, Tryz.ntmps35
  go_wp2_with fail
  obtain ⟨pb, hpb⟩ : ∃ n, w.heap.size = n := ⟨_, rfl⟩
  obtain ⟨w1, hw1⟩ : ∃ w1, w.alloc (.cells #[.int .i64 p.op, .int .i64 p.w, .int .i64 p.n, .slice a p.kids.length c] 74) = w1 := ⟨_, rfl⟩
  have hb1 : Below w.heap.size w w1 := by rw [← hw1]; exact (Below.refl _ _).alloc (Nat.le_refl _) _
  have hp1 : w1.heap[pb]? = some (.cells #[.int .i64 p.op, .int .i64 p.w, .int .i64 p.n, .slice a p.kids.length c] 74) := by rw [← hw1]; exact blk_new hpb
  rw [hpb, hw1]
  clear hw1
  refine (HOp.out w1 (HV.out.later hb1)).mono ?_
  rintro e w2 ⟨rfl, hb2⟩
  have h02 := hb1.trans (hb2.mono hb1.size)
  have hp2 := later_blk hb2 hp1
  have z0 : (w2.alloc (.cells (tC 10 [] (.pointer none) [] [] (.slice none 0 0)) 30)).cell? ⟨w2.heap.size, 0, none⟩ = some (.int .i64 10) := cell_of_blk (o := 0) (blk_new rfl) rfl
  have q0 : (w2.alloc (.cells (tC 10 [] (.pointer none) [] [] (.slice none 0 0)) 30)).cell? ⟨pb, 0, none⟩ = some (.int .i64 p.op) := cell_of_blk (o := 0) (blk_old hp2) rfl
  have q1 : (w2.alloc (.cells (tC 10 [] (.pointer none) [] [] (.slice none 0 0)) 30)).cell? ⟨pb, 1, none⟩ = some (.int .i64 p.w) := cell_of_blk (o := 1) (blk_old hp2) rfl
  have q2 : (w2.alloc (.cells (tC 10 [] (.pointer none) [] [] (.slice none 0 0)) 30)).cell? ⟨pb, 2, none⟩ = some (.int .i64 p.n) := cell_of_blk (o := 2) (blk_old hp2) rfl
  have q3 : (w2.alloc (.cells (tC 10 [] (.pointer none) [] [] (.slice none 0 0)) 30)).cell? ⟨pb, 3, none⟩ = some (.slice a p.kids.length c) := cell_of_blk (o := 3) (blk_old hp2) rfl
  have H02 := Lib.hid h02
  have HP2 := Lib.hid hp2
  have hwtb : w.heap.size ≤ w2.heap.size := h02.size
  clear hb1 hb2 hp1 h02 hp2 HOp
  go_wp2_with fail
  obtain ⟨tb, htb⟩ : ∃ n, w2.heap.size = n := ⟨_, rfl⟩
  obtain ⟨w3, hw3⟩ : ∃ w3, w2.alloc (.cells (tC 10 [] (.pointer none) [] [] (.slice none 0 0)) 30) = w3 := ⟨_, rfl⟩
  have hb3 : Below w2.heap.size w2 w3 := by rw [← hw3]; exact (Below.refl _ _).alloc (Nat.le_refl _) _
  have ht3 : w3.heap[tb]? = some (.cells (tC 10 [] (.pointer none) [] [] (.slice none 0 0)) 30) := by rw [← hw3]; exact blk_new htb
  have hpt : pb ≠ tb := by have := blk_lt HP2.out; omega
  have HB := Lib.hid (H02.out.trans (hb3.mono H02.out.size))
  have HP := Lib.hid (later_blk hb3 HP2.out)
  have HT := Lib.hid ht3
  rw [htb] at hwtb
  rw [htb, hw3]
  clear hw3 z0 q0 q1 q2 q3 hb3 HP2 H02 ht3
  have p0 : w3.cell? ⟨pb, 0, none⟩ = some (.int .i64 p.op) := cell_of_blk (o := 0) HP.out rfl
  have p1 : w3.cell? ⟨pb, 1, none⟩ = some (.int .i64 p.w) := cell_of_blk (o := 1) HP.out rfl
  have p2 : w3.cell? ⟨pb, 2, none⟩ = some (.int .i64 p.n) := cell_of_blk (o := 2) HP.out rfl
  have p3 : w3.cell? ⟨pb, 3, none⟩ = some (.slice a p.kids.length c) := cell_of_blk (o := 3) HP.out rfl
  have hH3 : ∀ h, (H h ∨ h = tb) → h < w3.heap.size := fun h hh => by
    rcases hh with hh | hh
    · have h1 := HH.out h hh; have h2 := HB.out.size; omega
    · have h1 := blk_lt HT.out; omega
  have HH3 := Lib.hid hH3
  have HMk := Lib.hid hmake
  have HM := Lib.hid hm
  clear hH3 hmake hm
  refine Eag.region (.mov 0 (.mov 1 (.mov 3 (.anc 2 (.anc 4 (.anc 5 (.mov 6 (.mov 7 (.anc 8 Eag.Sch.fin))))))))) [8] (by kernel_rfl) (by kernel_rfl) (fun K ops hops hK => ?_)
  iterate 3
    refine Eag.mov hops rfl rfl (fun w' hb => ?_) ?_
    · have q0 := later hb p0; have q1 := later hb p1; have q2 := later hb p2; have q3 := later hb p3; clear hb; go_simp
    go_simp
  clear p0 p1 p2 p3
  refine Eag.anc hops rfl rfl ?_
  go_wp2_with fail
  have hd3 : Below w3.heap.size w3 w3.drew := (Below.refl _ _).drew
  refine (kid10_any (H := fun x => H x ∨ x = tb) m HMk.out p _ 0 (by omega) w3.drew HM.out ((HV.out.later HB.out).later hd3) HH3.out).mono ?_
  rintro e w4 ⟨t1, b1, rfl, hg1, hs1, hat1, hbb1, hb4⟩
  refine ⟨hb4, ?_⟩
  have h34 : Below w3.heap.size w3 w4 := hd3.trans hb4
  have H34 := Lib.hid h34
  have HA1 := Lib.hid hat1
  have HG1 := Lib.hid hg1
  have HS1 := Lib.hid hs1
  clear hat1 hb4 h34 hg1 hs1 hd3
  refine Eag.anc hops rfl rfl ?_
  go_wp2_with fail
  refine (kid10_any (H := fun x => H x ∨ x = tb) m HMk.out p _ 1 (by omega) w4 HM.out ((HV.out.later HB.out).later H34.out) (fun h hh => Nat.lt_of_lt_of_le (HH3.out h hh) H34.out.size)).mono ?_
  rintro e w5 ⟨t2, b2, rfl, hg2, hs2, hat2, hbb2, hb5⟩
  refine ⟨hb5, ?_⟩
  have h35 : Below w3.heap.size w3 w5 := H34.out.trans (hb5.mono H34.out.size)
  have HA1' := Lib.hid (HA1.out.later hb5)
  have H35 := Lib.hid h35
  have HA2 := Lib.hid hat2
  have HG2 := Lib.hid hg2
  have HS2 := Lib.hid hs2
  clear hat2 hb5 h35 HA1 H34 hg2 hs2
  refine Eag.anc hops rfl rfl ?_
  go_wp2_with fail
  refine ⟨(Below.refl _ _).alloc (Nat.le_refl _) _, ?_⟩
  obtain ⟨g, hg⟩ : ∃ n, w5.heap.size = n := ⟨_, rfl⟩
  obtain ⟨w6, hw6⟩ : ∃ w6, w5.alloc (.cells #[Ptr b1, Ptr b2] 25) = w6 := ⟨_, rfl⟩
  have hb6 : Below w5.heap.size w5 w6 := by rw [← hw6]; exact (Below.refl _ _).alloc (Nat.le_refl _) _
  have hx6 : w6.heap[g]? = some (.cells #[Ptr b1, Ptr b2] 25) := by rw [← hw6]; exact blk_new hg
  rw [hg, hw6]
  clear hw6
  have h36 : Below w3.heap.size w3 w6 := H35.out.trans (hb6.mono H35.out.size)
  have hgtb : tb < g := by have h1 := blk_lt HT.out; have h2 := H35.out.size; omega
  have ht6 := later_blk h36 HT.out
  have t6 : w6.cell? ⟨tb, 6, none⟩ = some (.slice none 0 0) := cell_of_blk (o := 6) ht6 rfl
  have fr : ∀ o, w6.frozen? ⟨tb, o, none⟩ = false := fun o => frozen_of_blk ht6
  have HT6 := Lib.hid ht6
  have HX6 := Lib.hid hx6
  have HK6 := Lib.hid (TsAt.two (HA1'.out.later hb6) (HA2.out.later hb6))
  have HB6 := Lib.hid (HB.out.trans (h36.mono HB.out.size))
  clear ht6 hx6 h36 hb6 HA1' HA2 H35
  iterate 2
    refine Eag.mov hops rfl rfl (fun w' hb => ?_) ?_
    · clear hb; go_simp
    go_simp
  refine Eag.anc hops rfl rfl ?_
  go_wp2_with fail
  refine Eag.fin (hK _ _ ?_)
  clear hK hops
  go_simp
  go_wp2_with fail
  obtain ⟨w7, hw7⟩ : ∃ w7, w6.setCell ⟨tb, 6, none⟩ (.slice (some ⟨g, 0, none⟩) 2 2) = w7 := ⟨_, rfl⟩
  have hk : Keep (· = tb) w6 w7 := by rw [← hw7]; exact Keep.set rfl
  have ht7 : w7.heap[tb]? = some (.cells (tC 10 [] (.pointer none) [] [] (.slice (some ⟨g, 0, none⟩) 2 2)) 30) := by rw [← hw7, blk_set HT6.out]; rfl
  rw [hw7]
  clear hw7
  refine bodyPost_ret (v := Ptr tb) ?_ rfl (made_kids (ks := [t1, t2]) (bs := [b1, b2]) ht7 (hk.blk (show ¬ g = tb by omega) HX6.out) ((HK6.out.keep (hk.wide fun x e => .inl (.inr e))).widen fun x h => .inl (.inl h)) (by unfold Pv.TGoods Pv.TGoods Pv.TGoods; exact ⟨HG1.out, HG2.out, trivial⟩)
    (by have h1 := kidN_two p; have h2 := HS1.out; have h3 := HS2.out; simp only [Pv.tsizes]; omega) (by decide) (by decide) rfl (by simp) hwtb (by omega) HH.out (HB6.out.trans (hk.below HB6.out.size fun x e => by rw [e]; exact hwtb)))
  simp [results, Tryz.results35, go_sem]
set_option maxRecDepth 20000 in
theorem make10_11 (m : Nat) (hmake : Makes10 m) (p : P10) (hm : P10.nodesL p.kids ≤ m) (v : Value) (w : World) (hv : PlV w p v) (hop : opN p = 11) (hH : ∀ h, H h → h < w.heap.size) : Calls Tryz.prog 35 #[v] w (MadeT H p w) := by
  have HV := Lib.hid hv
  obtain ⟨a, c, b', o', rfl, ha, hkl, hks⟩ := hv
  have HH := Lib.hid hH
  have HOp := Lib.hid (fun (W : World) (h : PlV W p (.agg #[.int .i64 p.op, .int .i64 p.w, .int .i64 p.n, .slice a p.kids.length c])) => show Calls Tryz.prog 74 #[.agg #[.int .i64 p.op, .int .i64 p.w, .int .i64 p.n, .slice a p.kids.length c]] W fun e w' => e = .returned (.int .i64 11) ∧ Below W.heap.size W w' by have := op10_any p _ W h; rw [hop] at this; exact this)
  clear hH ha hks hop
  go_enter Tryz.func35, Tryz.ntmps35
  go_wp2_with fail
  obtain ⟨pb, hpb⟩ : ∃ n, w.heap.size = n := ⟨_, rfl⟩
  obtain ⟨w1, hw1⟩ : ∃ w1, w.alloc (.cells #[.int .i64 p.op, .int .i64 p.w, .int .i64 p.n, .slice a p.kids.length c] 74) = w1 := ⟨_, rfl⟩
  have hb1 : Below w.heap.size w w1 := by rw [← hw1]; exact (Below.refl _ _).alloc (Nat.le_refl _) _
  have hp1 : w1.heap[pb]? = some (.cells #[.int .i64 p.op, .int .i64 p.w, .int .i64 p.n, .slice a p.kids.length c] 74) := by rw [← hw1]; exact blk_new hpb
  rw [hpb, hw1]
  clear hw1
  refine (HOp.out w1 (HV.out.later hb1)).mono ?_
  rintro e w2 ⟨rfl, hb2⟩
  have h02 := hb1.trans (hb2.mono hb1.size)
  have hp2 := later_blk hb2 hp1
  have z0 : (w2.alloc (.cells (tC 11 [] (.pointer none) [] [] (.slice none 0 0)) 30)).cell? ⟨w2.heap.size, 0, none⟩ = some (.int .i64 11) := cell_of_blk (o := 0) (blk_new rfl) rfl
  have q0 : (w2.alloc (.cells (tC 11 [] (.pointer none) [] [] (.slice none 0 0)) 30)).cell? ⟨pb, 0, none⟩ = some (.int .i64 p.op) := cell_of_blk (o := 0) (blk_old hp2) rfl
  have q1 : (w2.alloc (.cells (tC 11 [] (.pointer none) [] [] (.slice none 0 0)) 30)).cell? ⟨pb, 1, none⟩ = some (.int .i64 p.w) := cell_of_blk (o := 1) (blk_old hp2) rfl
  have q2 : (w2.alloc (.cells (tC 11 [] (.pointer none) [] [] (.slice none 0 0)) 30)).cell? ⟨pb, 2, none⟩ = some (.int .i64 p.n) := cell_of_blk (o := 2) (blk_old hp2) rfl
  have q3 : (w2.alloc (.cells (tC 11 [] (.pointer none) [] [] (.slice none 0 0)) 30)).cell? ⟨pb, 3, none⟩ = some (.slice a p.kids.length c) := cell_of_blk (o := 3) (blk_old hp2) rfl
  have H02 := Lib.hid h02
  have HP2 := Lib.hid hp2
  have hwtb : w.heap.size ≤ w2.heap.size := h02.size
  clear hb1 hb2 hp1 h02 hp2 HOp
  go_wp2_with fail
  obtain ⟨tb, htb⟩ : ∃ n, w2.heap.size = n := ⟨_, rfl⟩
  obtain ⟨w3, hw3⟩ : ∃ w3, w2.alloc (.cells (tC 11 [] (.pointer none) [] [] (.slice none 0 0)) 30) = w3 := ⟨_, rfl⟩
  have hb3 : Below w2.heap.size w2 w3 := by rw [← hw3]; exact (Below.refl _ _).alloc (Nat.le_refl _) _
  have ht3 : w3.heap[tb]? = some (.cells (tC 11 [] (.pointer none) [] [] (.slice none 0 0)) 30) := by rw [← hw3]; exact blk_new htb
  have hpt : pb ≠ tb := by have := blk_lt HP2.out; omega
  have HB := Lib.hid (H02.out.trans (hb3.mono H02.out.size))
  have HP := Lib.hid (later_blk hb3 HP2.out)
  have HT := Lib.hid ht3
  rw [htb] at hwtb
  rw [htb, hw3]
  clear hw3 z0 q0 q1 q2 q3 hb3 HP2 H02 ht3
  have p0 : w3.cell? ⟨pb, 0, none⟩ = some (.int .i64 p.op) := cell_of_blk (o := 0) HP.out rfl
  have p1 : w3.cell? ⟨pb, 1, none⟩ = some (.int .i64 p.w) := cell_of_blk (o := 1) HP.out rfl
  have p2 : w3.cell? ⟨pb, 2, none⟩ = some (.int .i64 p.n) := cell_of_blk (o := 2) HP.out rfl
  have p3 : w3.cell? ⟨pb, 3, none⟩ = some (.slice a p.kids.length c) := cell_of_blk (o := 3) HP.out rfl
  have hH3 : ∀ h, (H h ∨ h = tb) → h < w3.heap.size := fun h hh => by
    rcases hh with hh | hh
    · have h1 := HH.out h hh; have h2 := HB.out.size; omega
    · have h1 := blk_lt HT.out; omega
  have HH3 := Lib.hid hH3
  have HMk := Lib.hid hmake
  have HM := Lib.hid hm
  clear hH3 hmake hm
  refine Eag.region (.mov 0 (.mov 1 (.mov 3 (.anc 2 (.anc 4 (.anc 5 (.mov 6 (.mov 7 (.anc 8 Eag.Sch.fin))))))))) [8] (by kernel_rfl) (by kernel_rfl) (fun K ops hops hK => ?_)
  iterate 3
    refine Eag.mov hops rfl rfl (fun w' hb => ?_) ?_
    · have q0 := later hb p0; have q1 := later hb p1; have q2 := later hb p2; have q3 := later hb p3; clear hb; go_simp
    go_simp
  clear p0 p1 p2 p3
  refine Eag.anc hops rfl rfl ?_
  go_wp2_with fail
  have hd3 : Below w3.heap.size w3 w3.drew := (Below.refl _ _).drew
  refine (kid10_any (H := fun x => H x ∨ x = tb) m HMk.out p _ 0 (by omega) w3.drew HM.out ((HV.out.later HB.out).later hd3) HH3.out).mono ?_
  rintro e w4 ⟨t1, b1, rfl, hg1, hs1, hat1, hbb1, hb4⟩
  refine ⟨hb4, ?_⟩
  have h34 : Below w3.heap.size w3 w4 := hd3.trans hb4
  have H34 := Lib.hid h34
  have HA1 := Lib.hid hat1
  have HG1 := Lib.hid hg1
  have HS1 := Lib.hid hs1
  clear hat1 hb4 h34 hg1 hs1 hd3
  refine Eag.anc hops rfl rfl ?_
  go_wp2_with fail
  refine (kid10_any (H := fun x => H x ∨ x = tb) m HMk.out p _ 1 (by omega) w4 HM.out ((HV.out.later HB.out).later H34.out) (fun h hh => Nat.lt_of_lt_of_le (HH3.out h hh) H34.out.size)).mono ?_
  rintro e w5 ⟨t2, b2, rfl, hg2, hs2, hat2, hbb2, hb5⟩
  refine ⟨hb5, ?_⟩
  have h35 : Below w3.heap.size w3 w5 := H34.out.trans (hb5.mono H34.out.size)
  have HA1' := Lib.hid (HA1.out.later hb5)
  have H35 := Lib.hid h35
  have HA2 := Lib.hid hat2
  have HG2 := Lib.hid hg2
  have HS2 := Lib.hid hs2
  clear hat2 hb5 h35 HA1 H34 hg2 hs2
  refine Eag.anc hops rfl rfl ?_
  go_wp2_with fail
  refine ⟨(Below.refl _ _).alloc (Nat.le_refl _) _, ?_⟩
  obtain ⟨g, hg⟩ : ∃ n, w5.heap.size = n := ⟨_, rfl⟩
  obtain ⟨w6, hw6⟩ : ∃ w6, w5.alloc (.cells #[Ptr b1, Ptr b2] 25) = w6 := ⟨_, rfl⟩
  have hb6 : Below w5.heap.size w5 w6 := by rw [← hw6]; exact (Below.refl _ _).alloc (Nat.le_refl _) _
  have hx6 : w6.heap[g]? = some (.cells #[Ptr b1, Ptr b2] 25) := by rw [← hw6]; exact blk_new hg
  rw [hg, hw6]
  clear hw6
  have h36 : Below w3.heap.size w3 w6 := H35.out.trans (hb6.mono H35.out.size)
  have hgtb : tb < g := by have h1 := blk_lt HT.out; have h2 := H35.out.size; omega
  have ht6 := later_blk h36 HT.out
  have t6 : w6.cell? ⟨tb, 6, none⟩ = some (.slice none 0 0) := cell_of_blk (o := 6) ht6 rfl
  have fr : ∀ o, w6.frozen? ⟨tb, o, none⟩ = false := fun o => frozen_of_blk ht6
  have HT6 := Lib.hid ht6
  have HX6 := Lib.hid hx6
  have HK6 := Lib.hid (TsAt.two (HA1'.out.later hb6) (HA2.out.later hb6))
  have HB6 := Lib.hid (HB.out.trans (h36.mono HB.out.size))
  clear ht6 hx6 h36 hb6 HA1' HA2 H35
  iterate 2
    refine Eag.mov hops rfl rfl (fun w' hb => ?_) ?_
    · clear hb; go_simp
    go_simp
  refine Eag.anc hops rfl rfl ?_
  go_wp2_with fail
  refine Eag.fin (hK _ _ ?_)
  clear hK hops
  go_simp
  go_wp2_with fail
  obtain ⟨w7, hw7⟩ : ∃ w7, w6.setCell ⟨tb, 6, none⟩ (.slice (some ⟨g, 0, none⟩) 2 2) = w7 := ⟨_, rfl⟩
  have hk : Keep (· = tb) w6 w7 := by rw [← hw7]; exact Keep.set rfl
  have ht7 : w7.heap[tb]? = some (.cells (tC 11 [] (.pointer none) [] [] (.slice (some ⟨g, 0, none⟩) 2 2)) 30) := by rw [← hw7, blk_set HT6.out]; rfl
  rw [hw7]
  clear hw7
  refine bodyPost_ret (v := Ptr tb) ?_ rfl (made_kids (ks := [t1, t2]) (bs := [b1, b2]) ht7 (hk.blk (show ¬ g = tb by omega) HX6.out) ((HK6.out.keep (hk.wide fun x e => .inl (.inr e))).widen fun x h => .inl (.inl h)) (by unfold Pv.TGoods Pv.TGoods Pv.TGoods; exact ⟨HG1.out, HG2.out, trivial⟩)
    (by have h1 := kidN_two p; have h2 := HS1.out; have h3 := HS2.out; simp only [Pv.tsizes]; omega) (by decide) (by decide) rfl (by simp) hwtb (by omega) HH.out (HB6.out.trans (hk.below HB6.out.size fun x e => by rw [e]; exact hwtb)))
  simp [results, Tryz.results35, go_sem]
set_option maxRecDepth 20000 in
theorem make10_14 (m : Nat) (hmake : Makes10 m) (p : P10) (hm : P10.nodesL p.kids ≤ m) (v : Value) (w : World) (hv : PlV w p v) (hop : opN p = 14) (hH : ∀ h, H h → h < w.heap.size) : Calls Tryz.prog 35 #[v] w (MadeT H p w) := by
  have HV := Lib.hid hv
  obtain ⟨a, c, b', o', rfl, ha, hkl, hks⟩ := hv
  have HH := Lib.hid hH
  have HOp := Lib.hid (fun (W : World) (h : PlV W p (.agg #[.int .i64 p.op, .int .i64 p.w, .int .i64 p.n, .slice a p.kids.length c])) => show Calls Tryz.prog 74 #[.agg #[.int .i64 p.op, .int .i64 p.w, .int .i64 p.n, .slice a p.kids.length c]] W fun e w' => e = .returned (.int .i64 14) ∧ Below W.heap.size W w' by have := op10_any p _ W h; rw [hop] at this; exact this)
  clear hH ha hks hop
  go_enter Tryz.func35, Tryz.ntmps35
  go_wp2_with fail
  obtain ⟨pb, hpb⟩ : ∃ n, w.heap.size = n := ⟨_, rfl⟩
  obtain ⟨w1, hw1⟩ : ∃ w1, w.alloc (.cells #[.int .i64 p.op, .int .i64 p.w, .int .i64 p.n, .slice a p.kids.length c] 74) = w1 := ⟨_, rfl⟩
  have hb1 : Below w.heap.size w w1 := by rw [← hw1]; exact (Below.refl _ _).alloc (Nat.le_refl _) _
  have hp1 : w1.heap[pb]? = some (.cells #[.int .i64 p.op, .int .i64 p.w, .int .i64 p.n, .slice a p.kids.length c] 74) := by rw [← hw1]; exact blk_new hpb
  rw [hpb, hw1]
  clear hw1
  refine (HOp.out w1 (HV.out.later hb1)).mono ?_
  rintro e w2 ⟨rfl, hb2⟩
  have h02 := hb1.trans (hb2.mono hb1.size)
  have hp2 := later_blk hb2 hp1
  have z0 : (w2.alloc (.cells (tC 14 [] (.pointer none) [] [] (.slice none 0 0)) 30)).cell? ⟨w2.heap.size, 0, none⟩ = some (.int .i64 14) := cell_of_blk (o := 0) (blk_new rfl) rfl
  have q0 : (w2.alloc (.cells (tC 14 [] (.pointer none) [] [] (.slice none 0 0)) 30)).cell? ⟨pb, 0, none⟩ = some (.int .i64 p.op) := cell_of_blk (o := 0) (blk_old hp2) rfl
  have q1 : (w2.alloc (.cells (tC 14 [] (.pointer none) [] [] (.slice none 0 0)) 30)).cell? ⟨pb, 1, none⟩ = some (.int .i64 p.w) := cell_of_blk (o := 1) (blk_old hp2) rfl
  have q2 : (w2.alloc (.cells (tC 14 [] (.pointer none) [] [] (.slice none 0 0)) 30)).cell? ⟨pb, 2, none⟩ = some (.int .i64 p.n) := cell_of_blk (o := 2) (blk_old hp2) rfl
  have q3 : (w2.alloc (.cells (tC 14 [] (.pointer none) [] [] (.slice none 0 0)) 30)).cell? ⟨pb, 3, none⟩ = some (.slice a p.kids.length c) := cell_of_blk (o := 3) (blk_old hp2) rfl
  have H02 := Lib.hid h02
  have HP2 := Lib.hid hp2
  have hwtb : w.heap.size ≤ w2.heap.size := h02.size
  clear hb1 hb2 hp1 h02 hp2 HOp
  go_wp2_with fail
  obtain ⟨tb, htb⟩ : ∃ n, w2.heap.size = n := ⟨_, rfl⟩
  obtain ⟨w3, hw3⟩ : ∃ w3, w2.alloc (.cells (tC 14 [] (.pointer none) [] [] (.slice none 0 0)) 30) = w3 := ⟨_, rfl⟩
  have hb3 : Below w2.heap.size w2 w3 := by rw [← hw3]; exact (Below.refl _ _).alloc (Nat.le_refl _) _
  have ht3 : w3.heap[tb]? = some (.cells (tC 14 [] (.pointer none) [] [] (.slice none 0 0)) 30) := by rw [← hw3]; exact blk_new htb
  have hpt : pb ≠ tb := by have := blk_lt HP2.out; omega
  have HB := Lib.hid (H02.out.trans (hb3.mono H02.out.size))
  have HP := Lib.hid (later_blk hb3 HP2.out)
  have HT := Lib.hid ht3
  rw [htb] at hwtb
  rw [htb, hw3]
  clear hw3 z0 q0 q1 q2 q3 hb3 HP2 H02 ht3
  have p0 : w3.cell? ⟨pb, 0, none⟩ = some (.int .i64 p.op) := cell_of_blk (o := 0) HP.out rfl
  have p1 : w3.cell? ⟨pb, 1, none⟩ = some (.int .i64 p.w) := cell_of_blk (o := 1) HP.out rfl
  have p2 : w3.cell? ⟨pb, 2, none⟩ = some (.int .i64 p.n) := cell_of_blk (o := 2) HP.out rfl
  have p3 : w3.cell? ⟨pb, 3, none⟩ = some (.slice a p.kids.length c) := cell_of_blk (o := 3) HP.out rfl
  have hH3 : ∀ h, (H h ∨ h = tb) → h < w3.heap.size := fun h hh => by
    rcases hh with hh | hh
    · have h1 := HH.out h hh; have h2 := HB.out.size; omega
    · have h1 := blk_lt HT.out; omega
  have HH3 := Lib.hid hH3
  have HMk := Lib.hid hmake
  have HM := Lib.hid hm
  clear hH3 hmake hm
  refine Eag.region (.mov 0 (.mov 1 (.mov 3 (.anc 2 (.anc 4 (.anc 5 (.mov 6 (.mov 7 (.anc 8 Eag.Sch.fin))))))))) [8] (by kernel_rfl) (by kernel_rfl) (fun K ops hops hK => ?_)
  iterate 3
    refine Eag.mov hops rfl rfl (fun w' hb => ?_) ?_
    · have q0 := later hb p0; have q1 := later hb p1; have q2 := later hb p2; have q3 := later hb p3; clear hb; go_simp
    go_simp
  clear p0 p1 p2 p3
  refine Eag.anc hops rfl rfl ?_
  go_wp2_with fail
  have hd3 : Below w3.heap.size w3 w3.drew := (Below.refl _ _).drew
  refine (kid10_any (H := fun x => H x ∨ x = tb) m HMk.out p _ 0 (by omega) w3.drew HM.out ((HV.out.later HB.out).later hd3) HH3.out).mono ?_
  rintro e w4 ⟨t1, b1, rfl, hg1, hs1, hat1, hbb1, hb4⟩
  refine ⟨hb4, ?_⟩
  have h34 : Below w3.heap.size w3 w4 := hd3.trans hb4
  have H34 := Lib.hid h34
  have HA1 := Lib.hid hat1
  have HG1 := Lib.hid hg1
  have HS1 := Lib.hid hs1
  clear hat1 hb4 h34 hg1 hs1 hd3
  refine Eag.anc hops rfl rfl ?_
  go_wp2_with fail
  refine (kid10_any (H := fun x => H x ∨ x = tb) m HMk.out p _ 1 (by omega) w4 HM.out ((HV.out.later HB.out).later H34.out) (fun h hh => Nat.lt_of_lt_of_le (HH3.out h hh) H34.out.size)).mono ?_
  rintro e w5 ⟨t2, b2, rfl, hg2, hs2, hat2, hbb2, hb5⟩
  refine ⟨hb5, ?_⟩
  have h35 : Below w3.heap.size w3 w5 := H34.out.trans (hb5.mono H34.out.size)
  have HA1' := Lib.hid (HA1.out.later hb5)
  have H35 := Lib.hid h35
  have HA2 := Lib.hid hat2
  have HG2 := Lib.hid hg2
  have HS2 := Lib.hid hs2
  clear hat2 hb5 h35 HA1 H34 hg2 hs2
  refine Eag.anc hops rfl rfl ?_
  go_wp2_with fail
  refine ⟨(Below.refl _ _).alloc (Nat.le_refl _) _, ?_⟩
  obtain ⟨g, hg⟩ : ∃ n, w5.heap.size = n := ⟨_, rfl⟩
  obtain ⟨w6, hw6⟩ : ∃ w6, w5.alloc (.cells #[Ptr b1, Ptr b2] 25) = w6 := ⟨_, rfl⟩
  have hb6 : Below w5.heap.size w5 w6 := by rw [← hw6]; exact (Below.refl _ _).alloc (Nat.le_refl _) _
  have hx6 : w6.heap[g]? = some (.cells #[Ptr b1, Ptr b2] 25) := by rw [← hw6]; exact blk_new hg
  rw [hg, hw6]
  clear hw6
  have h36 : Below w3.heap.size w3 w6 := H35.out.trans (hb6.mono H35.out.size)
  have hgtb : tb < g := by have h1 := blk_lt HT.out; have h2 := H35.out.size; omega
  have ht6 := later_blk h36 HT.out
  have t6 : w6.cell? ⟨tb, 6, none⟩ = some (.slice none 0 0) := cell_of_blk (o := 6) ht6 rfl
  have fr : ∀ o, w6.frozen? ⟨tb, o, none⟩ = false := fun o => frozen_of_blk ht6
  have HT6 := Lib.hid ht6
  have HX6 := Lib.hid hx6
  have HK6 := Lib.hid (TsAt.two (HA1'.out.later hb6) (HA2.out.later hb6))
  have HB6 := Lib.hid (HB.out.trans (h36.mono HB.out.size))
  clear ht6 hx6 h36 hb6 HA1' HA2 H35
  iterate 2
    refine Eag.mov hops rfl rfl (fun w' hb => ?_) ?_
    · clear hb; go_simp
    go_simp
  refine Eag.anc hops rfl rfl ?_
  go_wp2_with fail
  refine Eag.fin (hK _ _ ?_)
  clear hK hops
  go_simp
  go_wp2_with fail
  obtain ⟨w7, hw7⟩ : ∃ w7, w6.setCell ⟨tb, 6, none⟩ (.slice (some ⟨g, 0, none⟩) 2 2) = w7 := ⟨_, rfl⟩
  have hk : Keep (· = tb) w6 w7 := by rw [← hw7]; exact Keep.set rfl
  have ht7 : w7.heap[tb]? = some (.cells (tC 14 [] (.pointer none) [] [] (.slice (some ⟨g, 0, none⟩) 2 2)) 30) := by rw [← hw7, blk_set HT6.out]; rfl
  rw [hw7]
  clear hw7
  refine bodyPost_ret (v := Ptr tb) ?_ rfl (made_kids (ks := [t1, t2]) (bs := [b1, b2]) ht7 (hk.blk (show ¬ g = tb by omega) HX6.out) ((HK6.out.keep (hk.wide fun x e => .inl (.inr e))).widen fun x h => .inl (.inl h)) (by unfold Pv.TGoods Pv.TGoods Pv.TGoods; exact ⟨HG1.out, HG2.out, trivial⟩)
    (by have h1 := kidN_two p; have h2 := HS1.out; have h3 := HS2.out; simp only [Pv.tsizes]; omega) (by decide) (by decide) rfl (by simp) hwtb (by omega) HH.out (HB6.out.trans (hk.below HB6.out.size fun x e => by rw [e]; exact hwtb)))
  simp [results, Tryz.results35, go_sem]
set_option maxRecDepth 20000 in
theorem make10_15 (m : Nat) (hmake : Makes10 m) (p : P10) (hm : P10.nodesL p.kids ≤ m) (v : Value) (w : World) (hv : PlV w p v) (hop : opN p = 15) (hH : ∀ h, H h → h < w.heap.size) : Calls Tryz.prog 35 #[v] w (MadeT H p w) := by
  have HV := Lib.hid hv
  obtain ⟨a, c, b', o', rfl, ha, hkl, hks⟩ := hv
  have HH := Lib.hid hH
  have HOp := Lib.hid (fun (W : World) (h : PlV W p (.agg #[.int .i64 p.op, .int .i64 p.w, .int .i64 p.n, .slice a p.kids.length c])) => show Calls Tryz.prog 74 #[.agg #[.int .i64 p.op, .int .i64 p.w, .int .i64 p.n, .slice a p.kids.length c]] W fun e w' => e = .returned (.int .i64 15) ∧ Below W.heap.size W w' by have := op10_any p _ W h; rw [hop] at this; exact this)
  clear hH ha hks hop
  go_enter Tryz.func35, Tryz.ntmps35
  go_wp2_with fail
  obtain ⟨pb, hpb⟩ : ∃ n, w.heap.size = n := ⟨_, rfl⟩
  obtain ⟨w1, hw1⟩ : ∃ w1, w.alloc (.cells #[.int .i64 p.op, .int .i64 p.w, .int .i64 p.n, .slice a p.kids.length c] 74) = w1 := ⟨_, rfl⟩
  have hb1 : Below w.heap.size w w1 := by rw [← hw1]; exact (Below.refl _ _).alloc (Nat.le_refl _) _
  have hp1 : w1.heap[pb]? = some (.cells #[.int .i64 p.op, .int .i64 p.w, .int .i64 p.n, .slice a p.kids.length c] 74) := by rw [← hw1]; exact blk_new hpb
  rw [hpb, hw1]
  clear hw1
  refine (HOp.out w1 (HV.out.later hb1)).mono ?_
  rintro e w2 ⟨rfl, hb2⟩
  have h02 := hb1.trans (hb2.mono hb1.size)
  have hp2 := later_blk hb2 hp1
  have z0 : (w2.alloc (.cells (tC 15 [] (.pointer none) [] [] (.slice none 0 0)) 30)).cell? ⟨w2.heap.size, 0, none⟩ = some (.int .i64 15) := cell_of_blk (o := 0) (blk_new rfl) rfl
  have q0 : (w2.alloc (.cells (tC 15 [] (.pointer none) [] [] (.slice none 0 0)) 30)).cell? ⟨pb, 0, none⟩ = some (.int .i64 p.op) := cell_of_blk (o := 0) (blk_old hp2) rfl
  have q1 : (w2.alloc (.cells (tC 15 [] (.pointer none) [] [] (.slice none 0 0)) 30)).cell? ⟨pb, 1, none⟩ = some (.int .i64 p.w) := cell_of_blk (o := 1) (blk_old hp2) rfl
  have q2 : (w2.alloc (.cells (tC 15 [] (.pointer none) [] [] (.slice none 0 0)) 30)).cell? ⟨pb, 2, none⟩ = some (.int .i64 p.n) := cell_of_blk (o := 2) (blk_old hp2) rfl
  have q3 : (w2.alloc (.cells (tC 15 [] (.pointer none) [] [] (.slice none 0 0)) 30)).cell? ⟨pb, 3, none⟩ = some (.slice a p.kids.length c) := cell_of_blk (o := 3) (blk_old hp2) rfl
  have H02 := Lib.hid h02
  have HP2 := Lib.hid hp2
  have hwtb : w.heap.size ≤ w2.heap.size := h02.size
  clear hb1 hb2 hp1 h02 hp2 HOp
  go_wp2_with fail
  obtain ⟨tb, htb⟩ : ∃ n, w2.heap.size = n := ⟨_, rfl⟩
  obtain ⟨w3, hw3⟩ : ∃ w3, w2.alloc (.cells (tC 15 [] (.pointer none) [] [] (.slice none 0 0)) 30) = w3 := ⟨_, rfl⟩
  have hb3 : Below w2.heap.size w2 w3 := by rw [← hw3]; exact (Below.refl _ _).alloc (Nat.le_refl _) _
  have ht3 : w3.heap[tb]? = some (.cells (tC 15 [] (.pointer none) [] [] (.slice none 0 0)) 30) := by rw [← hw3]; exact blk_new htb
  have hpt : pb ≠ tb := by have := blk_lt HP2.out; omega
  have HB := Lib.hid (H02.out.trans (hb3.mono H02.out.size))
  have HP := Lib.hid (later_blk hb3 HP2.out)
  have HT := Lib.hid ht3
  rw [htb] at hwtb
  rw [htb, hw3]
  clear hw3 z0 q0 q1 q2 q3 hb3 HP2 H02 ht3
  have p0 : w3.cell? ⟨pb, 0, none⟩ = some (.int .i64 p.op) := cell_of_blk (o := 0) HP.out rfl
  have p1 : w3.cell? ⟨pb, 1, none⟩ = some (.int .i64 p.w) := cell_of_blk (o := 1) HP.out rfl
  have p2 : w3.cell? ⟨pb, 2, none⟩ = some (.int .i64 p.n) := cell_of_blk (o := 2) HP.out rfl
  have p3 : w3.cell? ⟨pb, 3, none⟩ = some (.slice a p.kids.length c) := cell_of_blk (o := 3) HP.out rfl
  have hH3 : ∀ h, (H h ∨ h = tb) → h < w3.heap.size := fun h hh => by
    rcases hh with hh | hh
    · have h1 := HH.out h hh; have h2 := HB.out.size; omega
    · have h1 := blk_lt HT.out; omega
  have HH3 := Lib.hid hH3
  have HMk := Lib.hid hmake
  have HM := Lib.hid hm
  clear hH3 hmake hm
  refine Eag.region (.mov 0 (.mov 1 (.mov 3 (.anc 2 (.anc 4 (.anc 5 (.mov 6 (.mov 7 (.anc 8 Eag.Sch.fin))))))))) [8] (by kernel_rfl) (by kernel_rfl) (fun K ops hops hK => ?_)
  iterate 3
    refine Eag.mov hops rfl rfl (fun w' hb => ?_) ?_
    · have q0 := later hb p0; have q1 := later hb p1; have q2 := later hb p2; have q3 := later hb p3; clear hb; go_simp
    go_simp
  clear p0 p1 p2 p3
  refine Eag.anc hops rfl rfl ?_
  go_wp2_with fail
  have hd3 : Below w3.heap.size w3 w3.drew := (Below.refl _ _).drew
  refine (kid10_any (H := fun x => H x ∨ x = tb) m HMk.out p _ 0 (by omega) w3.drew HM.out ((HV.out.later HB.out).later hd3) HH3.out).mono ?_
  rintro e w4 ⟨t1, b1, rfl, hg1, hs1, hat1, hbb1, hb4⟩
  refine ⟨hb4, ?_⟩
  have h34 : Below w3.heap.size w3 w4 := hd3.trans hb4
  have H34 := Lib.hid h34
  have HA1 := Lib.hid hat1
  have HG1 := Lib.hid hg1
  have HS1 := Lib.hid hs1
  clear hat1 hb4 h34 hg1 hs1 hd3
  refine Eag.anc hops rfl rfl ?_
  go_wp2_with fail
  refine (kid10_any (H := fun x => H x ∨ x = tb) m HMk.out p _ 1 (by omega) w4 HM.out ((HV.out.later HB.out).later H34.out) (fun h hh => Nat.lt_of_lt_of_le (HH3.out h hh) H34.out.size)).mono ?_
  rintro e w5 ⟨t2, b2, rfl, hg2, hs2, hat2, hbb2, hb5⟩
  refine ⟨hb5, ?_⟩
  have h35 : Below w3.heap.size w3 w5 := H34.out.trans (hb5.mono H34.out.size)
  have HA1' := Lib.hid (HA1.out.later hb5)
  have H35 := Lib.hid h35
  have HA2 := Lib.hid hat2
  have HG2 := Lib.hid hg2
  have HS2 := Lib.hid hs2
  clear hat2 hb5 h35 HA1 H34 hg2 hs2
  refine Eag.anc hops rfl rfl ?_
  go_wp2_with fail
  refine ⟨(Below.refl _ _).alloc (Nat.le_refl _) _, ?_⟩
  obtain ⟨g, hg⟩ : ∃ n, w5.heap.size = n := ⟨_, rfl⟩
  obtain ⟨w6, hw6⟩ : ∃ w6, w5.alloc (.cells #[Ptr b1, Ptr b2] 25) = w6 := ⟨_, rfl⟩
  have hb6 : Below w5.heap.size w5 w6 := by rw [← hw6]; exact (Below.refl _ _).alloc (Nat.le_refl _) _
  have hx6 : w6.heap[g]? = some (.cells #[Ptr b1, Ptr b2] 25) := by rw [← hw6]; exact blk_new hg
  rw [hg, hw6]
  clear hw6
  have h36 : Below w3.heap.size w3 w6 := H35.out.trans (hb6.mono H35.out.size)
  have hgtb : tb < g := by have h1 := blk_lt HT.out; have h2 := H35.out.size; omega
  have ht6 := later_blk h36 HT.out
  have t6 : w6.cell? ⟨tb, 6, none⟩ = some (.slice none 0 0) := cell_of_blk (o := 6) ht6 rfl
  have fr : ∀ o, w6.frozen? ⟨tb, o, none⟩ = false := fun o => frozen_of_blk ht6
  have HT6 := Lib.hid ht6
  have HX6 := Lib.hid hx6
  have HK6 := Lib.hid (TsAt.two (HA1'.out.later hb6) (HA2.out.later hb6))
  have HB6 := Lib.hid (HB.out.trans (h36.mono HB.out.size))
  clear ht6 hx6 h36 hb6 HA1' HA2 H35
  iterate 2
    refine Eag.mov hops rfl rfl (fun w' hb => ?_) ?_
    · clear hb; go_simp
    go_simp
  refine Eag.anc hops rfl rfl ?_
  go_wp2_with fail
  refine Eag.fin (hK _ _ ?_)
  clear hK hops
  go_simp
  go_wp2_with fail
  obtain ⟨w7, hw7⟩ : ∃ w7, w6.setCell ⟨tb, 6, none⟩ (.slice (some ⟨g, 0, none⟩) 2 2) = w7 := ⟨_, rfl⟩
  have hk : Keep (· = tb) w6 w7 := by rw [← hw7]; exact Keep.set rfl
  have ht7 : w7.heap[tb]? = some (.cells (tC 15 [] (.pointer none) [] [] (.slice (some ⟨g, 0, none⟩) 2 2)) 30) := by rw [← hw7, blk_set HT6.out]; rfl
  rw [hw7]
  clear hw7
  refine bodyPost_ret (v := Ptr tb) ?_ rfl (made_kids (ks := [t1, t2]) (bs := [b1, b2]) ht7 (hk.blk (show ¬ g = tb by omega) HX6.out) ((HK6.out.keep (hk.wide fun x e => .inl (.inr e))).widen fun x h => .inl (.inl h)) (by unfold Pv.TGoods Pv.TGoods Pv.TGoods; exact ⟨HG1.out, HG2.out, trivial⟩)
    (by have h1 := kidN_two p; have h2 := HS1.out; have h3 := HS2.out; simp only [Pv.tsizes]; omega) (by decide) (by decide) rfl (by simp) hwtb (by omega) HH.out (HB6.out.trans (hk.below HB6.out.size fun x e => by rw [e]; exact hwtb)))
  simp [results, Tryz.results35, go_sem]
set_option maxRecDepth 20000 in
theorem make10_9 (m : Nat) (hmake : Makes10 m) (p : P10) (hm : P10.nodesL p.kids ≤ m) (v : Value) (w : World) (hv : PlV w p v) (hop : opN p = 9) (hH : ∀ h, H h → h < w.heap.size) : Calls Tryz.prog 35 #[v] w (MadeT H p w) := by
  have HV := Lib.hid hv
  obtain ⟨a, c, b', o', rfl, ha, hkl, hks⟩ := hv
  have HH := Lib.hid hH
  have HOp := Lib.hid (fun (W : World) (h : PlV W p (.agg #[.int .i64 p.op, .int .i64 p.w, .int .i64 p.n, .slice a p.kids.length c])) => show Calls Tryz.prog 74 #[.agg #[.int .i64 p.op, .int .i64 p.w, .int .i64 p.n, .slice a p.kids.length c]] W fun e w' => e = .returned (.int .i64 9) ∧ Below W.heap.size W w' by have := op10_any p _ W h; rw [hop] at this; exact this)
  clear hH ha hks hop
  go_enter Tryz.func35, Tryz.ntmps35
  go_wp2_with fail
  obtain ⟨pb, hpb⟩ : ∃ n, w.heap.size = n := ⟨_, rfl⟩
  obtain ⟨w1, hw1⟩ : ∃ w1, w.alloc (.cells #[.int .i64 p.op, .int .i64 p.w, .int .i64 p.n, .slice a p.kids.length c] 74) = w1 := ⟨_, rfl⟩
  have hb1 : Below w.heap.size w w1 := by rw [← hw1]; exact (Below.refl _ _).alloc (Nat.le_refl _) _
  have hp1 : w1.heap[pb]? = some (.cells #[.int .i64 p.op, .int .i64 p.w, .int .i64 p.n, .slice a p.kids.length c] 74) := by rw [← hw1]; exact blk_new hpb
  rw [hpb, hw1]
  clear hw1
  refine (HOp.out w1 (HV.out.later hb1)).mono ?_
  rintro e w2 ⟨rfl, hb2⟩
  have h02 := hb1.trans (hb2.mono hb1.size)
  have hp2 := later_blk hb2 hp1
  have z0 : (w2.alloc (.cells (tC 9 [] (.pointer none) [] [] (.slice none 0 0)) 30)).cell? ⟨w2.heap.size, 0, none⟩ = some (.int .i64 9) := cell_of_blk (o := 0) (blk_new rfl) rfl
  have q0 : (w2.alloc (.cells (tC 9 [] (.pointer none) [] [] (.slice none 0 0)) 30)).cell? ⟨pb, 0, none⟩ = some (.int .i64 p.op) := cell_of_blk (o := 0) (blk_old hp2) rfl
  have q1 : (w2.alloc (.cells (tC 9 [] (.pointer none) [] [] (.slice none 0 0)) 30)).cell? ⟨pb, 1, none⟩ = some (.int .i64 p.w) := cell_of_blk (o := 1) (blk_old hp2) rfl
  have q2 : (w2.alloc (.cells (tC 9 [] (.pointer none) [] [] (.slice none 0 0)) 30)).cell? ⟨pb, 2, none⟩ = some (.int .i64 p.n) := cell_of_blk (o := 2) (blk_old hp2) rfl
  have q3 : (w2.alloc (.cells (tC 9 [] (.pointer none) [] [] (.slice none 0 0)) 30)).cell? ⟨pb, 3, none⟩ = some (.slice a p.kids.length c) := cell_of_blk (o := 3) (blk_old hp2) rfl
  have H02 := Lib.hid h02
  have HP2 := Lib.hid hp2
  have hwtb : w.heap.size ≤ w2.heap.size := h02.size
  clear hb1 hb2 hp1 h02 hp2 HOp
  go_wp2_with fail
  obtain ⟨tb, htb⟩ : ∃ n, w2.heap.size = n := ⟨_, rfl⟩
  obtain ⟨w3, hw3⟩ : ∃ w3, w2.alloc (.cells (tC 9 [] (.pointer none) [] [] (.slice none 0 0)) 30) = w3 := ⟨_, rfl⟩
  have hb3 : Below w2.heap.size w2 w3 := by rw [← hw3]; exact (Below.refl _ _).alloc (Nat.le_refl _) _
  have ht3 : w3.heap[tb]? = some (.cells (tC 9 [] (.pointer none) [] [] (.slice none 0 0)) 30) := by rw [← hw3]; exact blk_new htb
  have hpt : pb ≠ tb := by have := blk_lt HP2.out; omega
  have HB := Lib.hid (H02.out.trans (hb3.mono H02.out.size))
  have HP := Lib.hid (later_blk hb3 HP2.out)
  have HT := Lib.hid ht3
  rw [htb] at hwtb
  rw [htb, hw3]
  clear hw3 z0 q0 q1 q2 q3 hb3 HP2 H02 ht3
  have hH3 : ∀ h, (H h ∨ h = tb) → h < w3.heap.size := fun h hh => by
    rcases hh with hh | hh
    · have h1 := HH.out h hh; have h2 := HB.out.size; omega
    · have h1 := blk_lt HT.out; omega
  refine (kid10_any (H := fun x => H x ∨ x = tb) m hmake p _ 0 (by omega) w3 hm (HV.out.later HB.out) hH3).mono ?_
  rintro e w5 ⟨t1, b1, rfl, hg1, hs1, hat1, hbb1, hb5⟩
  have H35 := Lib.hid hb5
  have HA1 := Lib.hid hat1
  have HG1 := Lib.hid hg1
  have HS1 := Lib.hid hs1
  obtain ⟨g, hg⟩ : ∃ n, w5.heap.size = n := ⟨_, rfl⟩
  have t6 : (w5.alloc (.cells #[Ptr b1] 25)).cell? ⟨tb, 6, none⟩ = some (.slice none 0 0) := cell_of_blk (o := 6) (blk_old (later_blk hb5 HT.out)) rfl
  have fr : ∀ o, (w5.alloc (.cells #[Ptr b1] 25)).frozen? ⟨tb, o, none⟩ = false := fun o => frozen_of_blk (blk_old (later_blk hb5 HT.out))
  have hgtb : tb < w5.heap.size := by have h1 := blk_lt HT.out; have h2 := hb5.size; omega
  clear hat1 hb5 hg1 hs1 hH3 hmake hm
  go_wp2_with fail
  obtain ⟨w6, hw6⟩ : ∃ w6, w5.alloc (.cells #[Ptr b1] 25) = w6 := ⟨_, rfl⟩
  have hb6 : Below w5.heap.size w5 w6 := by rw [← hw6]; exact (Below.refl _ _).alloc (Nat.le_refl _) _
  have hx6 : w6.heap[g]? = some (.cells #[Ptr b1] 25) := by rw [← hw6]; exact blk_new hg
  have h36 : Below w3.heap.size w3 w6 := H35.out.trans (hb6.mono H35.out.size)
  have ht6 := later_blk h36 HT.out
  obtain ⟨w7, hw7⟩ : ∃ w7, w6.setCell ⟨tb, 6, none⟩ (.slice (some ⟨g, 0, none⟩) 1 1) = w7 := ⟨_, rfl⟩
  have hk : Keep (· = tb) w6 w7 := by rw [← hw7]; exact Keep.set rfl
  have ht7 : w7.heap[tb]? = some (.cells (tC 9 [] (.pointer none) [] [] (.slice (some ⟨g, 0, none⟩) 1 1)) 30) := by rw [← hw7, blk_set ht6]; rfl
  have HB6 := Lib.hid (HB.out.trans (h36.mono HB.out.size))
  rw [hw6, hw7]
  refine bodyPost_ret (v := Ptr tb) ?_ rfl (made_kids (ks := [t1]) (bs := [b1]) ht7 (hk.blk (show ¬ g = tb by omega) hx6) (((TsAt.one (HA1.out.later hb6)).keep (hk.wide fun x e => .inl (.inr e))).widen fun x h => .inl (.inl h)) (by unfold Pv.TGoods Pv.TGoods; exact ⟨HG1.out, trivial⟩)
    (by have h1 := kidN_one p; have h2 := HS1.out; simp only [Pv.tsizes]; omega) (by decide) (by decide) rfl (by simp) hwtb (by omega) HH.out (HB6.out.trans (hk.below HB6.out.size fun x e => by rw [e]; exact hwtb)))
  simp [results, Tryz.results35, go_sem]
set_option maxRecDepth 20000 in
theorem make10_12 (m : Nat) (hmake : Makes10 m) (p : P10) (hm : P10.nodesL p.kids ≤ m) (v : Value) (w : World) (hv : PlV w p v) (hop : opN p = 12) (hH : ∀ h, H h → h < w.heap.size) : Calls Tryz.prog 35 #[v] w (MadeT H p w) := by
  have HV := Lib.hid hv
  obtain ⟨a, c, b', o', rfl, ha, hkl, hks⟩ := hv
  have HH := Lib.hid hH
  have HOp := Lib.hid (fun (W : World) (h : PlV W p (.agg #[.int .i64 p.op, .int .i64 p.w, .int .i64 p.n, .slice a p.kids.length c])) => show Calls Tryz.prog 74 #[.agg #[.int .i64 p.op, .int .i64 p.w, .int .i64 p.n, .slice a p.kids.length c]] W fun e w' => e = .returned (.int .i64 12) ∧ Below W.heap.size W w' by have := op10_any p _ W h; rw [hop] at this; exact this)
  clear hH ha hks hop
  go_enter Tryz.func35, Tryz.ntmps35
  go_wp2_with fail
  obtain ⟨pb, hpb⟩ : ∃ n, w.heap.size = n := ⟨_, rfl⟩
  obtain ⟨w1, hw1⟩ : ∃ w1, w.alloc (.cells #[.int .i64 p.op, .int .i64 p.w, .int .i64 p.n, .slice a p.kids.length c] 74) = w1 := ⟨_, rfl⟩
  have hb1 : Below w.heap.size w w1 := by rw [← hw1]; exact (Below.refl _ _).alloc (Nat.le_refl _) _
  have hp1 : w1.heap[pb]? = some (.cells #[.int .i64 p.op, .int .i64 p.w, .int .i64 p.n, .slice a p.kids.length c] 74) := by rw [← hw1]; exact blk_new hpb
  rw [hpb, hw1]
  clear hw1
  refine (HOp.out w1 (HV.out.later hb1)).mono ?_
  rintro e w2 ⟨rfl, hb2⟩
  have h02 := hb1.trans (hb2.mono hb1.size)
  have hp2 := later_blk hb2 hp1
  have z0 : (w2.alloc (.cells (tC 12 [] (.pointer none) [] [] (.slice none 0 0)) 30)).cell? ⟨w2.heap.size, 0, none⟩ = some (.int .i64 12) := cell_of_blk (o := 0) (blk_new rfl) rfl
  have q0 : (w2.alloc (.cells (tC 12 [] (.pointer none) [] [] (.slice none 0 0)) 30)).cell? ⟨pb, 0, none⟩ = some (.int .i64 p.op) := cell_of_blk (o := 0) (blk_old hp2) rfl
  have q1 : (w2.alloc (.cells (tC 12 [] (.pointer none) [] [] (.slice none 0 0)) 30)).cell? ⟨pb, 1, none⟩ = some (.int .i64 p.w) := cell_of_blk (o := 1) (blk_old hp2) rfl
  have q2 : (w2.alloc (.cells (tC 12 [] (.pointer none) [] [] (.slice none 0 0)) 30)).cell? ⟨pb, 2, none⟩ = some (.int .i64 p.n) := cell_of_blk (o := 2) (blk_old hp2) rfl
  have q3 : (w2.alloc (.cells (tC 12 [] (.pointer none) [] [] (.slice none 0 0)) 30)).cell? ⟨pb, 3, none⟩ = some (.slice a p.kids.length c) := cell_of_blk (o := 3) (blk_old hp2) rfl
  have H02 := Lib.hid h02
  have HP2 := Lib.hid hp2
  have hwtb : w.heap.size ≤ w2.heap.size := h02.size
  clear hb1 hb2 hp1 h02 hp2 HOp
  go_wp2_with fail
  obtain ⟨tb, htb⟩ : ∃ n, w2.heap.size = n := ⟨_, rfl⟩
  obtain ⟨w3, hw3⟩ : ∃ w3, w2.alloc (.cells (tC 12 [] (.pointer none) [] [] (.slice none 0 0)) 30) = w3 := ⟨_, rfl⟩
  have hb3 : Below w2.heap.size w2 w3 := by rw [← hw3]; exact (Below.refl _ _).alloc (Nat.le_refl _) _
  have ht3 : w3.heap[tb]? = some (.cells (tC 12 [] (.pointer none) [] [] (.slice none 0 0)) 30) := by rw [← hw3]; exact blk_new htb
  have hpt : pb ≠ tb := by have := blk_lt HP2.out; omega
  have HB := Lib.hid (H02.out.trans (hb3.mono H02.out.size))
  have HP := Lib.hid (later_blk hb3 HP2.out)
  have HT := Lib.hid ht3
  rw [htb] at hwtb
  rw [htb, hw3]
  clear hw3 z0 q0 q1 q2 q3 hb3 HP2 H02 ht3
  have hH3 : ∀ h, (H h ∨ h = tb) → h < w3.heap.size := fun h hh => by
    rcases hh with hh | hh
    · have h1 := HH.out h hh; have h2 := HB.out.size; omega
    · have h1 := blk_lt HT.out; omega
  refine (kid10_any (H := fun x => H x ∨ x = tb) m hmake p _ 0 (by omega) w3 hm (HV.out.later HB.out) hH3).mono ?_
  rintro e w5 ⟨t1, b1, rfl, hg1, hs1, hat1, hbb1, hb5⟩
  have H35 := Lib.hid hb5
  have HA1 := Lib.hid hat1
  have HG1 := Lib.hid hg1
  have HS1 := Lib.hid hs1
  obtain ⟨g, hg⟩ : ∃ n, w5.heap.size = n := ⟨_, rfl⟩
  have t6 : (w5.alloc (.cells #[Ptr b1] 25)).cell? ⟨tb, 6, none⟩ = some (.slice none 0 0) := cell_of_blk (o := 6) (blk_old (later_blk hb5 HT.out)) rfl
  have fr : ∀ o, (w5.alloc (.cells #[Ptr b1] 25)).frozen? ⟨tb, o, none⟩ = false := fun o => frozen_of_blk (blk_old (later_blk hb5 HT.out))
  have hgtb : tb < w5.heap.size := by have h1 := blk_lt HT.out; have h2 := hb5.size; omega
  clear hat1 hb5 hg1 hs1 hH3 hmake hm
  go_wp2_with fail
  obtain ⟨w6, hw6⟩ : ∃ w6, w5.alloc (.cells #[Ptr b1] 25) = w6 := ⟨_, rfl⟩
  have hb6 : Below w5.heap.size w5 w6 := by rw [← hw6]; exact (Below.refl _ _).alloc (Nat.le_refl _) _
  have hx6 : w6.heap[g]? = some (.cells #[Ptr b1] 25) := by rw [← hw6]; exact blk_new hg
  have h36 : Below w3.heap.size w3 w6 := H35.out.trans (hb6.mono H35.out.size)
  have ht6 := later_blk h36 HT.out
  obtain ⟨w7, hw7⟩ : ∃ w7, w6.setCell ⟨tb, 6, none⟩ (.slice (some ⟨g, 0, none⟩) 1 1) = w7 := ⟨_, rfl⟩
  have hk : Keep (· = tb) w6 w7 := by rw [← hw7]; exact Keep.set rfl
  have ht7 : w7.heap[tb]? = some (.cells (tC 12 [] (.pointer none) [] [] (.slice (some ⟨g, 0, none⟩) 1 1)) 30) := by rw [← hw7, blk_set ht6]; rfl
  have HB6 := Lib.hid (HB.out.trans (h36.mono HB.out.size))
  rw [hw6, hw7]
  refine bodyPost_ret (v := Ptr tb) ?_ rfl (made_kids (ks := [t1]) (bs := [b1]) ht7 (hk.blk (show ¬ g = tb by omega) hx6) (((TsAt.one (HA1.out.later hb6)).keep (hk.wide fun x e => .inl (.inr e))).widen fun x h => .inl (.inl h)) (by unfold Pv.TGoods Pv.TGoods; exact ⟨HG1.out, trivial⟩)
    (by have h1 := kidN_one p; have h2 := HS1.out; simp only [Pv.tsizes]; omega) (by decide) (by decide) rfl (by simp) hwtb (by omega) HH.out (HB6.out.trans (hk.below HB6.out.size fun x e => by rw [e]; exact hwtb)))
  simp [results, Tryz.results35, go_sem]
set_option maxRecDepth 20000 in
theorem make10_13 (m : Nat) (hmake : Makes10 m) (p : P10) (hm : P10.nodesL p.kids ≤ m) (v : Value) (w : World) (hv : PlV w p v) (hop : opN p = 13) (hH : ∀ h, H h → h < w.heap.size) : Calls Tryz.prog 35 #[v] w (MadeT H p w) := by
  have HV := Lib.hid hv
  obtain ⟨a, c, b', o', rfl, ha, hkl, hks⟩ := hv
  have HH := Lib.hid hH
  have HOp := Lib.hid (fun (W : World) (h : PlV W p (.agg #[.int .i64 p.op, .int .i64 p.w, .int .i64 p.n, .slice a p.kids.length c])) => show Calls Tryz.prog 74 #[.agg #[.int .i64 p.op, .int .i64 p.w, .int .i64 p.n, .slice a p.kids.length c]] W fun e w' => e = .returned (.int .i64 13) ∧ Below W.heap.size W w' by have := op10_any p _ W h; rw [hop] at this; exact this)
  clear hH ha hks hop
  go_enter Tryz.func35, Tryz.ntmps35
  go_wp2_with fail
  obtain ⟨pb, hpb⟩ : ∃ n, w.heap.size = n := ⟨_, rfl⟩
  obtain ⟨w1, hw1⟩ : ∃ w1, w.alloc (.cells #[.int .i64 p.op, .int .i64 p.w, .int .i64 p.n, .slice a p.kids.length c] 74) = w1 := ⟨_, rfl⟩
  have hb1 : Below w.heap.size w w1 := by rw [← hw1]; exact (Below.refl _ _).alloc (Nat.le_refl _) _
  have hp1 : w1.heap[pb]? = some (.cells #[.int .i64 p.op, .int .i64 p.w, .int .i64 p.n, .slice a p.kids.length c] 74) := by rw [← hw1]; exact blk_new hpb
  rw [hpb, hw1]
  clear hw1
  refine (HOp.out w1 (HV.out.later hb1)).mono ?_
  rintro e w2 ⟨rfl, hb2⟩
  have h02 := hb1.trans (hb2.mono hb1.size)
  have hp2 := later_blk hb2 hp1
  have z0 : (w2.alloc (.cells (tC 13 [] (.pointer none) [] [] (.slice none 0 0)) 30)).cell? ⟨w2.heap.size, 0, none⟩ = some (.int .i64 13) := cell_of_blk (o := 0) (blk_new rfl) rfl
  have q0 : (w2.alloc (.cells (tC 13 [] (.pointer none) [] [] (.slice none 0 0)) 30)).cell? ⟨pb, 0, none⟩ = some (.int .i64 p.op) := cell_of_blk (o := 0) (blk_old hp2) rfl
  have q1 : (w2.alloc (.cells (tC 13 [] (.pointer none) [] [] (.slice none 0 0)) 30)).cell? ⟨pb, 1, none⟩ = some (.int .i64 p.w) := cell_of_blk (o := 1) (blk_old hp2) rfl
  have q2 : (w2.alloc (.cells (tC 13 [] (.pointer none) [] [] (.slice none 0 0)) 30)).cell? ⟨pb, 2, none⟩ = some (.int .i64 p.n) := cell_of_blk (o := 2) (blk_old hp2) rfl
  have q3 : (w2.alloc (.cells (tC 13 [] (.pointer none) [] [] (.slice none 0 0)) 30)).cell? ⟨pb, 3, none⟩ = some (.slice a p.kids.length c) := cell_of_blk (o := 3) (blk_old hp2) rfl
  have H02 := Lib.hid h02
  have HP2 := Lib.hid hp2
  have hwtb : w.heap.size ≤ w2.heap.size := h02.size
  clear hb1 hb2 hp1 h02 hp2 HOp
  go_wp2_with fail
  obtain ⟨tb, htb⟩ : ∃ n, w2.heap.size = n := ⟨_, rfl⟩
  obtain ⟨w3, hw3⟩ : ∃ w3, w2.alloc (.cells (tC 13 [] (.pointer none) [] [] (.slice none 0 0)) 30) = w3 := ⟨_, rfl⟩
  have hb3 : Below w2.heap.size w2 w3 := by rw [← hw3]; exact (Below.refl _ _).alloc (Nat.le_refl _) _
  have ht3 : w3.heap[tb]? = some (.cells (tC 13 [] (.pointer none) [] [] (.slice none 0 0)) 30) := by rw [← hw3]; exact blk_new htb
  have hpt : pb ≠ tb := by have := blk_lt HP2.out; omega
  have HB := Lib.hid (H02.out.trans (hb3.mono H02.out.size))
  have HP := Lib.hid (later_blk hb3 HP2.out)
  have HT := Lib.hid ht3
  rw [htb] at hwtb
  rw [htb, hw3]
  clear hw3 z0 q0 q1 q2 q3 hb3 HP2 H02 ht3
  have hH3 : ∀ h, (H h ∨ h = tb) → h < w3.heap.size := fun h hh => by
    rcases hh with hh | hh
    · have h1 := HH.out h hh; have h2 := HB.out.size; omega
    · have h1 := blk_lt HT.out; omega
  refine (kid10_any (H := fun x => H x ∨ x = tb) m hmake p _ 0 (by omega) w3 hm (HV.out.later HB.out) hH3).mono ?_
  rintro e w5 ⟨t1, b1, rfl, hg1, hs1, hat1, hbb1, hb5⟩
  have H35 := Lib.hid hb5
  have HA1 := Lib.hid hat1
  have HG1 := Lib.hid hg1
  have HS1 := Lib.hid hs1
  obtain ⟨g, hg⟩ : ∃ n, w5.heap.size = n := ⟨_, rfl⟩
  have t6 : (w5.alloc (.cells #[Ptr b1] 25)).cell? ⟨tb, 6, none⟩ = some (.slice none 0 0) := cell_of_blk (o := 6) (blk_old (later_blk hb5 HT.out)) rfl
  have fr : ∀ o, (w5.alloc (.cells #[Ptr b1] 25)).frozen? ⟨tb, o, none⟩ = false := fun o => frozen_of_blk (blk_old (later_blk hb5 HT.out))
  have hgtb : tb < w5.heap.size := by have h1 := blk_lt HT.out; have h2 := hb5.size; omega
  clear hat1 hb5 hg1 hs1 hH3 hmake hm
  go_wp2_with fail
  obtain ⟨w6, hw6⟩ : ∃ w6, w5.alloc (.cells #[Ptr b1] 25) = w6 := ⟨_, rfl⟩
  have hb6 : Below w5.heap.size w5 w6 := by rw [← hw6]; exact (Below.refl _ _).alloc (Nat.le_refl _) _
  have hx6 : w6.heap[g]? = some (.cells #[Ptr b1] 25) := by rw [← hw6]; exact blk_new hg
  have h36 : Below w3.heap.size w3 w6 := H35.out.trans (hb6.mono H35.out.size)
  have ht6 := later_blk h36 HT.out
  obtain ⟨w7, hw7⟩ : ∃ w7, w6.setCell ⟨tb, 6, none⟩ (.slice (some ⟨g, 0, none⟩) 1 1) = w7 := ⟨_, rfl⟩
  have hk : Keep (· = tb) w6 w7 := by rw [← hw7]; exact Keep.set rfl
  have ht7 : w7.heap[tb]? = some (.cells (tC 13 [] (.pointer none) [] [] (.slice (some ⟨g, 0, none⟩) 1 1)) 30) := by rw [← hw7, blk_set ht6]; rfl
  have HB6 := Lib.hid (HB.out.trans (h36.mono HB.out.size))
  rw [hw6, hw7]
  refine bodyPost_ret (v := Ptr tb) ?_ rfl (made_kids (ks := [t1]) (bs := [b1]) ht7 (hk.blk (show ¬ g = tb by omega) hx6) (((TsAt.one (HA1.out.later hb6)).keep (hk.wide fun x e => .inl (.inr e))).widen fun x h => .inl (.inl h)) (by unfold Pv.TGoods Pv.TGoods; exact ⟨HG1.out, trivial⟩)
    (by have h1 := kidN_one p; have h2 := HS1.out; simp only [Pv.tsizes]; omega) (by decide) (by decide) rfl (by simp) hwtb (by omega) HH.out (HB6.out.trans (hk.below HB6.out.size fun x e => by rw [e]; exact hwtb)))
  simp [results, Tryz.results35, go_sem]
theorem make10_all : ∀ m : Nat, Makes10 m
  | 0, H, q, v, W, hm, _, _ => by have := P10.nodes_pos q; omega
  | m + 1, H, q, v, W, hm, hv, hH => by
    have ih := make10_all m
    have hn := nodes_eq q
    have hk : P10.nodesL q.kids ≤ m := by omega
    have hle := opN_le q
    have hop : opN q = 2 ∨ opN q = 3 ∨ opN q = 4 ∨ opN q = 5 ∨ opN q = 6 ∨ opN q = 7 ∨ opN q = 8 ∨ opN q = 9 ∨ opN q = 10 ∨ opN q = 11 ∨ opN q = 12 ∨ opN q = 13 ∨ opN q = 14 ∨ opN q = 15 ∨ opN q = 16 ∨ opN q = 17 := by omega
    rcases hop with h | h | h | h | h | h | h | h | h | h | h | h | h | h | h | h
    · exact make10_2 q v W hv h hH
    · exact make10_3 q v W hv h hH
    · exact make10_4 q v W hv h hH
    · exact make10_5 q v W hv h hH
    · exact make10_6 q v W hv h hH
    · exact make10_7 m ih q hk v W hv h hH
    · exact make10_8 m ih q hk v W hv h hH
    · exact make10_9 m ih q hk v W hv h hH
    · exact make10_10 m ih q hk v W hv h hH
    · exact make10_11 m ih q hk v W hv h hH
    · exact make10_12 m ih q hk v W hv h hH
    · exact make10_13 m ih q hk v W hv h hH
    · exact make10_14 m ih q hk v W hv h hH
    · exact make10_15 m ih q hk v W hv h hH
    · exact make10_16 q v W hv h hH
    · exact make10_17 q v W hv h hH
end Go.Proofs.YtbimpenhmefpeaaGreatDoor
