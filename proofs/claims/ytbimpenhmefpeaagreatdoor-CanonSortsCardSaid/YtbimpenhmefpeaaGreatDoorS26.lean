/- Terms: weights, and walks through them. -/
import Derived.Test.YtbimpenhmefpeaaGreatDoorS25
import Derived.Test.YtbimpenhmefpeaaGreatDoorS10
import Derived.Test.YtbimpenhmefpeaaGreatDoorS24
set_option linter.all false
namespace Go.Proofs.YtbimpenhmefpeaaGreatDoor
open Go.RowKit Go.Maps
variable {H : Nat → Prop}

theorem shaped_len {op : Nat} {re : Bool} {n : Nat} (h : Pv.shapedOf op re n = true) : n ≤ 2 := by
  unfold Pv.shapedOf at h
  split at h
  · simp only [Bool.and_eq_true, beq_iff_eq] at h; omega
  · split at h
    · simp only [beq_iff_eq] at h; omega
    · split at h
      · simp only [beq_iff_eq] at h; omega
      · split at h
        · simp only [beq_iff_eq] at h; omega
        · cases h
theorem weights_take {ts : List Pv.T} {k : Nat} (h : k < ts.length) : Pv.weights (ts.take (k + 1)) = Pv.weights (ts.take k) + Pv.weight ts[k] := by
  induction ts generalizing k with
  | nil => cases h
  | cons t ts ih =>
    cases k with
    | zero => simp [Pv.weights]
    | succ k =>
      have := ih (k := k) (by simpa using h)
      simp only [List.take_succ_cons, Pv.weights, List.getElem_cons_succ, this]
      omega
theorem weights_take_le (ts : List Pv.T) (k : Nat) : Pv.weights (ts.take k) ≤ Pv.weights ts := by
  induction ts generalizing k with
  | nil => simp
  | cons t ts ih =>
    cases k with
    | zero => simp [Pv.weights]
    | succ k => have := ih k; simp only [List.take_succ_cons, Pv.weights]; omega
theorem weight_eq (t : Pv.T) : Pv.weight t = 1 + t.text.length + t.back.length + Pv.weights t.kids := by cases t; rfl
theorem tsize_eq (t : Pv.T) : Pv.tsize t = 1 + Pv.tsizes t.kids := by cases t; rfl
theorem TAt.cells {w : World} {t : Pv.T} {b : Nat} (h : TAt H w t b) : ∃ (a : Option Addr) (c : Nat) (bs : List Nat), w.cell? ⟨b, 0, none⟩ = some (.int .i64 (t.op : Int)) ∧ w.cell? ⟨b, 4, none⟩ = some (Str t.text) ∧ w.cell? ⟨b, 5, none⟩ = some (Str t.back) ∧
    w.cell? ⟨b, 6, none⟩ = some (.slice a bs.length c) ∧ Sl w a c (bs.map Ptr) ∧ TsAt H w t.kids bs ∧ bs.length = t.kids.length := by
  obtain ⟨_, rv, a, c, bs, _, _, h1, h2, h3⟩ := h.open_
  exact ⟨a, c, bs, cell_of_blk (o := 0) h1 rfl, cell_of_blk (o := 4) h1 rfl, cell_of_blk (o := 5) h1 rfl, cell_of_blk (o := 6) h1 rfl, h2, h3, h3.length⟩
set_option maxRecDepth 20000 in
set_option maxHeartbeats 4000000 in
theorem lweight_any : ∀ (m : Nat) (H : Nat → Prop) (t : Pv.T) (tb : Nat) (w : World), Pv.tsize t ≤ m → TAt H w t tb → Pv.weight t < 1099511627776 → t.kids.length < 1099511627776 → Pv.TGood t →
    Calls Tryz.prog 40 #[Ptr tb] w fun e w' => e = .returned (.int .i64 (Pv.weight t : Int)) ∧ Below w.heap.size w w'
  | 0, _, t, _, _, hm, _, _, _, _ => by have := tsize_eq t; omega
  | m + 1, H, t, tb, w, hm, hat, hwt, hkl, hgood => by
    obtain ⟨a, c, bs, t0, t4, t5, t6, hsl, hts, hlen⟩ := hat.cells
    have hweq := weight_eq t
    have hseq := tsize_eq t
    have hbs : bs.length < 1099511627776 := by omega
    have ht4 : t.text.length < 1099511627776 := by omega
    have ht5 : t.back.length < 1099511627776 := by omega
    have hs1 : IntKind.i64.wrap (1 + (t.text.length : Int)) = 1 + (t.text.length : Int) := by rw [IntKind.wrap_i64] <;> omega
    have hs2 : IntKind.i64.wrap (1 + (t.text.length : Int) + (t.back.length : Int)) = 1 + (t.text.length : Int) + (t.back.length : Int) := by rw [IntKind.wrap_i64] <;> omega
    have Hsl := Lib.hid hsl
    have Hts := Lib.hid hts
    have HL := Lib.hid hlen
    have HWe := Lib.hid hweq
    have HSe := Lib.hid hseq
    have HG := Lib.hid hgood.open_.2.2.2.2.2.2
    have HM := Lib.hid hm
    have HWt := Lib.hid hwt
    clear hat hsl hts hlen hweq hseq hgood hm hwt t0 hkl
    go_enter Tryz.func40, Tryz.ntmps40
    go_wp2_with fail
    refine Eag.region (.mov 0 (.mov 1 (.mov 2 (.mov 3 (.mov 4 (.mov 5 (.mov 6 (.mov 7 (.mov 8 (.mov 9 (.mov 10 (.mov 11 (.mov 12 Eag.Sch.fin))))))))))))) [] (by kernel_rfl) (by kernel_rfl) (fun K ops hops hK => ?_)
    iterate 13
      refine Eag.mov hops rfl rfl (fun w' hb => ?_) ?_
      · have q0 := later hb t4; have q1 := later hb t5; clear hb; go_simp
      go_simp
    refine Eag.fin (hK _ _ ?_)
    clear hK hops
    have t6' : w.drew.cell? ⟨tb, 6, none⟩ = some (.slice a bs.length c) := t6
    clear hs1 hs2 t4 t5 t6
    go_simp
    go_wp2_with fail
    go_loopw [3, 23] (fun v i wr => ∃ (k : Nat) (A : Nat), k ≤ bs.length ∧ i = .int .i64 k ∧ v = .int .i64 (A : Int) ∧ Hid (A = 1 + t.text.length + t.back.length + Pv.weights (t.kids.take k)) ∧ Hid (Below w.heap.size w wr)) (fun _ i _ => (bs.length - intOf i).toNat)
    case atStart => exact ⟨0, 1 + t.text.length + t.back.length, by omega, rfl, by simp, Lib.hid (by simp [Pv.weights]), (Below.refl _ _).drew⟩
    case round =>
      obtain ⟨k, A, hk, rfl, rfl, HA, HB⟩ := hrel
      have hAle : A ≤ 1099511627776 := by
        have h1 := HA.out
        have h2 := weights_take_le t.kids k
        have h3 := HWe.out
        have h4 := HWt.out
        omega
      by_cases hkn : k < bs.length
      · have hkk2 : k < t.kids.length := by rw [← HL.out]; exact hkn
        obtain ⟨hkb, hatk⟩ := Hts.out.get k hkk2
        obtain ⟨blk, off, rfl, hbl, hcl⟩ := Hsl.out.at_ (by simp; omega)
        have hc0 := later HB.out (hcl k (by simpa using hkn))
        rw [List.getElem_map] at hc0
        have hw1 := weights_take hkk2
        have hw2 := weights_take_le t.kids (k + 1)
        have hts1 := Pv.tsizes_get hkk2
        have hgk := HG.out.get hkk2
        have hkw : A + Pv.weight (t.kids[k]'hkk2) < 1099511627776 := by
          have h1 := HA.out
          have h3 := HWe.out
          have h4 := HWt.out
          omega
        have hcall := lweight_any m H _ _ wr (by have := HM.out; have := HSe.out; omega) (hatk.later HB.out) (by omega) (Nat.lt_of_le_of_lt (shaped_len hgk.open_.2.2.1) (by decide)) hgk
        obtain ⟨B, hB⟩ : ∃ B, Pv.weight (t.kids[k]'hkk2) = B := ⟨_, rfl⟩
        rw [hB] at hcall hkw
        have HB2 := Lib.hid hB
        have HW1 := Lib.hid hw1
        have HCall := Lib.hid hcall
        clear hcall hw1 hw2 hts1 hgk hcl hatk hB
        have hk' : (k : Int) < bs.length := by omega
        have hk40 : (k : Int) < 1099511627776 := by omega
        go_wp2_with fail
        refine HCall.out.mono ?_
        rintro e w1 ⟨rfl, hb1⟩
        have HB1 := Lib.hid (HB.out.trans (hb1.mono HB.out.size))
        clear hb1 HCall
        go_wp2_with fail
        go_roundw
        case rel => exact ⟨k + 1, A + B, by omega, by go_num, by go_num, Lib.hid (by have := HA.out; have := HB2.out; have := HW1.out; omega), HB1.out⟩
        case measure => simp [intOf]; omega
      · have hkn2 : ¬ ((k : Int) < bs.length) := by omega
        go_wp2_with fail
        go_ret
        refine ⟨?_, HB.out⟩
        have h1 := HA.out
        have hke : k = bs.length := by omega
        rw [hke, HL.out, List.take_length] at h1
        rw [h1, HWe.out]
        rfl

/-! ### Walks through a term -/
mutual
/-- a term and its parts, each ahead of its own -/
def foldT {σ : Type} (f : σ → Pv.T → σ) : σ → Pv.T → σ
  | s, .mk op a n r tx bk ks => foldTs f (f s (.mk op a n r tx bk ks)) ks
def foldTs {σ : Type} (f : σ → Pv.T → σ) : σ → List Pv.T → σ
  | s, [] => s
  | s, t :: ts => foldTs f (foldT f s t) ts
end
theorem foldT_eq {σ : Type} (f : σ → Pv.T → σ) (s : σ) (t : Pv.T) : foldT f s t = foldTs f (f s t) t.kids := by cases t; rw [foldT]; rfl
theorem foldTs_take {σ : Type} (f : σ → Pv.T → σ) : ∀ {ts : List Pv.T} {k : Nat} (s : σ) (h : k < ts.length), foldTs f s (ts.take (k + 1)) = foldT f (foldTs f s (ts.take k)) ts[k]
  | t :: ts, 0, s, _ => by simp [foldTs]
  | t :: ts, k + 1, s, h => by
    simp only [List.take_succ_cons, foldTs, List.getElem_cons_succ]
    exact foldTs_take f _ (by simpa using h)
set_option maxRecDepth 20000 in
set_option maxHeartbeats 4000000 in
theorem walk_any {σ : Type} (Pt : Pv.T → Prop) (hPk : ∀ t, Pt t → t.kids.length < 1099511627776 ∧ ∀ k ∈ t.kids, Pt k) (g r : Nat) (eg : Hid (Enters Tryz.prog g)) (I : σ → World → Prop) (step : σ → Pv.T → σ)
    (hstep : ∀ (t : Pv.T) (tb : Nat) (s : σ) (w : World), Pt t → TAt (· = r) w t tb → I s w → Calls Tryz.prog g #[Ptr tb, Ptr r] w fun e w' => e = .returned (.bool true) ∧ I (step s t) w' ∧ Keep (· = r) w w') :
    ∀ (m : Nat) (t : Pv.T) (tb : Nat) (s : σ) (w : World), Pv.tsize t ≤ m → Pt t → TAt (· = r) w t tb → I s w → Calls Tryz.prog 41 #[Ptr tb, .func (.func g) #[] #[Ptr r]] w fun e w' => e = .returned (.bool true) ∧ I (foldT step s t) w' ∧ Keep (· = r) w w'
  | 0, t, _, _, _, hm, _, _, _ => by have := tsize_eq t; omega
  | m + 1, t, tb, s, w, hm, hp, hat, hI => by
    obtain ⟨a, c, bs, t0, t4, t5, t6, hsl, hts, hlen⟩ := hat.cells
    have hseq := tsize_eq t
    have hfeq := foldT_eq step s t
    have hkl := (hPk t hp).1
    have hbs : bs.length < 1099511627776 := by omega
    have hst := hstep t tb s w hp hat hI
    obtain ⟨htb, rv, a', c', bs', _, hnr, hterm, _⟩ := hat.open_
    have hHa : ∀ blk off, a = some ⟨blk, off, none⟩ → ¬ (blk = r) := by
      intro blk off e
      have h6 : w.cell? ⟨tb, 6, none⟩ = some (.slice a' bs'.length c') := cell_of_blk (o := 6) hterm rfl
      rw [t6] at h6
      injection h6 with h6
      injection h6 with h6
      exact (hnr blk off (by rw [← h6]; exact e)).1
    have hterm' : TermAt w tb t.op t.at_ t.name rv t.text t.back (.slice a' bs'.length c') := hterm
    have HTm := Lib.hid hterm'
    have HT6 := Lib.hid t6
    have HSt := Lib.hid hst
    have Hsl := Lib.hid hsl
    have Hts := Lib.hid hts
    have HL := Lib.hid hlen
    have HSe := Lib.hid hseq
    have HFe := Lib.hid hfeq
    have HM := Lib.hid hm
    have HPk := Lib.hid (hPk t hp).2
    have HHa := Lib.hid hHa
    clear hst hsl hts hlen hseq hfeq hm hat t0 t4 t5 t6 hkl hterm hterm' hnr hHa hI
    go_enter Tryz.func41, Tryz.ntmps41
    go_wp2_with fail
    go_simp
    rw [eg.out]
    refine HSt.out.mono ?_
    rintro e w1 ⟨rfl, hI1, hk1⟩
    have t6 : w1.cell? ⟨tb, 6, none⟩ = some (.slice a bs.length c) := hk1.cell htb HT6.out
    have HI1 := Lib.hid hI1
    have HK1 := Lib.hid hk1
    clear hI1 hk1 HSt
    go_wp2_with fail
    go_loopw [18] (fun i wr => ∃ (k : Nat), k ≤ bs.length ∧ i = .int .i64 k ∧ Hid (I (foldTs step (step s t) (t.kids.take k)) wr) ∧ Hid (Keep (· = r) w wr)) (fun i _ => (bs.length - intOf i).toNat)
    case atStart => exact ⟨0, by omega, rfl, by simpa [foldTs] using HI1, HK1.out⟩
    case round =>
      obtain ⟨k, hk, rfl, HI, HK⟩ := hrel
      by_cases hkn : k < bs.length
      · have hkk2 : k < t.kids.length := by rw [← HL.out]; exact hkn
        obtain ⟨hkb, hatk⟩ := Hts.out.get k hkk2
        obtain ⟨blk, off, rfl, hbl, hcl⟩ := Hsl.out.at_ (by simp; omega)
        have hc0 := HK.out.cell (HHa.out blk off rfl) (hcl k (by simpa using hkn))
        rw [List.getElem_map] at hc0
        have hts1 := Pv.tsizes_get hkk2
        have hft := foldTs_take step (step s t) hkk2
        have hcall := walk_any Pt hPk g r eg I step hstep m (t.kids[k]'hkk2) bs[k] _ wr (by have := HM.out; have := HSe.out; omega) (HPk.out _ (List.getElem_mem hkk2)) (hatk.keep HK.out) HI.out
        rw [← hft] at hcall
        have HCall := Lib.hid hcall
        clear hcall hft hts1 hcl hatk HI
        have hk' : (k : Int) < bs.length := by omega
        have hk40 : (k : Int) < 1099511627776 := by omega
        go_wp2_with fail
        refine HCall.out.mono ?_
        rintro e w2 ⟨rfl, hI2, hk2⟩
        have HI2 := Lib.hid hI2
        have HK2 := Lib.hid (HK.out.trans hk2)
        clear hI2 hk2 HCall
        go_wp2_with fail
        go_roundw
        case rel => exact ⟨k + 1, by omega, by go_num, HI2.out, HK2.out⟩
        case measure => simp [intOf]; omega
      · have hkn2 : ¬ ((k : Int) < bs.length) := by omega
        have HFin : Hid (I (foldT step s t) wr ∧ Keep (· = r) w wr) := by
          have hke : k = bs.length := by omega
          have h1 := HI.out
          rw [hke, HL.out, List.take_length, ← HFe.out] at h1
          exact ⟨h1, HK.out⟩
        clear HI
        go_wp2_with fail
        go_ret
        exact ⟨rfl, HFin.out⟩
end Go.Proofs.YtbimpenhmefpeaaGreatDoor
namespace Go.Proofs.YtbimpenhmefpeaaGreatDoor
open Go.RowKit Go.Maps
variable {H : Nat → Prop}

theorem within_true (P : Pv.R → Prop) (hP : ∀ r c, P r → P (Pv.by_ c r)) (hPs : ∀ r, P r → Pv.size r ≤ 300000) (x : Pv.R) (hxP : P x) (text : List UInt8) (bx c bb : Nat) (w : World) (hx : ReAt H w x bx) (hH : ∀ h, H h → h < w.heap.size) (htl : text.length < 549755813888)
    (hc : CkAt w c bb {}) (tv : Value) (hq : Pv.matchR text x = true) :
    Calls Tryz.prog 18 #[Ptr c, tv, Str text, Ptr bx] w fun en w' => en = .returned (.bool true) ∧ Below w.heap.size w w' := by
  have hok := ok_any c bb {} w hc
  have hm := dmatch_any (H := H) P hP hPs x hxP bx text w hx hH htl
  rw [hq] at hm
  have HOk := Lib.hid hok
  have HM := Lib.hid hm
  clear hok hm hc hx hH hP hPs hq
  go_enter Tryz.func18, Tryz.ntmps18
  go_wp2_with fail
  refine HOk.out.mono ?_
  rintro e w' ⟨rfl, rfl⟩
  go_wp2_with fail
  refine HM.out.mono ?_
  rintro e w1 ⟨rfl, hb1⟩
  have HB1 := Lib.hid hb1
  clear hb1 HM
  go_wp2_with fail
  go_ret
  exact ⟨rfl, HB1.out⟩
set_option maxRecDepth 20000 in
theorem types_norm (P : Pv.R → Prop) (hP : ∀ r c, P r → P (Pv.by_ c r)) (hPs : ∀ r, P r → Pv.size r ≤ 300000) (r : Pv.R) (hrP : P r) (c bb k tb rb : Nat) (at_ : Int) (name text back : List UInt8) (kids kv : Value) (w : World) (hx : w.heap[k]? = some (.cells (CanC tb (.pointer none) (.pointer none) kv (.pointer none) (.pointer none)) 68)) (ht : TermAt w tb 17 at_ name (Ptr rb) text back kids)
    (hr : ReAt H w r rb) (hH : ∀ h, H h → h < w.heap.size) (hHk : H k) (htl : text.length < 549755813888) (hc : CkAt w c bb {}) (hq : Pv.matchR text r = true) :
    Calls Tryz.prog 61 #[Ptr c, Ptr k] w fun e w' => ∃ wb, e = .returned (.bool true) ∧ w'.heap[k]? = some (.cells (CanC tb (Ptr rb) (Ptr wb) kv (.pointer none) (.pointer none)) 68) ∧ ReAt H w' (Pv.word text) wb ∧ Keep (· = k) w w' := by
  have x0 : w.cell? ⟨k, 0, none⟩ = some (Ptr tb) := cell_of_blk (o := 0) hx rfl
  have t0 : w.cell? ⟨tb, 0, none⟩ = some (.int .i64 17) := cell_of_blk (o := 0) ht rfl
  have t3 : w.cell? ⟨tb, 3, none⟩ = some (Ptr rb) := cell_of_blk (o := 3) ht rfl
  have t4 : w.cell? ⟨tb, 4, none⟩ = some (Str text) := cell_of_blk (o := 4) ht rfl
  have nft : ¬ (fun _ : Nat => False) tb := fun h => h
  have hwd := word_any (H := H) text w.drew hH (by omega)
  have HX := Lib.hid hx
  have HT := Lib.hid ht
  have HR := Lib.hid hr
  have HC := Lib.hid hc
  have HWd := Lib.hid hwd
  have HH := Lib.hid hH
  have HP := Lib.hid hP
  have HPs := Lib.hid hPs
  have HQ := Lib.hid hq
  have hkc : k ≠ c := by
    rintro rfl
    have h2 := HC.out
    unfold CkAt at h2
    rw [HX.out] at h2
    cases h2
  have hkt : k ≠ tb := by
    rintro rfl
    have h2 := HT.out
    unfold TermAt at h2
    rw [HX.out] at h2
    cases h2
  clear hx ht hr hc hwd hH hP hPs hq
  go_enter Tryz.func61, Tryz.ntmps61
  go_wp2_with fail
  refine Eaq.region (Keep fun _ => False) (.mov 0 (.mov 1 (.mov 2 (.mov 3 (.mov 4 (.mov 5 (.mov 6 (.mov 7 (.mov 8 (.mov 9 (.anc 10 (.mov 11 (.mov 12 (.anc 13 (.mov 14 (.mov 15 (.anc 16 Eag.Sch.fin))))))))))))))))) [13, 16] [1] (by kernel_rfl) (by kernel_rfl) (fun K ops hops hK => ?_)
  iterate 10
    first
      | (refine Eaq.mov hops rfl rfl rfl (fun w' hb => ?_) ?_
         · have q0 := Keep.cell hb nft t3; have q1 := Keep.cell hb nft t4; clear hb; go_simp)
      | (refine Eaq.movA hops rfl rfl (fun w' => ?_) ?_
         · go_simp)
    go_simp
  refine Eaq.anc hops rfl rfl ?_
  go_wp2_with fail
  refine HWd.out.mono ?_
  rintro e w1 ⟨wb, rfl, hat1, hb1⟩
  refine ⟨Keep.of_below hb1, ?_⟩
  have hB1 : Below w.heap.size w w1 := (Below.refl _ w).drew.trans hb1
  have hx1 := later_blk hB1 HX.out
  have c1 : w1.cell? ⟨k, 1, none⟩ = some (.pointer none) := cell_of_blk (o := 1) hx1 rfl
  have c2 : w1.cell? ⟨k, 2, none⟩ = some (.pointer none) := cell_of_blk (o := 2) hx1 rfl
  have fr : ∀ o, w1.frozen? ⟨k, o, none⟩ = false := fun o => frozen_of_blk hx1
  have HX1 := Lib.hid hx1
  have HB1 := Lib.hid hB1
  have HA1 := Lib.hid hat1
  clear hx1 hB1 hb1 hat1 HWd t3 t4 t0 x0
  iterate 2
    first
      | (refine Eaq.mov hops rfl rfl rfl (fun w' hb => ?_) ?_
         · clear hb; go_simp)
      | (refine Eaq.movA hops rfl rfl (fun w' => ?_) ?_
         · go_simp)
    go_simp
  refine Eaq.anc hops rfl rfl ?_
  go_wp2_with fail
  iterate 2
    first
      | (refine Eaq.mov hops rfl rfl rfl (fun w' hb => ?_) ?_
         · clear hb; go_simp)
      | (refine Eaq.movA hops rfl rfl (fun w' => ?_) ?_
         · go_simp)
    go_simp
  refine Eaq.anc hops rfl rfl ?_
  go_wp2_with fail
  refine Eaq.fin (hK _ _ ?_)
  clear hK hops
  go_simp
  obtain ⟨w2, hw2⟩ : ∃ w2, (w1.setCell ⟨k, 1, none⟩ (Ptr rb)).setCell ⟨k, 2, none⟩ (Ptr wb) = w2 := ⟨_, rfl⟩
  have hk2 : Keep (· = k) w1 w2 := by
    have K : ∀ (W : World) (o : Nat) (v : Value), Keep (· = k) W (W.setCell ⟨k, o, none⟩ v) := fun W o v => Keep.set rfl
    rw [← hw2]; exact (K _ _ _).trans (K _ _ _)
  have hx2 : w2.heap[k]? = some (.cells (CanC tb (Ptr rb) (Ptr wb) kv (.pointer none) (.pointer none)) 68) := by
    rw [← hw2, blk_set (blk_set HX1.out)]; rfl
  rw [hw2]
  clear hw2 c1 c2 fr
  have hk02 : Keep (· = k) w w2 := (Keep.of_below HB1.out).trans hk2
  have ht2 := hk02.blk (show ¬ tb = k by omega) HT.out
  have t3 : w2.cell? ⟨tb, 3, none⟩ = some (Ptr rb) := cell_of_blk (o := 3) ht2 rfl
  have t4 : w2.cell? ⟨tb, 4, none⟩ = some (Str text) := cell_of_blk (o := 4) ht2 rfl
  have hc2 := HC.out.keep hk02 (fun e => hkc e.symm)
  have hkH : Keep H w w2 := hk02.wide fun x e => .inl (by rw [e]; exact hHk)
  have hwi := within_true (H := H) P HP.out HPs.out r hrP text rb c bb w2.drew ((HR.out.keep hkH).later (Below.refl _ _).drew) (fun h hh => by have h1 := HH.out h hh; have h2 := hk02.size; exact Nat.lt_of_lt_of_le h1 h2) htl (hc2.later (Below.refl _ _).drew) (Ptr tb) HQ.out
  have HWi := Lib.hid hwi
  have hkH1 : Keep H w1 w2 := hk2.wide fun x e => .inl (by rw [e]; exact hHk)
  have HA2 := Lib.hid (HA1.out.keep hkH1)
  have HX2 := Lib.hid hx2
  have HK2 := Lib.hid hk02
  clear hk2 hx2 hk02 ht2 hc2 hkH hwi hkH1 HA1
  go_wp2_with fail
  refine Eag.region (.mov 0 (.mov 1 (.mov 2 (.mov 3 (.mov 4 (.mov 5 (.mov 6 (.mov 7 (.mov 8 (.mov 9 (.anc 10 (.mov 11 Eag.Sch.fin)))))))))))) [] (by kernel_rfl) (by kernel_rfl) (fun K ops hops hK => ?_)
  iterate 10
    refine Eag.mov hops rfl rfl (fun w' hb => ?_) ?_
    · have q0 := later hb t3; have q1 := later hb t4; clear hb; go_simp
    go_simp
  refine Eag.anc hops rfl rfl ?_
  go_wp2_with fail
  refine HWi.out.mono ?_
  rintro e w3 ⟨rfl, hb3⟩
  refine ⟨hb3, ?_⟩
  have hB3 : Below w2.heap.size w2 w3 := (Below.refl _ w2).drew.trans hb3
  have HB3 := Lib.hid hB3
  clear hb3 hB3 HWi t3 t4
  iterate 1
    refine Eag.mov hops rfl rfl (fun w' hb => ?_) ?_
    · clear hb; go_simp
    go_simp
  refine Eag.fin (hK _ _ ?_)
  clear hK hops
  go_simp
  go_wp2_with fail
  refine bodyPost_ret (v := .bool true) ?_ rfl ⟨wb, rfl, later_blk HB3.out HX2.out, HA2.out.later HB3.out, HK2.out.trans (Keep.of_below HB3.out)⟩
  simp [results, Tryz.results61, go_sem]
end Go.Proofs.YtbimpenhmefpeaaGreatDoor
