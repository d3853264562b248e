/- The walks of package re: Back. -/
import Derived.Test.YtbimpenhmefpeaaGreatDoorS09
import Derived.Laws.MakeOwn
import Derived.Laws.IdiomStrings
import Derived.Laws.OwnMore
set_option linter.all false
namespace Go.Proofs.YtbimpenhmefpeaaGreatDoor
open Go.RowKit
variable {H : Nat → Prop}

theorem size_many (r : Pv.R) : Pv.size (Pv.many r) ≤ 1 + Pv.size r := by
  unfold Pv.many
  split
  · simp [Pv.empty, Pv.size, Pv.sizes]
  · split
    · omega
    · simp [Pv.size, Pv.sizes]
theorem size_but (a b : Pv.R) : Pv.size (Pv.but a b) ≤ 1 + (Pv.size a + Pv.size b) := by
  unfold Pv.but
  split
  · simp [Pv.nothing, Pv.size, Pv.sizes]
  · split
    · omega
    · split
      · rw [size_one]; omega
      · simp [Pv.size, Pv.sizes]
theorem size_cat (l : List Pv.R) : Pv.size (Pv.cat l) ≤ 1 + Pv.sizes l := by
  have h1 := sizes_flat 3 l
  have h2 := sizes_filter (fun r => !(r.op == 1)) (Pv.flat 3 l)
  unfold Pv.cat
  generalize (Pv.flat 3 l).filter (fun r => !(r.op == 1)) = m at *
  unfold Pv.thenOf
  split
  · simp [Pv.nothing, Pv.size, Pv.sizes]
  · split
    · simp [Pv.empty, Pv.size, Pv.sizes]
    · simp only [Pv.sizes] at h2; omega
    · rw [Pv.size]; omega
theorem size_anyl (l : List Pv.R) : Pv.size (Pv.any l) ≤ 1 + Pv.sizes l := by
  have h1 := sizes_join 4 l Pv.S4.or
  have h2 := sizes_filter (fun r => !(r.op == 0)) (Pv.join 4 l Pv.S4.or)
  unfold Pv.any
  generalize (Pv.join 4 l Pv.S4.or).filter (fun r => !(r.op == 0)) = m at *
  unfold Pv.anyOf
  split
  · simp [Pv.nothing, Pv.size, Pv.sizes]
  · simp only [Pv.sizes] at h2; omega
  · rw [Pv.size]; omega
theorem size_both (l : List Pv.R) : Pv.size (Pv.both l) ≤ 2 + Pv.sizes l := by
  have h1 := sizes_join 6 l Pv.S4.and
  unfold Pv.both
  generalize Pv.join 6 l Pv.S4.and = m at *
  unfold Pv.bothOf
  split
  · simp [Pv.nothing, Pv.size, Pv.sizes]; omega
  · split
    · have := size_many (Pv.one Pv.S4.all); rw [size_one] at this; omega
    · simp only [Pv.sizes] at h1; omega
    · rw [Pv.size]; omega
theorem size_with (r : Pv.R) (ks : List Pv.R) : Pv.size (Pv.withKids r ks) ≤ max (2 + Pv.sizes ks) (Pv.size r) := by
  rw [withKids_eq]
  have h1 := size_cat ks
  have h2 := size_anyl ks
  have h3 := size_both ks
  split
  · omega
  split
  · omega
  split
  · omega
  split
  · unfold manyOr
    split
    · rename_i k
      have := size_many k
      simp only [Pv.sizes]; omega
    · omega
  split
  · unfold butOr
    split
    · rename_i a b
      have := size_but a b
      simp only [Pv.sizes]; omega
    · omega
  · omega
theorem sizes_reverse (l : List Pv.R) : Pv.sizes l.reverse = Pv.sizes l := sizes_perm l.reverse_perm
mutual
theorem size_back : ∀ r : Pv.R, Pv.size (Pv.back r) ≤ 2 * Pv.size r
  | .mk op s [] => by unfold Pv.back; omega
  | .mk op s (k :: ks) => by
    have h := sizes_backs (k :: ks)
    have h2 := size_with (.mk op s (k :: ks)) (if op = 3 then (Pv.backs (k :: ks)).reverse else Pv.backs (k :: ks))
    have h3 : Pv.sizes (if op = 3 then (Pv.backs (k :: ks)).reverse else Pv.backs (k :: ks)) = Pv.sizes (Pv.backs (k :: ks)) := by
      split
      · exact sizes_reverse _
      · rfl
    rw [h3] at h2
    rw [Pv.back]
    rw [Pv.size] at h2 ⊢
    omega
theorem sizes_backs : ∀ l : List Pv.R, Pv.sizes (Pv.backs l) ≤ 2 * Pv.sizes l
  | [] => Nat.le_refl _
  | r :: l => by
    have := size_back r
    have := sizes_backs l
    simp only [Pv.backs, Pv.sizes]; omega
end
theorem backs_map : ∀ l : List Pv.R, Pv.backs l = l.map Pv.back
  | [] => rfl
  | r :: l => by rw [Pv.backs, backs_map l]; rfl
theorem ReAt.setH {w : World} {r : Pv.R} {b g o : Nat} {v : Value} (h : ReAt H w r b) (hg : H g) : ReAt H (w.setCell ⟨g, o, none⟩ v) r b := (h.hide_ hg).ext (Ext.unhide g w).set

theorem madeCells_one (z : Value) (n : Nat) : madeCells #[z] n = Array.replicate n z := by
  apply Array.ext
  · simp [madeCells]
  · intro i h1 h2
    simp [madeCells, Nat.mod_one]
theorem make_re (n c : Nat) (hnc : n ≤ c) (hc : c < 1099511627776) (w : World) : (Instr.makeSlice 94 (.int .i64 (n : Int)) (.int .i64 (c : Int))).run Tryz.prog w = .ok (.slice (some ⟨w.heap.size, 0, none⟩) n c) (w.alloc (.cells (Array.replicate c (.pointer none)) 23)) := by
  obtain ⟨i0, hi, hz0, hz1, hz2⟩ := info_parts info_re
  have hr := run_make (P := Tryz.prog) w 94 23 i0 _ Tryz.underlying94 hi hz0 .i64 .i64 (n : Int) (c : Int) (by omega) (by omega) (by rw [hz2]; omega) (by omega)
  simp only [Int.toNat_natCast] at hr
  rw [hr, hz1]
  simp only [Value.cells, Nat.mul_one, madeCells_one]
theorem ResAt.reverse {w : World} {rs : List Pv.R} {bs : List Nat} (h : ResAt H w rs bs) : ResAt H w rs.reverse bs.reverse := by
  obtain ⟨ps, rfl, rfl, hp⟩ := h.prs
  rw [← List.map_reverse, ← List.map_reverse]
  exact Prs.res fun x hx => hp x (List.mem_reverse.1 hx)
theorem ResAt.setH {w : World} {rs : List Pv.R} {bs : List Nat} {g o : Nat} {v : Value} (h : ResAt H w rs bs) (hg : H g) : ResAt H (w.setCell ⟨g, o, none⟩ v) rs bs := (h.hide_ hg).ext (Ext.unhide g w).set
open Go.Sort Go.Lib in
theorem reverse_re (g cap : Nat) (ds : List Nat) (w : World) (cur : Array Value) (h : w.heap[g]? = some (.cells cur 23)) (hc : cur.size = cap) (hd : ds.length ≤ cap) (hm : cap ≤ maxLen) (ht : cur.toList.take ds.length = ds.map Ptr) (hl : ds.length < 1099511627776) :
    Calls Tryz.prog 134 #[.slice (some ⟨g, 0, none⟩) ds.length cap] w fun e w' => e = .returned (.tuple #[]) ∧ Row g 23 w' (.slice (some ⟨g, 0, none⟩) ds.length cap) (ds.reverse.map Ptr) ∧ Ext (hide g w) w' ∧ Below g w w' := by
  have hH : Holds Ptr w g 0 ds.toArray := fun j hj => by
    have hj' : j < ds.length := by simpa using hj
    rw [getElem!_pos ds.toArray j hj, Nat.zero_add]
    refine ⟨cell_of_blk h ?_, frozen_of_blk h⟩
    have : (cur.toList.take ds.length)[j]? = some (Ptr ds[j]) := by rw [ht]; simp [hj']
    rw [List.getElem?_take, if_pos hj'] at this
    simpa using this
  refine (Tryz.slices_Reverse_f134 Ptr (fun _ => rfl) g 0 cap ds w hH (by omega)).mono ?_
  rintro e w' ⟨rfl, n, rfl⟩
  have e0 : putRow Ptr (Sort.ahead w n) g 0 ds.reverse.toArray = sortWorld Ptr w g 0 n ds.reverse.toArray #[] := by unfold sortWorld; rw [grow_empty]
  rw [e0]
  refine ⟨rfl, ?_, sw_ext Ptr w g n _ #[], sw_below Ptr w g g n _ #[] (Nat.le_refl _) (blk_lt h)⟩
  have := sw_row Ptr (base := g) (m := n) (os := #[]) (dk := ds.reverse.toArray) h (Nat.le_refl _) hc (by simpa using hd) hm
  simpa using this

set_option maxRecDepth 20000 in
set_option maxHeartbeats 4000000 in
theorem back_any : ∀ (n : Nat) (H : Nat → Prop) (r : Pv.R) (b : Nat) (w : World), Pv.size r ≤ n → ReAt H w r b → (∀ h, H h → h < w.heap.size) → 2 * Pv.size r < 549755813888 →
    MakesRe H 104 #[Ptr b] w (Pv.back r)
  | 0, _, r, _, _, hn, _, _, _ => by have := size_pos r; omega
  | n + 1, H, r, b, w, hn, hat, hH, hsz => by
    obtain ⟨a, c, bs, h0, _, _, _, _, h5, _, _, _, hsl, hres, hlt⟩ := hat.cells
    have hlen := hres.length
    have hks := sizes_len r.kids
    have hsk := size_kids r
    have Hat := Lib.hid hat
    have Hsl := Lib.hid hsl
    have Hres := Lib.hid hres
    clear hat hsl hres
    by_cases he : r.kids = []
    · have hb0 : bs = [] := List.length_eq_zero_iff.1 (by rw [hlen, he]; rfl)
      have hbk : Hid (Pv.back r = r) := by
        cases r with
        | mk op s ks =>
          have : ks = [] := he
          subst this
          show _ = _
          rw [Pv.back]
      subst hb0
      clear he hlen
      go_enter Tryz.func104, Tryz.ntmps104
      go_wp2_with fail
      go_ret
      refine ⟨b, rfl, ?_, Below.refl _ _⟩
      rw [hbk.out]; exact Hat.out
    · have hbn : bs ≠ [] := fun h => he (List.length_eq_zero_iff.1 (by rw [← hlen, h]; rfl))
      have hb1 : 0 < bs.length := List.length_pos_iff.2 hbn
      have hb2 : ((bs.length : Int) == 0) = false := by rw [beq_eq_false_iff_ne]; omega
      have hb3 : (bs.length : Int) < 1099511627776 := by omega
      have HE := Lib.hid he
      have HL := Lib.hid hlen
      clear he hbn hlen
      go_enter Tryz.func104, Tryz.ntmps104
      go_wp2_with fail
      rw [make_re bs.length bs.length (Nat.le_refl _) (by omega) w]
      go_simp
      go_wp2_with fail
      go_loopw [28] (fun i wr => ∃ (k : Nat) (cur : Array Value) (ds : List Nat), k ≤ bs.length ∧ i = .int .i64 k ∧ ds.length = k ∧ cur.size = bs.length ∧ Hid (wr.heap[w.heap.size]? = some (.cells cur 23)) ∧
         Hid (cur.toList.take k = ds.map Ptr) ∧ Hid (ResAt (fun x => H x ∨ x = w.heap.size) wr ((r.kids.take k).map Pv.back) ds) ∧ Hid (Below w.heap.size w wr) ∧ w.heap.size < wr.heap.size) (fun i _ => (bs.length - intOf i).toNat)
      case atStart =>
        exact ⟨0, Array.replicate bs.length (.pointer none), [], by omega, rfl, rfl, by simp, blk_new rfl, by simp [Hid], (show ResAt _ _ [] [] from ResAt.nil), (Below.refl _ _).alloc (Nat.le_refl _) _, by simp⟩
      case round =>
        obtain ⟨k, cur, ds, hk, rfl, hdl, hcs, HC, HT, HR, HB, hz⟩ := hrel
        by_cases hkn : k < bs.length
        · obtain ⟨hkb, hatk⟩ := Hres.out.get k (by rw [← HL.out]; exact hkn)
          obtain ⟨blk, off, rfl, hbl, hcl⟩ := Hsl.out.at_ (by simp; omega)
          have hc0 := later HB.out (hcl k (by simpa using hkn))
          rw [List.getElem_map] at hc0
          have hatk2 : ReAt (fun x => H x ∨ x = w.heap.size) wr (r.kids[k]'(by rw [← HL.out]; exact hkn)) bs[k] := (hatk.widen (fun x hx => by rcases hx with hx | hx; exact .inl hx; exact .inr (by omega))).later HB.out
          have hck : cur[k]? = some (cur[k]'(by omega)) := Array.getElem?_eq_getElem _
          have hcw := cell_of_blk HC.out hck
          have hfw := frozen_of_blk (o := k) HC.out
          have hszk : Pv.size (r.kids[k]'(by rw [← HL.out]; exact hkn)) ≤ Pv.sizes r.kids := by
            have h1 := sizes_take r.kids k (by rw [← HL.out]; exact hkn)
            have h2 := sizes_take_le r.kids (k + 1)
            omega
          have hcall := back_any n (fun x => H x ∨ x = w.heap.size) _ _ wr (by omega) hatk2 (fun h hh => by rcases hh with hh | hh; (have := hH h hh; omega); omega) (by omega)
          have Hcall := Lib.hid hcall
          have htk : (r.kids.take (k + 1)).map Pv.back = (r.kids.take k).map Pv.back ++ [Pv.back (r.kids[k]'(by rw [← HL.out]; exact hkn))] := by
            rw [List.take_succ_eq_append_getElem (by rw [← HL.out]; exact hkn), List.map_append]; rfl
          have HTK := Lib.hid htk
          clear hcall hatk2 hatk hcl htk hck
          generalize hbb : bs[k] = bk at *
          generalize hkk : (r.kids[k]'(by rw [← HL.out]; exact hkn)) = kk at *
          clear hbb hkk
          have hkn' : (k : Int) < bs.length := by omega
          have hk40 : (k : Int) < 1099511627776 := by omega
          go_wp2_with fail
          refine Hcall.out.mono ?_
          rintro e w2 ⟨b2, rfl, h2, hb2⟩
          have HC2 := Lib.hid (later_blk hb2 HC.out)
          have hcw2 := later hb2 hcw
          have hfw2 := frozen_of_blk (o := k) HC2.out
          have HR2 := Lib.hid (HR.out.later hb2)
          have HB2 := Lib.hid (HB.out.trans (hb2.mono (Nat.le_of_lt hz)))
          have H2 := Lib.hid h2
          have hz2' : w.heap.size < w2.heap.size := Nat.lt_of_lt_of_le hz hb2.size
          clear hb2 h2 hcw hfw
          go_wp2_with fail
          go_roundw
          case rel =>
            refine ⟨k + 1, cur.setIfInBounds k (Ptr b2), ds ++ [b2], by omega, by go_num, by simp; omega, by simpa using hcs, blk_set HC2.out, ?_, ?_, HB2.out.setCell (Nat.le_refl _) _, by simpa using hz2'⟩
            · show _ = _
              rw [Array.toList_setIfInBounds, List.take_succ_eq_append_getElem (by simp; omega), List.take_set, List.set_eq_of_length_le (by simp; omega), HT.out]
              simp
            · show ResAt _ _ _ _
              rw [HTK.out]
              exact ResAt.append (HR2.out.setH (.inr rfl)) (ResAt.one (H2.out.setH (.inr rfl)))
          case measure => simp [intOf]; omega
        · have e : k = bs.length := by omega
          subst e
          have hm := HB.out
          have h0' := later hm h0
          have hback : Hid (Pv.back r = Pv.withKids r (if r.op = 3 then (r.kids.map Pv.back).reverse else r.kids.map Pv.back)) := by
            have he := HE.out
            cases r with
            | mk op s ks =>
              cases ks with
              | nil => exact absurd rfl he
              | cons k ks => show _ = _; rw [Pv.back, backs_map]; rfl
          have hR := HR.out
          rw [HL.out, List.take_of_length_le (Nat.le_refl _)] at hR
          have HR3 := Lib.hid hR
          have hszs : Pv.sizes (r.kids.map Pv.back) < 549755813888 := by
            have := sizes_backs r.kids
            rw [backs_map] at this
            omega
          have Hszs := Lib.hid hszs
          clear hm hR HR
          have hsize : w.heap.size ≤ wr.heap.size := by omega
          have hwith : ∀ (w3 : World) (ks : List Pv.R) (ds3 : List Nat), Below w.heap.size w w3 → Sl w3 (some ⟨w.heap.size, 0, none⟩) bs.length (ds3.map Ptr) → ResAt (fun x => H x ∨ x = w.heap.size) w3 ks ds3 → ds3.length = bs.length → Pv.sizes ks < 549755813888 →
              MakesRe H 107 #[Ptr b, .slice (some ⟨w.heap.size, 0, none⟩) bs.length bs.length] w3 (Pv.withKids r ks) := fun w3 ks ds3 hb3 hs3 hr3 hl3 hz3 => by
            rw [show #[Ptr b, Value.slice (some ⟨w.heap.size, 0, none⟩) bs.length bs.length] = #[Ptr b, Value.slice (some ⟨w.heap.size, 0, none⟩) ds3.length bs.length] by rw [hl3]]
            exact with_any r b ks _ _ ds3 w3 (Hat.out.later hb3) hs3 (hr3.widen fun x hx => .inl (.inl hx)) (fun h hh => by have := hH h hh; have := hb3.size; omega) hz3
          have Hwith := Lib.hid hwith
          clear hwith
          by_cases e3 : r.op = 3
          · have h0'' : wr.cell? ⟨b, 0, none⟩ = some (.int .i64 3) := by rw [h0', e3]; rfl
            have h0w : w.cell? ⟨b, 0, none⟩ = some (.int .i64 3) := by rw [h0, e3]; rfl
            rw [if_pos e3] at hback
            have hrev := reverse_re w.heap.size bs.length ds wr cur HC.out hcs (by omega) (by unfold maxLen; omega) (by rw [hdl]; exact HT.out) (by omega)
            rw [hdl] at hrev
            have Hrev := Lib.hid hrev
            clear hrev h0' h0 e3
            go_wp2_with fail
            refine Hrev.out.mono ?_
            rintro e w3 ⟨rfl, hrow3, hE3, hB3⟩
            have HB3 := Lib.hid (HB.out.trans hB3)
            have hsl3 : Sl w3 (some ⟨w.heap.size, 0, none⟩) bs.length (ds.reverse.map Ptr) := by
              obtain ⟨a', c', e, hs, _⟩ := hrow3.form
              injection e with e1 _ e2
              subst e1; subst e2; exact hs
            have hr3 := ((HR3.out.hide_ (.inr rfl)).ext hE3).reverse
            have h00 := later HB3.out h0w
            have hcall := Hwith.out w3 _ _ HB3.out hsl3 hr3 (by rw [List.length_reverse]; exact hdl) (by rw [sizes_reverse]; exact Hszs.out)
            clear hrow3 hE3 hB3 hsl3 hr3
            go_wp2_with fail
            refine hcall.mono ?_
            rintro e w4 ⟨b4, rfl, h4, hb4⟩
            go_wp2_with fail
            go_ret
            refine ⟨b4, rfl, ?_, HB3.out.trans (hb4.mono HB3.out.size)⟩
            rw [hback.out]; exact h4
          · have e3' : ((r.op : Int) == 3) = false := opF e3
            rw [if_neg e3] at hback
            have hsl3 : Sl wr (some ⟨w.heap.size, 0, none⟩) bs.length (ds.map Ptr) := by
              have := Row.of_cells (base := 0) (xs := ds.map Ptr) (Nat.zero_le _) HC.out (by rw [List.length_map]; omega) (by unfold maxLen; omega) hcs (by rw [List.length_map, hdl]; exact HT.out)
              obtain ⟨a', c', e, hs, _⟩ := this.form
              cases e; exact hs
            have hcall := Hwith.out wr _ _ HB.out hsl3 HR3.out hdl Hszs.out
            clear hsl3 h0 e3
            go_wp2_with fail
            refine hcall.mono ?_
            rintro e w4 ⟨b4, rfl, h4, hb4⟩
            go_wp2_with fail
            go_ret
            refine ⟨b4, rfl, ?_, HB.out.trans (hb4.mono HB.out.size)⟩
            rw [hback.out]; exact h4
end Go.Proofs.YtbimpenhmefpeaaGreatDoor
namespace Go.Proofs.YtbimpenhmefpeaaGreatDoor
open Go.RowKit
variable {H : Nat → Prop}

/-- a byte's value -/
abbrev U8 (b : UInt8) : Value := .int .u8 (b.toNat : Int)
theorem of_take (l : List UInt8) (k : Nat) (h : k < l.length) : Pv.S4.of (l.take (k + 1)) = (Pv.S4.of (l.take k)).add l[k].toNat := by
  rw [List.take_succ_eq_append_getElem h]; unfold Pv.S4.of; rw [List.foldl_append]; rfl

theorem shl_one (n : Nat) (h : n < 64) : IntKind.u64.wrap (2 ^ n) = (((1 : BitVec 64) <<< n).toNat : Int) := by
  have : ∀ n : Fin 64, IntKind.u64.wrap (2 ^ n.val) = (((1 : BitVec 64) <<< n.val).toNat : Int) := by decide +kernel
  exact this ⟨n, h⟩
set_option maxRecDepth 20000 in
set_option maxHeartbeats 2000000 in
theorem of_any (l : List UInt8) (a : Option Addr) (c : Nat) (w : World) (hs : Sl w a c (l.map U8)) (hl : l.length < 1099511627776) : GivesSet 45 #[.slice a l.length c] w (Pv.S4.of l) := by
  have Hs := Lib.hid hs
  clear hs
  go_enter Tryz.func45, Tryz.ntmps45
  go_wp2_with fail
  go_loopw [8] (fun i wr => ∃ k : Nat, k ≤ l.length ∧ i = .int .i64 k ∧ Hid (wr.heap[w.heap.size]? = some (.cells (S4C Pv.S4.zero) 85)) ∧
     Hid (wr.heap[w.heap.size + 1]? = some (.cells (S4C (Pv.S4.of (l.take k))) 85)) ∧ Hid (Below w.heap.size w wr) ∧ w.heap.size + 1 < wr.heap.size) (fun i _ => (l.length - intOf i).toNat)
  case atStart =>
    exact ⟨0, by omega, rfl, blk_old (blk_new rfl), blk_new (by simp), ((Below.refl _ _).alloc (Nat.le_refl _) _).alloc (by simp) _, by simp⟩
  case round =>
    obtain ⟨k, hk, rfl, H0, H1, HB, hz⟩ := hrel
    by_cases hkn : k < l.length
    · obtain ⟨blk, off, rfl, hbl, hcs⟩ := Hs.out.at_ (by simp; omega)
      have hc0 := later HB.out (hcs k (by simpa using hkn))
      rw [List.getElem_map] at hc0
      replace hc0 : wr.cell? ⟨blk, off + k, none⟩ = some (.int .u8 (l[k].toNat : Int)) := hc0
      have ht := of_take l k hkn
      have HT := Lib.hid ht
      clear ht hcs
      generalize Pv.S4.of (l.take k) = s at *
      have hb := l[k].toNat_lt
      generalize hbb : l[k].toNat = b at *
      have hb' : b < 256 := by omega
      clear hbb hb
      have h4 : b / 64 < 4 := by omega
      have hw := cell_of_blk H1.out (word_get s (b / 64) h4)
      have hf := frozen_of_blk (o := b / 64) H1.out
      have hkn' : (k : Int) < l.length := by omega
      have hk40 : (k : Int) < 1099511627776 := by omega
      go_wp2
      have hor : bits BinOp.or IntKind.u64 ((s.word (b / 64)).toNat : Int) (IntKind.u64.wrap (2 ^ (b % 64))) = ((s.word (b / 64) ||| ((1 : BitVec 64) <<< (b % 64))).toNat : Int) := by
        rw [shl_one _ (Nat.mod_lt _ (by omega)), bits_or]
      rw [hor]
      refine ⟨⟨k + 1, by omega, by go_num, ?_, ?_, HB.out.setCell (by show _ ≤ w.heap.size + 1; omega) _, by simpa using hz⟩, by simp [intOf]; omega⟩
      · exact keep_set (w := wr) H0.out (by omega)
      · show _ = _
        rw [HT.out]
        show _ = some (Obj.cells (S4C (s.setWord (b / 64) (s.word (b / 64) ||| ((1 : BitVec 64) <<< (b % 64))))) _)
        rw [← word_set s (b / 64) h4]
        exact blk_set (w := wr) H1.out
    · have e : k = l.length := by omega
      subst e
      have h1 := H1.out
      rw [List.take_length] at h1
      have a0 := cell_of_blk (o := 0) h1 rfl
      have a1 := cell_of_blk (o := 1) h1 rfl
      have a2 := cell_of_blk (o := 2) h1 rfl
      have a3 := cell_of_blk (o := 3) h1 rfl
      have b0 := cell_of_blk (o := 0) H0.out rfl
      have b1 := cell_of_blk (o := 1) H0.out rfl
      have b2 := cell_of_blk (o := 2) H0.out rfl
      have b3 := cell_of_blk (o := 3) H0.out rfl
      have f0 := frozen_of_blk (o := 0) H0.out
      have f1 := frozen_of_blk (o := 1) H0.out
      have f2 := frozen_of_blk (o := 2) H0.out
      have f3 := frozen_of_blk (o := 3) H0.out
      clear H1 h1
      go_wp2_with fail
      refine bodyPost_ret (v := S4V (Pv.S4.of l)) ?_ rfl ⟨rfl, ?_⟩
      · simp [results, Tryz.results45, go_sem, b0, b1, b2, b3]
      · exact (((HB.out.setCell (Nat.le_refl _) _).setCell (Nat.le_refl _) _).setCell (Nat.le_refl _) _).setCell (Nat.le_refl _) _
end Go.Proofs.YtbimpenhmefpeaaGreatDoor
namespace Go.Proofs.YtbimpenhmefpeaaGreatDoor
open Go.RowKit
variable {H : Nat → Prop}

theorem kids_one (s : Pv.S4) : (Pv.one s).kids = [] := by unfold Pv.one; split <;> rfl
theorem sizes_ones : ∀ l : List UInt8, Pv.sizes (l.map fun b => Pv.one (Pv.S4.of [b])) = l.length
  | [] => rfl
  | b :: l => by rw [List.map_cons, Pv.sizes, sizes_ones l, size_one]; simp; omega

set_option maxRecDepth 20000 in
set_option maxHeartbeats 2000000 in
theorem word_any (l : List UInt8) (w : World) (hH : ∀ h, H h → h < w.heap.size) (hl : l.length < 549755813888) : MakesRe H 19 #[Str l] w (Pv.word l) := by
  obtain ⟨i0, hi, hz0, hz1, hz2⟩ := info_parts info_re
  have hconv := run_bytes_of_string (P := Tryz.prog) w 9 113 5 ⟨l.toArray⟩ Tryz.underlying9 Tryz.underlying113 Tryz.underlying5
  have Hconv := Lib.hid hconv
  clear hconv
  go_enter Tryz.func19, Tryz.ntmps19
  go_wp2_with fail
  rw [Hconv.out]
  clear Hconv
  have hsz : (⟨l.toArray⟩ : ByteArray).size = l.length := by simp [ByteArray.size]
  rw [hsz]
  have hcells : ∀ (cap : Nat) (fr : Nat × Nat) (k : Nat) (h : k < l.length), (w.drew.alloc (.cells (bytesRow ⟨l.toArray⟩ cap) 5 fr)).cell? ⟨w.heap.size, k, none⟩ = some (.int .u8 (l[k].toNat : Int)) := fun cap fr k h => by
    refine cell_of_blk (blk_new rfl) ?_
    have := bytesRow_at ⟨l.toArray⟩ cap k (by simpa using h)
    simpa using this
  have hB0 : ∀ (cap : Nat) (fr : Nat × Nat), Below w.heap.size w (w.drew.alloc (.cells (bytesRow ⟨l.toArray⟩ cap) 5 fr)) := fun cap fr => ((Below.refl _ _).drew).alloc (Nat.le_refl _) _
  have hz0' : ∀ (cap : Nat) (fr : Nat × Nat), (w.drew.alloc (.cells (bytesRow ⟨l.toArray⟩ cap) 5 fr)).heap.size = w.heap.size + 1 := fun cap fr => by simp
  replace hcells := hcells (grownCap w l.length 0 5) ((bytesRow ⟨l.toArray⟩ (grownCap w l.length 0 5)).size, (bytesRow ⟨l.toArray⟩ (grownCap w l.length 0 5)).size + 1)
  replace hB0 := hB0 (grownCap w l.length 0 5) ((bytesRow ⟨l.toArray⟩ (grownCap w l.length 0 5)).size, (bytesRow ⟨l.toArray⟩ (grownCap w l.length 0 5)).size + 1)
  replace hz0' := hz0' (grownCap w l.length 0 5) ((bytesRow ⟨l.toArray⟩ (grownCap w l.length 0 5)).size, (bytesRow ⟨l.toArray⟩ (grownCap w l.length 0 5)).size + 1)
  generalize w.drew.alloc (.cells (bytesRow ⟨l.toArray⟩ (grownCap w l.length 0 5)) 5 ((bytesRow ⟨l.toArray⟩ (grownCap w l.length 0 5)).size, (bytesRow ⟨l.toArray⟩ (grownCap w l.length 0 5)).size + 1)) = w1 at *
  generalize grownCap w l.length 0 5 = cap at *
  have HC := Lib.hid hcells
  have HB0 := Lib.hid hB0
  clear hcells hB0 hz0' hsz
  go_simp
  go_wp2_with fail
  go_loopw [3, 9] (fun v i wr => ∃ (k : Nat) (ps : List (Nat × Pv.R)), k ≤ l.length ∧ i = .int .i64 k ∧ ps.length = k ∧ Hid (Row w1.heap.size 23 wr v (vals ps)) ∧ Hid (∀ x ∈ ps, x.2.kids = [] ∧ ReAt H wr x.2 x.1) ∧
     Hid (ps.map (·.2) = (l.take k).map fun b => Pv.one (Pv.S4.of [b])) ∧ Hid (Below w1.heap.size w1 wr)) (fun _ i _ => (l.length - intOf i).toNat)
  case atStart => exact ⟨0, [], by omega, rfl, rfl, Row.nil _ _ _, (show ∀ x ∈ ([] : List (Nat × Pv.R)), _ from fun x hx => by cases hx), rfl, Below.refl _ _⟩
  case round =>
    obtain ⟨k, ps, hk, rfl, hpl, HR, HP, HM, HB⟩ := hrel
    by_cases hkn : k < l.length
    · have hc0 := later HB.out (HC.out k hkn)
      have htk : (l.take (k + 1)).map (fun b => Pv.one (Pv.S4.of [b])) = (l.take k).map (fun b => Pv.one (Pv.S4.of [b])) ++ [Pv.one (Pv.S4.of [l[k]])] := by
        rw [List.take_succ_eq_append_getElem hkn, List.map_append]; rfl
      have HTK := Lib.hid htk
      have hof : ∀ wx, wx.heap[wr.heap.size]? = some (.cells #[.int .u8 (l[k].toNat : Int)] 5) → GivesSet 45 #[.slice (some ⟨wr.heap.size, 0, none⟩) 1 1] wx (Pv.S4.of [l[k]]) := fun wx hx =>
        of_any [l[k]] _ 1 wx (Sl.of_blk (xs := [U8 l[k]]) hx) (by simp)
      have Hof := Lib.hid hof
      clear htk hof
      generalize l[k].toNat = nb at *
      generalize Pv.S4.of [l[k]] = sb at *
      have hkn' : (k : Int) < l.length := by omega
      have hk40 : (k : Int) < 1099511627776 := by omega
      go_wp2_with fail
      refine (Hof.out _ (blk_new rfl)).mono ?_
      rintro e w2 ⟨rfl, hb2⟩
      have hbA : Below wr.heap.size wr w2 := ((Below.refl _ _).alloc (Nat.le_refl _) _).trans (hb2.mono (by simp))
      have HA := Lib.hid hbA
      clear hb2 hbA
      have hs1 := HB0.out.size
      have hs2 := HB.out.size
      go_wp2_with fail
      refine (one_any (H := H) sb w2 (fun h hh => by have := hH h hh; have := HA.out.size; omega)).mono ?_
      rintro e w3 ⟨b3, rfl, h3, hb3⟩
      have HA3 := Lib.hid (HA.out.trans (hb3.mono HA.out.size))
      have HB3 := Lib.hid (HB.out.trans (HA3.out.mono HB.out.size))
      have HR3 := Lib.hid (HR.out.later HA3.out)
      have H3 := Lib.hid h3
      clear hb3 h3
      have hk1 := kids_one sb
      generalize Pv.one sb = y at *
      go_wp2_with (at_builtin; refine app1 _ _ i0 _ 8 Tryz.underlying94 hi hz0 hz1 hz2 rfl (by omega) rfl _ _ rfl w1.heap.size _ _ rfl (HR3.out.alloc _) w3.heap.size _ rfl (blk_new rfl) rfl ?c1 (by have := HB3.out.size; simp; omega) ?c2)
      case c1 => first | omega | (rw [List.length_map]; omega)
      case c2 =>
        intro v4 w4 hr4 hb4 hg4
        have A1 := Lib.hid ((HB3.out.alloc HB3.out.size (.cells #[Ptr b3] 23)).trans hb4)
        have A2 : Hid (Row w1.heap.size 23 w4 v4 (vals (ps ++ [(b3, y)]))) := by rw [vals, List.map_append]; exact hr4
        have A3 : Hid (∀ x ∈ ps ++ [(b3, y)], x.2.kids = [] ∧ ReAt H w4 x.2 x.1) := fun x hx => by
          rcases List.mem_append.1 hx with hx | hx
          · obtain ⟨q1, q2⟩ := HP.out x hx
            exact ⟨q1, one_app HR3.out q1 (q2.later HA3.out) hg4⟩
          · rw [List.mem_singleton.1 hx]; exact ⟨hk1, one_app HR3.out hk1 H3.out hg4⟩
        clear hr4 hb4 hg4
        go_wp2_with fail
        go_roundw
        case rel =>
          refine ⟨k + 1, ps ++ [(b3, y)], by omega, by go_num, by simp; omega, A2.out, A3.out, ?_, A1.out⟩
          show _ = _
          rw [HTK.out, List.map_append, HM.out]; rfl
        case measure => simp [intOf]; omega
    · have e : k = l.length := by omega
      subst e
      have hm := HM.out
      rw [List.take_length] at hm
      have hs1 := HB0.out.size
      have hs2 := HB.out.size
      obtain ⟨a, c, rfl, hsl, _⟩ := HR.out.form
      have hprs : Prs H wr ps := fun x hx => (HP.out x hx).2
      have hres := hprs.res
      have hsz3 : Pv.sizes (ps.map (·.2)) < 549755813888 := by rw [hm, sizes_ones]; exact hl
      have hsl3 : Sl wr a c ((ps.map (·.1)).map Ptr) := by rw [List.map_map]; exact hsl
      have hcat := cat_any (H := H) (ps.map (·.2)) a c (ps.map (·.1)) wr hsl3 hres (fun h hh => by have := hH h hh; omega) hsz3
      rw [List.length_map, hm, hpl] at hcat
      rw [List.length_map, hpl]
      have Hcat := Lib.hid hcat
      have HBw := Lib.hid (HB0.out.trans (HB.out.mono hs1))
      clear hres hsl hsl3 hprs hcat hm hsz3
      go_wp2_with fail
      refine Hcat.out.mono ?_
      rintro e w3 ⟨b, rfl, h, hb3⟩
      go_wp2_with fail
      go_ret
      exact ⟨b, rfl, h, HBw.out.trans (hb3.mono HBw.out.size)⟩
end Go.Proofs.YtbimpenhmefpeaaGreatDoor
namespace Go.Proofs.YtbimpenhmefpeaaGreatDoor
open Go.RowKit
variable {H : Nat → Prop}

/-- where a row lies behind append: where it lay, or in a new block -/
def Moved (w : World) (v v' : Value) : Prop := v'.ownBlock = v.ownBlock ∨ ∃ g, v'.ownBlock = some g ∧ w.heap.size ≤ g
theorem append_moved {P : Program} {w : World} {t ty e : TypeId} {i : TypeInfo} {z : Value} (ht : P.underlying t = some (.slice e)) (hi : P.info? e = some i) (hz : i.zero = some z) (hsize : i.size = 1) (hbm : i.bytes ≤ 64)
    {base : Nat} {v : Value} {xs : List Value} (hown : Row base e w v xs) {g : Nat} {u : Value} (hg : w.heap[g]? = some (.cells #[u] e)) (hu : u.oneCell' = true) (hlen : xs.length < 1099511627776)
    {v' : Value} {w' : World} (h : (Builtin.append_ #[t, t] ty #[v, .slice (some ⟨g, 0, none⟩) 1 1]).run P w = .ok v' w') : Moved w v v' := by
  have hnews : ∀ j q, [u][j]? = some q → w.cell? ((⟨g, 0, none⟩ : Addr).add j) = some q := fun j q hj => by
    match j, hj with
    | 0, hj => simp at hj; subst hj; exact cell_of_blk (cs := #[u]) (o := 0) hg rfl
  have hb2 : (xs.length + 1) * i.bytes ≤ 140737488355328 := Nat.le_trans (Nat.mul_le_mul (Nat.succ_le_of_lt hlen) hbm) (by decide)
  rcases hown.blk with ⟨rfl, e0⟩ | ⟨g0, cap, cur, rfl, hg0, hh, hn, hc, hs, htk⟩
  · have hr := run_append_nil (P := P) (w := w) t ty e i z ht hi hz ⟨g, 0, none⟩ 1 1 [u] (by rw [hsize]; rfl) hnews (by omega) (by omega) (by omega)
    rw [h] at hr
    injection hr with e1 e2
    subst e1
    exact .inr ⟨_, rfl, Nat.le_refl _⟩
  · by_cases hroom : xs.length + 1 ≤ cap
    · obtain ⟨w2, hr, _⟩ := run_append_fits (P := P) w base t ty e i 1 ht hi hsize g0 xs.length cap xs hown ⟨g, 0, none⟩ 1 1 [u] rfl hnews (by simpa using hu) hroom
      rw [h] at hr
      injection hr with e1 e2
      subst e1
      exact .inl rfl
    · have holds : ∀ j q, xs[j]? = some q → w.cell? ((⟨g0, 0, none⟩ : Addr).add j) = some q := fun j q hj => by
        have hj' : j < xs.length := (List.getElem?_eq_some_iff.1 hj).1
        have : (⟨g0, 0, none⟩ : Addr).add j = ⟨g0, j, none⟩ := by unfold Addr.add; split <;> simp_all
        rw [this]
        refine cell_of_blk hh ?_
        rw [← htk, List.getElem?_take, if_pos hj'] at hj
        simpa using hj
      have hr := run_append_grow (P := P) (w := w) t ty e i z ht hi hz ⟨g0, 0, none⟩ xs.length cap xs (by rw [hsize]; simp) holds ⟨g, 0, none⟩ 1 1 [u] (by rw [hsize]; rfl) hnews (by omega) (by omega) (growslice_fits (by omega) hb2)
      rw [h] at hr
      injection hr with e1 e2
      subst e1
      exact .inr ⟨_, rfl, Nat.le_refl _⟩
/-- append of one element that a block of its own holds -/
theorem app1x {P : Program} {w : World} {ops : Array Oper} {rest : List Oper} {o : Oper} {a : Act} {Q : Exit → Act → World → Prop} (t e : TypeId) (i : TypeInfo) (z : Value) (bytes : Nat)
    (ht : P.underlying t = some (.slice e)) (hi : P.info? e = some i) (hz : i.zero = some z) (hsize : i.size = 1) (hby : i.bytes = bytes) (hzs : z.cells.size = 1) (hbm : bytes ≤ 64)
    (hgd : o.guard = none) (s x : Operand) (ho : o.op = .call { callee := .builtin .append, args := #[s, x], argTypes := #[t, t] })
    (base : Nat) (v : Value) (xs : List Value) (hs : a.eval s = v) (hown : Row base e w v xs)
    (g : Nat) (u : Value) (hx : a.eval x = .slice (some ⟨g, 0, none⟩) 1 1) (hg : w.heap[g]? = some (.cells #[u] e)) (hu : u.oneCell' = true)
    (hlen : xs.length < 1099511627776) (hbase : base ≤ w.heap.size)
    (h : ∀ v' w', Row base e w' v' (xs ++ [u]) → Below base w w' → w.grownBy w' v.ownBlock → Moved w v v' → wpList P ops Q rest (a.put o.dst v') w') : wpList P ops Q (o :: rest) a w := by
  subst hby
  have hb2 : (xs.length + 1) * i.bytes ≤ 140737488355328 := Nat.le_trans (Nat.mul_le_mul (Nat.succ_le_of_lt hlen) hbm) (by decide)
  have hnews : ∀ j q, [u][j]? = some q → w.cell? ((⟨g, 0, none⟩ : Addr).add j) = some q := fun j q hj => by
    match j, hj with
    | 0, hj => simp at hj; subst hj; exact cell_of_blk (cs := #[u]) (o := 0) hg rfl
  obtain ⟨v', w', hrun, hr, hgr, _⟩ := run_append_own (P := P) w base t o.type e i z 1 i.bytes ht hi hz hsize rfl hzs (by omega) v xs.length xs hown ⟨g, 0, none⟩ 1 1 [u] rfl hnews (by simpa using hu) (by unfold maxLen; omega) hb2 hbase
  have hmv := append_moved (ty := o.type) ht hi hz hsize hbm hown hg hu hlen hrun
  refine wpList_plain hgd fun K hK => ?_
  unfold Oper.wp
  simp [execOp, ho, resolve, invoke, builtin, hs, hx, hrun, Result.andThen]
  refine hK _ _ (h v' w' ?_ (Below.of_grown hown hgr hbase) hgr hmv)
  have e0 : (xs ++ [u]).length = xs.length + 1 := by simp
  unfold Row
  rw [e0]; exact hr
/-- blocks that aren't of the elements: others, and the row's own -/
abbrev own (H : Nat → Prop) (v : Value) : Nat → Prop := fun x => H x ∨ v.ownBlock = some x
theorem ReAt.moved {w w2 : World} {v v' : Value} {r : Pv.R} {b : Nat} {o : Obj} (h : ReAt (own H v) w r b) (hg : (w.alloc o).grownBy w2 v.ownBlock) (hm : Moved (w.alloc o) v v') : ReAt (own H v') w2 r b := by
  have h1 : ReAt (fun x => H x ∨ v.ownBlock = some x ∨ v'.ownBlock = some x) w r b := h.widen fun x hx => by
    rcases hx with hx | hx | hx
    · exact .inl (.inl hx)
    · exact .inl (.inr hx)
    · rcases hm with hm | ⟨g, e, hm⟩
      · exact .inl (.inr (by rw [← hm]; exact hx))
      · rw [e] at hx; injection hx with hx; subst hx; right; simp at hm; omega
  have hsz := hg.size
  have h2 : ReAt (fun x => H x ∨ v.ownBlock = some x ∨ v'.ownBlock = some x) w2 r b := by
    rcases Option.eq_none_or_eq_some v.ownBlock with hv | ⟨g, hv⟩
    · refine h1.ext (w' := w2) ⟨by simp at hsz; omega, fun b cs t fr q _ => ?_⟩
      have := blk_lt q
      rw [hg.block b (by simp; omega) (by rw [hv]; simp), blk_alloc, if_neg (by omega)]; exact q
    · refine (h1.hide_ (g := g) (.inr (.inl hv))).ext (w' := w2) ⟨by rw [hide_size]; simp at hsz; omega, fun b cs t fr q hp => ?_⟩
      obtain ⟨q1, q2⟩ := hide_cells q hp
      have := blk_lt q2
      rw [hg.block b (by simp; omega) (by rw [hv]; intro e; injection e with e; exact q1 e), blk_alloc, if_neg (by omega)]; exact q2
  exact h2.widen fun x hx => .inl (by rcases hx with hx | hx; exact .inl hx; exact .inr (.inr hx))
end Go.Proofs.YtbimpenhmefpeaaGreatDoor
namespace Go.Proofs.YtbimpenhmefpeaaGreatDoor
open Go.RowKit

theorem info_set : (Tryz.prog.info? 85).map (fun i => (i.zero, i.size, i.bytes)) = some (some (.agg #[.int .u64 0, .int .u64 0, .int .u64 0, .int .u64 0]), 4, 32) := by kernel_rfl
abbrev cells4 (s : Pv.S4) : List Value := [W64 s.a, W64 s.b, W64 s.c, W64 s.d]
/-- a row of sets of the call's own -/
def RowS (base : Nat) (w : World) (v : Value) (ss : List Pv.S4) : Prop := w.ownsRow base 85 4 v ss.length (ss.flatMap cells4)
theorem RowS.nil (base : Nat) (w : World) : RowS base w (.slice none 0 0) [] := World.ownsRow_nil _ _ _ _
/-- a slice's cells that hold sets -/
structure SlS (w : World) (a : Option Addr) (c : Nat) (ss : List Pv.S4) : Prop where
  le : ss.length ≤ c
  nil_ : a = none → c = 0
  cell : ∀ i (h : i < ss.length), ∃ blk off, a = some ⟨blk, off, none⟩ ∧ ∀ j, j < 4 → w.cell? ⟨blk, off + 4 * i + j, none⟩ = some (W64 (ss[i].word j))
theorem SlS.later {w w' : World} {a : Option Addr} {c : Nat} {ss : List Pv.S4} (h : SlS w a c ss) (hb : Below w.heap.size w w') : SlS w' a c ss :=
  ⟨h.1, h.2, fun i hi => let ⟨b, o, e, hc⟩ := h.3 i hi; ⟨b, o, e, fun j hj => Go.Proofs.YtbimpenhmefpeaaGreatDoor.later hb (hc j hj)⟩⟩
theorem SlS.nil (w : World) : SlS w none 0 [] := ⟨Nat.zero_le _, fun _ => rfl, fun _ h => by cases h⟩
theorem flat_len4 : ∀ ss : List Pv.S4, (ss.flatMap cells4).length = ss.length * 4
  | [] => rfl
  | s :: ss => by rw [List.flatMap_cons, List.length_append, flat_len4 ss]; simp; omega
theorem flat_get4 : ∀ (ss : List Pv.S4) (i j : Nat) (h : i < ss.length), j < 4 → (ss.flatMap cells4)[4 * i + j]? = some (W64 (ss[i].word j))
  | [], _, _, h, _ => by cases h
  | s :: ss, 0, j, _, hj => by
    rw [List.flatMap_cons, Nat.mul_zero, Nat.zero_add, List.getElem?_append_left (by simpa using hj)]
    exact word_getL s j hj
  | s :: ss, i + 1, j, h, hj => by
    rw [List.flatMap_cons, List.getElem?_append_right (by simp; omega)]
    have := flat_get4 ss i j (by simpa using h) hj
    simpa [Nat.mul_add, Nat.add_right_comm, show 4 * i + 4 + j - 4 = 4 * i + j by omega] using this
theorem RowS.form {base : Nat} {w : World} {v : Value} {ss : List Pv.S4} (h : RowS base w v ss) : ∃ a c, v = .slice a ss.length c ∧ SlS w a c ss := by
  obtain ⟨h1, h2⟩ := h
  rcases h2 with ⟨rfl, h0⟩ | ⟨g, cap, cur, rfl, hg, hh, hn, hc, hs, ht⟩
  · have : ss = [] := List.length_eq_zero_iff.1 h0
    subst this
    exact ⟨none, 0, rfl, SlS.nil _⟩
  · refine ⟨some ⟨g, 0, none⟩, cap, rfl, hn, (fun h => by cases h), fun i hi => ⟨g, 0, rfl, fun j hj => ?_⟩⟩
    rw [Nat.zero_add]
    have e1 := flat_get4 ss i j hi hj
    rw [← ht, List.getElem?_take] at e1
    split at e1
    · exact cell_of_blk hh (by simpa using e1)
    · cases e1

theorem flat_mem4 {ss : List Pv.S4} {u : Value} (h : u ∈ ss.flatMap cells4) : u.oneCell' = true := by
  obtain ⟨s, _, h⟩ := List.mem_flatMap.1 h
  simp only [cells4, List.mem_cons, List.not_mem_nil, or_false] at h
  rcases h with rfl | rfl | rfl | rfl <;> rfl
theorem RowS.below {base : Nat} {w w' : World} {v : Value} {ss : List Pv.S4} (h : RowS base w v ss) (hg : w.grownBy w' v.ownBlock) (hb : base ≤ w.heap.size) : Below base w w' := by
  refine (Below.refl base w).grown hg hb fun k hk => ?_
  obtain ⟨_, h2⟩ := h
  rcases h2 with ⟨rfl, _⟩ | ⟨g, cap, cur, rfl, hg', _⟩
  · cases hk
  · cases hk; exact hg'
theorem RowS.later {base : Nat} {w w' : World} {v : Value} {ss : List Pv.S4} (h : RowS base w v ss) (hb : Below w.heap.size w w') : RowS base w' v ss := by
  obtain ⟨h1, h2⟩ := h
  refine ⟨h1, ?_⟩
  rcases h2 with h2 | ⟨g, cap, cur, hv, hg, hh, r⟩
  · exact .inl h2
  · exact .inr ⟨g, cap, cur, hv, hg, by rw [hb.block g (blk_lt hh)]; exact hh, r⟩
/-- append of a slice of sets -/
theorem appSS {w : World} {ops : Array Oper} {rest : List Oper} {o : Oper} {a : Act} {Q : Exit → Act → World → Prop}
    (hgd : o.guard = none) (s x : Operand) (ho : o.op = .call { callee := .builtin .append, args := #[s, x], argTypes := #[189, 189] })
    (base : Nat) (v : Value) (ss : List Pv.S4) (hs : a.eval s = v) (hown : RowS base w v ss)
    (sa : Option Addr) (n c : Nat) (ts : List Pv.S4) (hn : ts.length = n) (hx : a.eval x = .slice sa n c) (hsl : SlS w sa c ts)
    (hlen : ss.length + n < 1099511627776) (hbase : base ≤ w.heap.size)
    (h : ∀ v' w', RowS base w' v' (ss ++ ts) → Below base w w' → w.grownBy w' v.ownBlock → wpList Tryz.prog ops Q rest (a.put o.dst v') w') : wpList Tryz.prog ops Q (o :: rest) a w := by
  subst hn
  obtain ⟨i, hi, hz0, hz1, hz2⟩ := info_parts info_set
  have hb2 : (ss.length + ts.length) * 32 ≤ 140737488355328 := by omega
  cases sa with
  | none =>
    have h0 := hsl.nil_ rfl
    have h1 := hsl.le
    have : ts = [] := List.length_eq_zero_iff.1 (by omega)
    subst this; subst h0
    refine wpList_append_own_none hgd s x 189 ho base 85 i 4 Tryz.underlying189 hi v ss.length (ss.flatMap cells4) hs hown hx ?_
    exact h v w (by simpa using hown) (Below.refl _ _) (grown_refl _ _)
  | some ad =>
    refine wpList_append_own _ hgd s x 189 ho base 85 i _ 4 32 Tryz.underlying189 hi hz0 hz1 hz2 rfl (by omega) v ss.length (ss.flatMap cells4) hs hown ad ts.length c (ts.flatMap cells4) hx (flat_len4 ts) ?_ (fun u hu => flat_mem4 hu) (by unfold maxLen; omega) hb2 hbase ?_
    · intro j q hj
      have hlt := (List.getElem?_eq_some_iff.1 hj).1
      rw [flat_len4] at hlt
      obtain ⟨b, o', e1, hc⟩ := hsl.cell (j / 4) (by omega)
      cases e1
      have e2 := flat_get4 ts (j / 4) (j % 4) (by omega) (Nat.mod_lt _ (by omega))
      rw [Nat.div_add_mod] at e2
      rw [hj] at e2
      have := hc (j % 4) (Nat.mod_lt _ (by omega))
      rw [Nat.add_assoc, Nat.div_add_mod] at this
      rw [add_none, this, e2]
    · intro v' w' hr hgr _
      refine h v' w' ?_ (hown.below hgr hbase) hgr
      unfold RowS
      rw [List.length_append, List.flatMap_append]; exact hr
end Go.Proofs.YtbimpenhmefpeaaGreatDoor
