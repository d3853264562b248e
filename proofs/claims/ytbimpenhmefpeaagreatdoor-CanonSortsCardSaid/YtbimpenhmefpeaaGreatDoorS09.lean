/- The walks of package re: Any, Both, Many, But. -/
import Derived.Test.YtbimpenhmefpeaaGreatDoorS08
set_option linter.all false
namespace Go.Proofs.YtbimpenhmefpeaaGreatDoor
open Go.RowKit
variable {H : Nat → Prop}

theorem sizes_compact : ∀ l : List Pv.R, Pv.sizes (Pv.compact l) ≤ Pv.sizes l
  | [] => Nat.le_refl _
  | r :: l => by
    have h := sizes_compact l
    rw [Pv.compact]
    split
    · rw [Pv.sizes, Pv.sizes, Pv.sizes]; omega
    · rename_i x m e
      rw [e, Pv.sizes] at h
      split
      · rw [Pv.sizes, Pv.sizes]; omega
      · rw [Pv.sizes, Pv.sizes, Pv.sizes]; omega
theorem sizes_unique (l : List Pv.R) : Pv.sizes (Pv.unique l) ≤ Pv.sizes l := by
  unfold Pv.unique
  exact Nat.le_trans (sizes_compact _) (Nat.le_of_eq (sizes_perm (Pv.isort_perm l)))
theorem size_one (s : Pv.S4) : Pv.size (Pv.one s) = 1 := by unfold Pv.one; split <;> rfl
theorem sizes_joinGo (F : Pv.S4 → Pv.S4 → Pv.S4) : ∀ (l out : List Pv.R) (o : Option Pv.R), Pv.sizes (Pv.joinGo F l out o) ≤ Pv.sizes l + Pv.sizes out + Pv.sizes o.toList
  | [], out, o => by
    rw [Pv.joinGo]
    refine Nat.le_trans (sizes_unique _) ?_
    rw [sizes_app]; simp [Pv.sizes]
  | r :: l, out, none => by
    have hr := size_pos r
    have h := sizes_joinGo F l out (some r)
    have h2 := sizes_joinGo F l (out ++ [r]) none
    rw [sizes_app] at h2
    simp only [Pv.joinGo, Option.toList, Pv.sizes] at h h2 ⊢
    split <;> omega
  | r :: l, out, some x => by
    have hr := size_pos r
    have hx := size_pos x
    have h := sizes_joinGo F l out (some (Pv.one (F x.set r.set)))
    have h1 := size_one (F x.set r.set)
    have h2 := sizes_joinGo F l (out ++ [r]) (some x)
    have h3 := sizes_app out [Pv.one (F x.set r.set)]
    rw [sizes_app] at h2
    simp only [Pv.joinGo, Option.toList, Pv.sizes] at h h2 h3 ⊢
    split
    · split <;> omega
    · omega
theorem sizes_join (op : Nat) (l : List Pv.R) (F : Pv.S4 → Pv.S4 → Pv.S4) : Pv.sizes (Pv.join op l F) ≤ Pv.sizes l := by
  unfold Pv.join
  have h := sizes_joinGo F (Pv.flat op l) [] none
  have h2 := sizes_flat op l
  simp only [Option.toList, Pv.sizes] at h
  omega
theorem Row.ha {base e c n : Nat} {w : World} {a : Option Addr} {xs : List Value} (h : Row base e w (.slice a n c) xs) (hH : ∀ x, H x → x < base) : ∀ blk off, a = some ⟨blk, off, none⟩ → ¬ H blk ∧ blk < w.heap.size := by
  intro blk off e
  subst e
  have := h.own blk rfl
  refine ⟨fun hh => by have := hH _ hh; omega, ?_⟩
  rcases h.blk with ⟨e, _⟩ | ⟨g, cap, cur, e, _, hg, _⟩
  · cases e
  · cases e; exact blk_lt hg
theorem asks_null : AsksRe H 64 Pv.null := fun W r b h => by
  refine (null_any r b W h).mono ?_
  rintro e w' ⟨rfl, rfl⟩
  exact ⟨rfl, rfl⟩
theorem enters_or : Enters Tryz.prog 87 := enters_of Tryz.func87 (by kernel_rfl) rfl
theorem enters_and : Enters Tryz.prog 93 := enters_of Tryz.func93 (by kernel_rfl) rfl

set_option maxRecDepth 20000 in
set_option maxHeartbeats 2000000 in
theorem any_any (l : List Pv.R) (a : Option Addr) (c : Nat) (bs : List Nat) (w : World) (hs : Sl w a c (bs.map Ptr)) (hk : ResAt H w l bs) (hH : ∀ h, H h → h < w.heap.size) (hsz : Pv.sizes l < 549755813888) :
    MakesRe H 50 #[.slice a bs.length c] w (Pv.any l) := by
  have hjoin := joinl_any 4 87 enters_or Pv.S4.or or_any l a c bs w hs hk hH hsz
  have hsj := sizes_join 4 l Pv.S4.or
  clear hs hk
  go_enter Tryz.func50, Tryz.ntmps50
  go_wp2_with fail
  refine hjoin.mono ?_
  rintro e w1 ⟨v1, ps, rfl, hps1, hX, hB⟩
  have hpl : ps.length < 1099511627776 := by
    have := sizes_len (ps.map (·.2))
    rw [List.length_map, hps1] at this
    omega
  have hdel := delete_any 88 (enters_of Tryz.func88 (by kernel_rfl) rfl) (fun r => r.op == 0) asks_none ps w.heap.size v1 w1 hX hB.size hpl
  have HB := Lib.hid hB
  clear hjoin hX hB
  go_wp2_with fail
  refine hdel.mono ?_
  rintro e w2 ⟨v2, rfl, hv, hr2, hE2, hB2⟩
  have HB2 := Lib.hid (HB.out.trans hB2)
  have hcat : Pv.any l = Pv.anyOf ((ps.filter fun x => !(x.2.op == 0)).map (·.2)) := by
    unfold Pv.any
    rw [← hps1, List.filter_map]; rfl
  have hsz2 : Pv.sizes ((ps.filter fun x => !(x.2.op == 0)).map (·.2)) < 549755813888 := by
    have hsd := sizes_filter (fun r => !(r.op == 0)) (ps.map (·.2))
    rw [List.filter_map] at hsd
    rw [← hps1] at hsj
    exact Nat.lt_of_le_of_lt hsd (Nat.lt_of_le_of_lt hsj hsz)
  generalize (ps.filter fun x => !(x.2.op == 0)) = qs at hr2 hsz2 hcat
  have Hcat := Lib.hid hcat
  obtain ⟨hrow, hps2⟩ := hr2
  obtain ⟨a2, c2, rfl, hsl, hown2⟩ := hrow.form
  have Hka := Lib.hid (hrow.ha hH)
  clear hown2
  have hres := (hps2.ext (Ext.unhideV _ _)).res
  have Hps2 := Lib.hid (hps2.ext (Ext.unhideV _ _))
  rw [List.length_map]
  have Hsl := Lib.hid hsl
  have Hres := Lib.hid hres
  clear hdel hE2 hB2 hps2 hsl hres hps1 hcat hv hrow
  have hq40 := sizes_len (qs.map (·.2))
  rw [List.length_map] at hq40
  match qs, hq40, hsz2, Hcat, Hsl, Hres, Hps2 with
  | [], hq40, hsz2, Hcat, Hsl, Hres, Hps2 =>
    go_wp2_with fail
    refine (nothing_any _ (fun h hh => by have := hH h hh; have := HB2.out.size; omega)).mono ?_
    rintro e w3 ⟨b, rfl, h, hb3⟩
    go_wp2_with fail
    go_ret
    refine ⟨b, rfl, ?_, HB2.out.trans (hb3.mono HB2.out.size)⟩
    rw [Hcat.out]
    exact h
  | [q], hq40, hsz2, Hcat, Hsl, Hres, Hps2 =>
    obtain ⟨hkb, hat⟩ := Hres.out.get 0 (by simp)
    obtain ⟨blk, off, rfl, hbl, hcs⟩ := Hsl.out.at_ (by simp)
    have hc0 := hcs 0 (by simp)
    simp only [List.map_cons, List.getElem_cons_zero, Nat.add_zero] at hc0 hat
    clear hcs
    go_wp2_with fail
    go_ret
    refine ⟨q.1, rfl, ?_, HB2.out⟩
    rw [Hcat.out]
    exact hat
  | q :: q2 :: qr, hq40, hsz2, Hcat, Hsl, Hres, Hps2 =>
    have hthen : Pv.anyOf ((q :: q2 :: qr).map (·.2)) = .mk 4 .zero ((q :: q2 :: qr).map (·.2)) := rfl
    have hnull : Pv.null (.mk 4 .zero ((q :: q2 :: qr).map (·.2))) = (q :: q2 :: qr).any (fun x => Pv.null x.2) := by
      rw [Pv.null, Pv.nulls_map]
      simp [Pv.nullOf, List.any_map, Function.comp_def]
    have hmade := made_any 4 (by omega) .zero (fun _ => rfl) ((q :: q2 :: qr).map (·.2)) (by simp) a2 c2 ((q :: q2 :: qr).map (·.1)) w2 (by rw [List.map_map]; exact Hsl.out) Hres.out (fun h hh => by have := hH h hh; have := HB2.out.size; omega) Hka.out (by unfold Pv.size; omega)
    rw [hnull, List.length_map] at hmade
    have hcon := contains_any 64 (enters_of Tryz.func64 (by kernel_rfl) rfl) Pv.null asks_null (q :: q2 :: qr) a2 c2 w2 Hsl.out Hps2.out (by omega)
    have Hthen := Lib.hid hthen
    clear hthen hnull
    have hn0 : (((q :: q2 :: qr).length : Nat) : Int) ≠ 0 := by simp; omega
    have hn1 : (((q :: q2 :: qr).length : Nat) : Int) ≠ 1 := by simp; omega
    generalize (q :: q2 :: qr) = qs at *
    have hn0' : ((qs.length : Int) == 0) = false := by rw [beq_eq_false_iff_ne]; exact hn0
    have hn1' : ((qs.length : Int) == 1) = false := by rw [beq_eq_false_iff_ne]; exact hn1
    generalize (qs.any fun x => Pv.null x.2) = nn at *
    go_wp2_with fail
    refine hcon.mono ?_
    rintro e w3 ⟨rfl, rfl⟩
    go_wp2_with fail
    refine hmade.mono ?_
    rintro e w3 ⟨b, rfl, h, hb3⟩
    go_wp2_with fail
    go_ret
    refine ⟨b, rfl, ?_, HB2.out.trans (hb3.mono HB2.out.size)⟩
    rw [Hcat.out, Hthen.out]
    exact h
end Go.Proofs.YtbimpenhmefpeaaGreatDoor
namespace Go.Proofs.YtbimpenhmefpeaaGreatDoor
open Go.RowKit
variable {H : Nat → Prop}

theorem Sl.of_blk {w : World} {g t : Nat} {xs : List Value} (h : w.heap[g]? = some (.cells xs.toArray t)) : Sl w (some ⟨g, 0, none⟩) xs.length xs :=
  ⟨Nat.le_refl _, (fun h => by cases h), fun i hi => ⟨g, 0, rfl, cell_of_blk h (by simp [hi])⟩⟩
set_option maxRecDepth 20000 in
set_option maxHeartbeats 2000000 in
theorem many_any (r : Pv.R) (b : Nat) (w : World) (h : ReAt H w r b) (hH : ∀ h, H h → h < w.heap.size) (hsz : Pv.size r < 549755813888) : MakesRe H 43 #[Ptr b] w (Pv.many r) := by
  obtain ⟨_, _, _, h0, _⟩ := h.cells
  have Hat := Lib.hid h
  have hm : Hid (Pv.many r = if r.op = 0 ∨ r.op = 1 then Pv.empty else if r.op = 5 then r else .mk 5 .zero [r]) := rfl
  clear h
  by_cases e0 : r.op = 0
  · have e0' : ((r.op : Int) == 0) = true := by rw [beq_iff_eq]; omega
    have E0 := Lib.hid e0
    clear e0
    go_enter Tryz.func43, Tryz.ntmps43
    go_wp2_with fail
    refine (empty_re _ hH).mono ?_
    rintro e w' ⟨b, rfl, h, hb⟩
    go_wp2_with fail
    go_ret
    refine ⟨b, rfl, ?_, hb⟩
    rw [hm.out, if_pos (.inl E0.out)]; exact h
  · have e0' : ((r.op : Int) == 0) = false := by rw [beq_eq_false_iff_ne]; omega
    have E0 := Lib.hid e0
    clear e0
    by_cases e1 : r.op = 1
    · have e1' : ((r.op : Int) == 1) = true := by rw [beq_iff_eq]; omega
      have E1 := Lib.hid e1
      clear e1
      go_enter Tryz.func43, Tryz.ntmps43
      go_wp2_with fail
      refine (empty_re _ hH).mono ?_
      rintro e w' ⟨b, rfl, h, hb⟩
      go_wp2_with fail
      go_ret
      refine ⟨b, rfl, ?_, hb⟩
      rw [hm.out, if_pos (.inr E1.out)]; exact h
    · have e1' : ((r.op : Int) == 1) = false := by rw [beq_eq_false_iff_ne]; omega
      have E1 := Lib.hid e1
      clear e1
      by_cases e5 : r.op = 5
      · have e5' : ((r.op : Int) == 5) = true := by rw [beq_iff_eq]; omega
        have E5 := Lib.hid e5
        clear e5
        go_enter Tryz.func43, Tryz.ntmps43
        go_wp2_with fail
        go_ret
        refine ⟨b, rfl, ?_, Below.refl _ _⟩
        rw [hm.out, if_neg (by have := E0.out; have := E1.out; omega), if_pos E5.out]; exact Hat.out
      · have e5' : ((r.op : Int) == 5) = false := by rw [beq_eq_false_iff_ne]; omega
        have E5 := Lib.hid e5
        clear e5
        go_enter Tryz.func43, Tryz.ntmps43
        go_wp2_with fail
        have hb1 : Below w.heap.size w (w.alloc (.cells #[Ptr b] 23)) := (Below.refl _ _).alloc (Nat.le_refl _) _
        have hmade := made_any 5 (by omega) .zero (fun _ => rfl) [r] (by simp) (some ⟨w.heap.size, 0, none⟩) 1 [b] (w.alloc (.cells #[Ptr b] 23))
          (Sl.of_blk (xs := [Ptr b]) (blk_new rfl)) (ResAt.one (Hat.out.later hb1)) (fun h hh => by have := hH h hh; simp; omega)
          (fun blk off e => by cases e; exact ⟨fun hh => by have := hH _ hh; omega, by simp⟩) (by unfold Pv.size Pv.sizes Pv.sizes; omega)
        refine hmade.mono ?_
        rintro e w' ⟨b2, rfl, h, hb⟩
        go_wp2_with fail
        go_ret
        refine ⟨b2, rfl, ?_, hb1.trans (hb.mono (by simp))⟩
        rw [hm.out, if_neg (by have := E0.out; have := E1.out; omega), if_neg E5.out]; exact h

set_option maxRecDepth 20000 in
set_option maxHeartbeats 2000000 in
theorem both_any (l : List Pv.R) (a : Option Addr) (c : Nat) (bs : List Nat) (w : World) (hs : Sl w a c (bs.map Ptr)) (hk : ResAt H w l bs) (hH : ∀ h, H h → h < w.heap.size) (hsz : Pv.sizes l < 549755813888) :
    MakesRe H 54 #[.slice a bs.length c] w (Pv.both l) := by
  have hjoin := joinl_any 6 93 enters_and Pv.S4.and and_any l a c bs w hs hk hH hsz
  have hsj := sizes_join 6 l Pv.S4.and
  clear hs hk
  go_enter Tryz.func54, Tryz.ntmps54
  go_wp2_with fail
  refine hjoin.mono ?_
  rintro e w2 ⟨v2, qs, rfl, hps1, ⟨hrow, hps2⟩, hB⟩
  have hpl : qs.length < 1099511627776 := by
    have := sizes_len (qs.map (·.2))
    rw [List.length_map, hps1] at this
    omega
  have HB2 := Lib.hid hB
  have Hcat : Hid (Pv.both l = Pv.bothOf (qs.map (·.2))) := by show _ = _; rw [hps1]; rfl
  have hsz2 : Pv.sizes (qs.map (·.2)) < 549755813888 := by rw [hps1]; omega
  obtain ⟨a2, c2, rfl, hsl, hown2⟩ := hrow.form
  have Hka := Lib.hid (hrow.ha hH)
  have hres := (hps2.ext (Ext.unhideV _ _)).res
  rw [List.length_map]
  have Hsl := Lib.hid hsl
  have Hres := Lib.hid hres
  clear hown2 hjoin hps2 hsl hres hps1 hrow hsj hB
  have hq40 := sizes_len (qs.map (·.2))
  rw [List.length_map] at hq40
  go_wp2_with fail
  go_loopw [4, 11] (fun b i wr => ∃ k : Nat, k ≤ qs.length ∧ i = .int .i64 k ∧ b = .bool (((qs.map (·.2)).take k).all Pv.null) ∧ Hid (((qs.map (·.2)).take k).any (fun r => r.op == 0) = false) ∧ wr = w2) (fun _ i _ => (qs.length - intOf i).toNat)
  case atStart => exact ⟨0, by omega, rfl, by simp, by simp [Hid], rfl⟩
  case round =>
    obtain ⟨k, hk, rfl, rfl, hany, rfl⟩ := hrel
    by_cases hkn : k < qs.length
    · obtain ⟨hkb, hat⟩ := Hres.out.get k (by simpa using hkn)
      obtain ⟨blk, off, rfl, hbl, hcs⟩ := Hsl.out.at_ (by simp; omega)
      have hc0 := hcs k (by simpa using hkn)
      obtain ⟨_, _, _, h0, _, _, _, _, _, h6, _⟩ := hat.cells
      simp only [List.getElem_map] at hc0 h0 h6
      have hkn' : (k : Int) < qs.length := by omega
      have hk40 : (k : Int) < 1099511627776 := by omega
      clear hcs hat
      generalize hbb : qs[k].1 = bb at *
      have hany' : ((qs.map (·.2)).take (k + 1)).any (fun r => r.op == 0) = (qs[k].2.op == 0) := by
        rw [List.take_succ_eq_append_getElem (by simpa using hkn), List.any_append, hany.out]; simp
      have hall' : ((qs.map (·.2)).take (k + 1)).all Pv.null = (((qs.map (·.2)).take k).all Pv.null && Pv.null qs[k].2) := by
        rw [List.take_succ_eq_append_getElem (by simpa using hkn), List.all_append]; simp
      have Hany := Lib.hid hany'
      have Hall := Lib.hid hall'
      clear hany' hall' hbb
      generalize Hb0 : ((qs.map (·.2)).take k).all Pv.null = b0 at *
      by_cases hop : qs[k].2.op = 0
      · have hop' : ((qs[k].2.op : Int) == 0) = true := by rw [beq_iff_eq]; omega
        have HOP := Lib.hid hop
        clear hop
        go_wp2_with fail
        refine (nothing_any _ (fun h hh => by have := hH h hh; have := HB2.out.size; omega)).mono ?_
        rintro e w3 ⟨b, rfl, h, hb3⟩
        go_wp2_with fail
        go_ret
        refine ⟨b, rfl, ?_, HB2.out.trans (hb3.mono HB2.out.size)⟩
        rw [Hcat.out]
        unfold Pv.bothOf
        rw [if_pos]
        · exact h
        · exact List.any_eq_true.2 ⟨qs[k].2, List.mem_map.2 ⟨_, List.getElem_mem hkn, rfl⟩, by rw [HOP.out]; rfl⟩
      · have hop' : ((qs[k].2.op : Int) == 0) = false := by rw [beq_eq_false_iff_ne]; omega
        have HOP := Lib.hid hop
        clear hop
        have HB0 : Hid (((qs.map (·.2)).take k).all Pv.null = b0) := Hb0
        clear Hb0
        cases b0
        · go_wp2_with fail
          go_roundw
          case rel =>
            refine ⟨k + 1, by omega, by go_num, by rw [Hall.out]; rfl, ?_, by first | rfl | trivial⟩
            show _ = false
            rw [Hany.out, beq_eq_false_iff_ne]; exact HOP.out
          case measure => simp [intOf]; omega
        · go_wp2_with fail
          go_roundw
          case rel =>
            refine ⟨k + 1, by omega, by go_num, by rw [Hall.out]; simp, ?_, by first | rfl | trivial⟩
            show _ = false
            rw [Hany.out, beq_eq_false_iff_ne]; exact HOP.out
          case measure => simp [intOf]; omega
    · have e : k = qs.length := by omega
      subst e
      have hany0 := hany.out
      rw [List.take_of_length_le (by simp)] at hany0
      have Hany := Lib.hid hany0
      clear hany hany0
      have HBb : Hid ((qs.map (·.2)).all Pv.null = ((qs.map (·.2)).take qs.length).all Pv.null) := by show _ = _; rw [List.take_of_length_le (by simp)]
      generalize ((qs.map (·.2)).take qs.length).all Pv.null = b0 at *
      match qs, hq40, hsz2, Hcat, Hsl, Hres, Hany, HBb with
      | [], hq40, hsz2, Hcat, Hsl, Hres, Hany, HBb =>
        go_wp2_with fail
        refine (all_any _).mono ?_
        rintro e w3 ⟨rfl, hb3⟩
        have HB3 := Lib.hid (HB2.out.trans (hb3.mono HB2.out.size))
        clear hb3
        go_wp2_with fail
        refine (one_any (H := H) Pv.S4.all w3 (fun h hh => by have := hH h hh; have := HB3.out.size; omega)).mono ?_
        rintro e w4 ⟨b4, rfl, h4, hb4⟩
        have HB4 := Lib.hid (HB3.out.trans (hb4.mono HB3.out.size))
        have H4 := Lib.hid h4
        clear hb4 h4
        go_wp2_with fail
        refine (many_any _ b4 w4 H4.out (fun h hh => by have := hH h hh; have := HB4.out.size; omega) (by rw [size_one]; omega)).mono ?_
        rintro e w5 ⟨b5, rfl, h5, hb5⟩
        go_wp2_with fail
        go_ret
        refine ⟨b5, rfl, ?_, HB4.out.trans (hb5.mono HB4.out.size)⟩
        rw [Hcat.out]
        exact h5
      | [q], hq40, hsz2, Hcat, Hsl, Hres, Hany, HBb =>
        obtain ⟨hkb, hat⟩ := Hres.out.get 0 (by simp)
        obtain ⟨blk, off, rfl, hbl, hcs⟩ := Hsl.out.at_ (by simp)
        have hc0 := hcs 0 (by simp)
        simp only [List.map_cons, List.getElem_cons_zero, Nat.add_zero] at hc0 hat
        clear hcs
        go_wp2_with fail
        go_ret
        refine ⟨q.1, rfl, ?_, HB2.out⟩
        rw [Hcat.out]
        unfold Pv.bothOf
        rw [if_neg (by rw [Hany.out]; simp)]
        exact hat
      | q :: q2 :: qr, hq40, hsz2, Hcat, Hsl, Hres, Hany, HBb =>
        have hthen : Pv.bothOf ((q :: q2 :: qr).map (·.2)) = .mk 6 .zero ((q :: q2 :: qr).map (·.2)) := by
          unfold Pv.bothOf
          rw [if_neg (by rw [Hany.out]; simp)]
          rfl
        have hnull : Pv.null (.mk 6 .zero ((q :: q2 :: qr).map (·.2))) = b0 := by
          rw [← HBb.out, Pv.null, Pv.nulls_map]
          simp [Pv.nullOf]
        have hmade := made_any 6 (by omega) .zero (fun _ => rfl) ((q :: q2 :: qr).map (·.2)) (by simp) a2 c2 ((q :: q2 :: qr).map (·.1)) wr (by rw [List.map_map]; exact Hsl.out) Hres.out (fun h hh => by have := hH h hh; have := HB2.out.size; omega) Hka.out (by unfold Pv.size; omega)
        rw [hnull, List.length_map] at hmade
        have Hthen := Lib.hid hthen
        clear hthen hnull
        have hn0 : (((q :: q2 :: qr).length : Nat) : Int) ≠ 0 := by simp; omega
        have hn1 : (((q :: q2 :: qr).length : Nat) : Int) ≠ 1 := by simp; omega
        generalize (q :: q2 :: qr) = qs at *
        have hn0' : ((qs.length : Int) == 0) = false := by rw [beq_eq_false_iff_ne]; exact hn0
        have hn1' : ((qs.length : Int) == 1) = false := by rw [beq_eq_false_iff_ne]; exact hn1
        go_wp2_with fail
        refine hmade.mono ?_
        rintro e w3 ⟨b, rfl, h, hb3⟩
        go_wp2_with fail
        go_ret
        refine ⟨b, rfl, ?_, HB2.out.trans (hb3.mono HB2.out.size)⟩
        rw [Hcat.out, Hthen.out]
        exact h
end Go.Proofs.YtbimpenhmefpeaaGreatDoor
namespace Go.Proofs.YtbimpenhmefpeaaGreatDoor
open Go.RowKit
variable {H : Nat → Prop}

theorem opT {n k : Nat} (h : n = k) : ((n : Int) == (k : Int)) = true := by rw [beq_iff_eq]; omega
theorem opF {n k : Nat} (h : n ≠ k) : ((n : Int) == (k : Int)) = false := by rw [beq_eq_false_iff_ne]; omega

set_option maxRecDepth 20000 in
set_option maxHeartbeats 4000000 in
theorem but_any (r q : Pv.R) (b d : Nat) (w : World) (h : ReAt H w r b) (h' : ReAt H w q d) (hH : ∀ h, H h → h < w.heap.size) (hsz : Pv.size r + Pv.size q < 549755813888) : MakesRe H 62 #[Ptr b, Ptr d] w (Pv.but r q) := by
  obtain ⟨_, _, _, h0, h1, h2, h3, h4, _, h6, _⟩ := h.cells
  obtain ⟨_, _, _, p0, p1, p2, p3, p4, _, p6, _⟩ := h'.cells
  have Hat := Lib.hid h
  have Hat' := Lib.hid h'
  have hm : Hid (Pv.but r q = if r.op = 0 ∨ Pv.same r q = true then Pv.nothing else if q.op = 0 then r
    else if r.op = 2 ∧ q.op = 2 then Pv.one (r.set.minus q.set) else .mk 7 .zero [r, q]) := rfl
  have hsame := same_any r q b d w h h'
  clear h h'
  by_cases e0 : r.op = 0
  · have e0' : ((r.op : Int) == 0) = true := opT e0
    have E0 := Lib.hid e0
    clear e0
    go_enter Tryz.func62, Tryz.ntmps62
    go_wp2_with fail
    refine (nothing_any _ hH).mono ?_
    rintro e w' ⟨b, rfl, h, hb⟩
    go_wp2_with fail
    go_ret
    refine ⟨b, rfl, ?_, hb⟩
    rw [hm.out, if_pos (.inl E0.out)]; exact h
  · have e0' : ((r.op : Int) == 0) = false := opF e0
    have E0 := Lib.hid e0
    clear e0
    cases hs : Pv.same r q
    · rw [hs] at hsame
      have HS := Lib.hid hs
      clear hs
      by_cases e1 : q.op = 0
      · have e1' : ((q.op : Int) == 0) = true := opT e1
        have E1 := Lib.hid e1
        clear e1
        go_enter Tryz.func62, Tryz.ntmps62
        go_wp2_with fail
        refine hsame.mono ?_
        rintro e w' ⟨rfl, rfl⟩
        go_wp2_with fail
        go_ret
        refine ⟨b, rfl, ?_, Below.refl _ _⟩
        rw [hm.out, if_neg (by rw [HS.out]; have := E0.out; simp; omega), if_pos E1.out]; exact Hat.out
      · have e1' : ((q.op : Int) == 0) = false := opF e1
        have E1 := Lib.hid e1
        clear e1
        by_cases e2 : r.op = 2 ∧ q.op = 2
        · have e2' : ((r.op : Int) == 2) = true := opT e2.1
          have e3' : ((q.op : Int) == 2) = true := opT e2.2
          have E2 := Lib.hid e2
          clear e2
          go_enter Tryz.func62, Tryz.ntmps62
          go_wp2_with fail
          refine hsame.mono ?_
          rintro e w' ⟨rfl, rfl⟩
          go_wp2_with fail
          refine Eag.region (.mov 0 (.mov 1 (.mov 2 (.mov 3 (.mov 4 (.mov 5 (.mov 6 (.mov 7 (.anc 8 (.anc 9 (.mov 10 Eag.Sch.fin))))))))))) [] (by kernel_rfl) (by kernel_rfl) (fun K ops hops hK => ?_)
          iterate 8
            refine Eag.mov hops rfl rfl (fun w' hb => ?_) ?_
            · have q0 := later hb h1; have q1 := later hb h2; have q2 := later hb h3; have q3 := later hb h4; have q4 := later hb p1; have q5 := later hb p2; have q6 := later hb p3; have q7 := later hb p4; clear hb; go_simp
            go_simp
          refine Eag.anc hops rfl rfl ?_
          go_wp2_with fail
          refine (minus_any _ _ _).mono ?_
          rintro e w2 ⟨rfl, hb⟩
          refine ⟨hb, ?_⟩
          have HB := Lib.hid hb
          clear hb
          refine Eag.anc hops rfl rfl ?_
          go_wp2_with fail
          refine (one_any (H := H) (r.set.minus q.set) w2 (fun h hh => by have := hH h hh; have : w.heap.size ≤ w2.heap.size := HB.out.size; omega)).mono ?_
          rintro e w3 ⟨b3, rfl, h3, hb3⟩
          refine ⟨hb3, ?_⟩
          have HB3 := Lib.hid (HB.out.trans (hb3.mono HB.out.size))
          have H3 := Lib.hid h3
          clear hb3 h3
          iterate 1
            refine Eag.mov hops rfl rfl (fun w' hb => ?_) ?_
            · clear hb; go_simp
            go_simp
          refine Eag.fin (hK _ _ ?_)
          clear hK
          go_simp
          go_wp2_with fail
          go_ret
          refine ⟨b3, rfl, ?_, (Below.refl _ _).drew.trans HB3.out⟩
          rw [hm.out, if_neg (by rw [HS.out]; have := E0.out; simp; omega), if_neg E1.out, if_pos E2.out]; exact H3.out
        · have E2 := Lib.hid e2
          have hb1 : Below w.heap.size w (w.alloc (.cells #[Ptr b, Ptr d] 23)) := (Below.refl _ _).alloc (Nat.le_refl _) _
          have hnull : Pv.null (.mk 7 .zero [r, q]) = (Pv.null r && !Pv.null q) := by simp [Pv.null, Pv.nulls, Pv.nullOf]
          have hmade := made_any 7 (by omega) .zero (fun _ => rfl) [r, q] (by simp) (some ⟨w.heap.size, 0, none⟩) 2 [b, d] (w.alloc (.cells #[Ptr b, Ptr d] 23))
            (Sl.of_blk (xs := [Ptr b, Ptr d]) (blk_new rfl)) (ResAt.append (ResAt.one (Hat.out.later hb1)) (ResAt.one (Hat'.out.later hb1))) (fun h hh => by have := hH h hh; simp; omega)
            (fun blk off e => by cases e; exact ⟨fun hh => by have := hH _ hh; omega, by simp⟩) (by unfold Pv.size Pv.sizes Pv.sizes Pv.sizes; omega)
          rw [hnull] at hmade
          clear hnull
          generalize Pv.null r = nr at *
          generalize Pv.null q = nq at *
          have Hmade := Lib.hid hmade
          clear hmade
          by_cases e3 : r.op = 2
          · have e2' : ((r.op : Int) == 2) = true := opT e3
            have e3' : ((q.op : Int) == 2) = false := opF (fun h => e2 ⟨e3, h⟩)
            clear e2 e3
            cases nr
            all_goals
              go_enter Tryz.func62, Tryz.ntmps62
              go_wp2_with fail
              refine hsame.mono ?_
              rintro e w' ⟨rfl, rfl⟩
              go_wp2_with fail
              refine Hmade.out.mono ?_
              rintro e w' ⟨b2, rfl, h, hb⟩
              go_wp2_with fail
              go_ret
              refine ⟨b2, rfl, ?_, hb1.trans (hb.mono (by simp))⟩
              rw [hm.out, if_neg (by rw [HS.out]; have := E0.out; simp; omega), if_neg E1.out, if_neg E2.out]; exact h
          · have e2' : ((r.op : Int) == 2) = false := opF e3
            clear e2 e3
            cases nr
            all_goals
              go_enter Tryz.func62, Tryz.ntmps62
              go_wp2_with fail
              refine hsame.mono ?_
              rintro e w' ⟨rfl, rfl⟩
              go_wp2_with fail
              refine Hmade.out.mono ?_
              rintro e w' ⟨b2, rfl, h, hb⟩
              go_wp2_with fail
              go_ret
              refine ⟨b2, rfl, ?_, hb1.trans (hb.mono (by simp))⟩
              rw [hm.out, if_neg (by rw [HS.out]; have := E0.out; simp; omega), if_neg E1.out, if_neg E2.out]; exact h
    · rw [hs] at hsame
      have HS := Lib.hid hs
      clear hs
      go_enter Tryz.func62, Tryz.ntmps62
      go_wp2_with fail
      refine hsame.mono ?_
      rintro e w' ⟨rfl, rfl⟩
      go_wp2_with fail
      refine (nothing_any _ hH).mono ?_
      rintro e w' ⟨b, rfl, h, hb⟩
      go_wp2_with fail
      go_ret
      refine ⟨b, rfl, ?_, hb⟩
      rw [hm.out, if_pos (.inr HS.out)]; exact h
end Go.Proofs.YtbimpenhmefpeaaGreatDoor
namespace Go.Proofs.YtbimpenhmefpeaaGreatDoor
open Go.RowKit
variable {H : Nat → Prop}

def manyOr (r : Pv.R) : List Pv.R → Pv.R
  | [k] => Pv.many k
  | _ => r
def butOr (r : Pv.R) : List Pv.R → Pv.R
  | [a, b] => Pv.but a b
  | _ => r
theorem withKids_eq (r : Pv.R) (ks : List Pv.R) : Pv.withKids r ks = if r.op = 3 then Pv.cat ks else if r.op = 4 then Pv.any ks else if r.op = 6 then Pv.both ks
    else if r.op = 5 then manyOr r ks else if r.op = 7 then butOr r ks else r := by
  unfold Pv.withKids manyOr butOr
  rfl
set_option maxRecDepth 20000 in
set_option maxHeartbeats 4000000 in
theorem with_any (r : Pv.R) (b : Nat) (ks : List Pv.R) (a : Option Addr) (c : Nat) (bs : List Nat) (w : World) (h : ReAt H w r b) (hs : Sl w a c (bs.map Ptr)) (hk : ResAt H w ks bs) (hH : ∀ h, H h → h < w.heap.size) (hsz : Pv.sizes ks < 549755813888) :
    MakesRe H 107 #[Ptr b, .slice a bs.length c] w (Pv.withKids r ks) := by
  obtain ⟨_, _, _, h0, _⟩ := h.cells
  have Hat := Lib.hid h
  have hm := Lib.hid (withKids_eq r ks)
  have hlen := hk.length
  have h40 := sizes_len ks
  have hlb : bs.length < 1099511627776 := by omega
  clear h
  by_cases e3 : r.op = 3
  · have h0' : w.cell? ⟨b, 0, none⟩ = some (.int .i64 3) := by rw [h0, e3]; rfl
    have E3 := Lib.hid e3
    have hcall := cat_any ks a c bs w hs hk hH hsz
    clear h0 e3 hlen hs hk
    go_enter Tryz.func107, Tryz.ntmps107
    go_wp2_with fail
    refine hcall.mono ?_
    rintro e w' ⟨b, rfl, h, hb⟩
    go_wp2_with fail
    go_ret
    refine ⟨b, rfl, ?_, hb⟩
    rw [hm.out, if_pos E3.out]; exact h
  by_cases e4 : r.op = 4
  · have h0' : w.cell? ⟨b, 0, none⟩ = some (.int .i64 4) := by rw [h0, e4]; rfl
    have E3 := Lib.hid e3
    have E4 := Lib.hid e4
    have hcall := any_any ks a c bs w hs hk hH hsz
    clear h0 e3 e4 hlen hs hk
    go_enter Tryz.func107, Tryz.ntmps107
    go_wp2_with fail
    refine hcall.mono ?_
    rintro e w' ⟨b, rfl, h, hb⟩
    go_wp2_with fail
    go_ret
    refine ⟨b, rfl, ?_, hb⟩
    rw [hm.out, if_neg E3.out, if_pos E4.out]; exact h
  by_cases e6 : r.op = 6
  · have h0' : w.cell? ⟨b, 0, none⟩ = some (.int .i64 6) := by rw [h0, e6]; rfl
    have E3 := Lib.hid e3
    have E4 := Lib.hid e4
    have E6 := Lib.hid e6
    have hcall := both_any ks a c bs w hs hk hH hsz
    clear h0 e3 e4 e6 hlen hs hk
    go_enter Tryz.func107, Tryz.ntmps107
    go_wp2_with fail
    refine hcall.mono ?_
    rintro e w' ⟨b, rfl, h, hb⟩
    go_wp2_with fail
    go_ret
    refine ⟨b, rfl, ?_, hb⟩
    rw [hm.out, if_neg E3.out, if_neg E4.out, if_pos E6.out]; exact h
  by_cases e5 : r.op = 5
  · have h0' : w.cell? ⟨b, 0, none⟩ = some (.int .i64 5) := by rw [h0, e5]; rfl
    have hm5 : Hid (Pv.withKids r ks = manyOr r ks) := by show _ = _; rw [hm.out, if_neg e3, if_neg e4, if_neg e6, if_pos e5]
    clear h0 e3 e4 e6 e5 hm
    match ks, bs, hlen, hk, hs, hsz, hm5 with
    | [k], [d], hlen, hk, hs, hsz, hm5 =>
      obtain ⟨_, hat⟩ := hk.get 0 (by simp)
      obtain ⟨blk, off, rfl, hbl, hcs⟩ := hs.at_ (by simp)
      have hc0 := hcs 0 (by simp)
      simp only [List.map_cons, List.getElem_cons_zero, Nat.add_zero] at hc0 hat
      have hcall := many_any k d w hat hH (by unfold Pv.sizes Pv.sizes at hsz; omega)
      clear hk hs hat hcs hlen
      go_enter Tryz.func107, Tryz.ntmps107
      go_wp2_with fail
      refine hcall.mono ?_
      rintro e w' ⟨b, rfl, h, hb⟩
      go_wp2_with fail
      go_ret
      refine ⟨b, rfl, ?_, hb⟩
      rw [hm5.out]; exact h
    | [], [], hlen, hk, hs, hsz, hm5 =>
      clear hk hs hlen
      go_enter Tryz.func107, Tryz.ntmps107
      go_wp2_with fail
      go_ret
      refine ⟨b, rfl, ?_, Below.refl _ _⟩
      rw [hm5.out]; exact Hat.out
    | k :: k2 :: kr, d :: d2 :: dr, hlen, hk, hs, hsz, hm5 =>
      have hn1 : (((d :: d2 :: dr).length : Nat) : Int) ≠ 1 := by simp; omega
      have HM : Hid (Pv.withKids r (k :: k2 :: kr) = r) := hm5
      clear hk hs hlen hm5
      generalize (d :: d2 :: dr) = ds at *
      have hn1' : ((ds.length : Int) == 1) = false := by rw [beq_eq_false_iff_ne]; exact hn1
      go_enter Tryz.func107, Tryz.ntmps107
      go_wp2_with fail
      go_ret
      refine ⟨b, rfl, ?_, Below.refl _ _⟩
      rw [HM.out]; exact Hat.out
  by_cases e7 : r.op = 7
  · have h0' : w.cell? ⟨b, 0, none⟩ = some (.int .i64 7) := by rw [h0, e7]; rfl
    have hm7 : Hid (Pv.withKids r ks = butOr r ks) := by show _ = _; rw [hm.out, if_neg e3, if_neg e4, if_neg e6, if_neg e5, if_pos e7]
    clear h0 e3 e4 e6 e5 e7 hm
    match ks, bs, hlen, hk, hs, hsz, hm7 with
    | [k, k2], [d, d2], hlen, hk, hs, hsz, hm7 =>
      obtain ⟨_, hat⟩ := hk.get 0 (by simp)
      obtain ⟨_, hat2⟩ := hk.get 1 (by simp)
      obtain ⟨blk, off, rfl, hbl, hcs⟩ := hs.at_ (by simp)
      have hc0 := hcs 0 (by simp)
      have hc1 := hcs 1 (by simp)
      simp only [List.map_cons, List.getElem_cons_zero, List.getElem_cons_succ, Nat.add_zero] at hc0 hc1 hat hat2
      have hcall := fun W' (hb : Below w.heap.size w W') => but_any k k2 d d2 W' (hat.later hb) (hat2.later hb) (fun h hh => by have := hH h hh; have := hb.size; omega) (by unfold Pv.sizes Pv.sizes Pv.sizes at hsz; omega)
      have Hcall := Lib.hid hcall
      clear hk hs hat hat2 hcs hlen hcall
      go_enter Tryz.func107, Tryz.ntmps107
      go_wp2_with fail
      refine Eag.region (.mov 0 (.mov 1 (.mov 2 (.mov 3 (.mov 4 (.mov 5 (.anc 6 (.mov 7 Eag.Sch.fin)))))))) [] (by kernel_rfl) (by kernel_rfl) (fun K ops hops hK => ?_)
      iterate 6
        refine Eag.mov hops rfl rfl (fun w' hb => ?_) ?_
        · have q0 := later hb hc0; have q1 := later hb hc1; clear hb; go_simp
        go_simp
      refine Eag.anc hops rfl rfl ?_
      go_wp2_with fail
      refine (Hcall.out _ ((Below.refl _ _).drew)).mono ?_
      rintro e w' ⟨b, rfl, h, hb⟩
      refine ⟨hb, ?_⟩
      have HH := Lib.hid h
      have HB : Hid (Below w.heap.size w w') := (Below.refl _ _).drew.trans hb
      clear hb h
      iterate 1
        refine Eag.mov hops rfl rfl (fun w' hb => ?_) ?_
        · clear hb; go_simp
        go_simp
      refine Eag.fin (hK _ _ ?_)
      clear hK
      go_simp
      go_wp2_with fail
      go_ret
      refine ⟨b, rfl, ?_, HB.out⟩
      rw [hm7.out]; exact HH.out
    | [], [], hlen, hk, hs, hsz, hm7 =>
      clear hk hs hlen
      go_enter Tryz.func107, Tryz.ntmps107
      go_wp2_with fail
      go_ret
      refine ⟨b, rfl, ?_, Below.refl _ _⟩
      rw [hm7.out]; exact Hat.out
    | [k], [d], hlen, hk, hs, hsz, hm7 =>
      clear hk hs hlen
      go_enter Tryz.func107, Tryz.ntmps107
      go_wp2_with fail
      go_ret
      refine ⟨b, rfl, ?_, Below.refl _ _⟩
      rw [hm7.out]; exact Hat.out
    | k :: k2 :: k3 :: kr, d :: d2 :: d3 :: dr, hlen, hk, hs, hsz, hm7 =>
      have hn1 : (((d :: d2 :: d3 :: dr).length : Nat) : Int) ≠ 2 := by simp; omega
      have HM : Hid (Pv.withKids r (k :: k2 :: k3 :: kr) = r) := hm7
      clear hk hs hlen hm7
      generalize (d :: d2 :: d3 :: dr) = ds at *
      have hn1' : ((ds.length : Int) == 2) = false := by rw [beq_eq_false_iff_ne]; exact hn1
      go_enter Tryz.func107, Tryz.ntmps107
      go_wp2_with fail
      go_ret
      refine ⟨b, rfl, ?_, Below.refl _ _⟩
      rw [HM.out]; exact Hat.out
  · have f3 : ((r.op : Int) == 3) = false := opF e3
    have f4 : ((r.op : Int) == 4) = false := opF e4
    have f6 : ((r.op : Int) == 6) = false := opF e6
    have f5 : ((r.op : Int) == 5) = false := opF e5
    have f7 : ((r.op : Int) == 7) = false := opF e7
    have hm7 : Hid (Pv.withKids r ks = r) := by show _ = _; rw [hm.out, if_neg e3, if_neg e4, if_neg e6, if_neg e5, if_neg e7]
    clear e3 e4 e6 e5 e7 hm hlen hk hs
    go_enter Tryz.func107, Tryz.ntmps107
    go_wp2_with fail
    go_ret
    refine ⟨b, rfl, ?_, Below.refl _ _⟩
    rw [hm7.out]; exact Hat.out
end Go.Proofs.YtbimpenhmefpeaaGreatDoor
