/- The library's functions on rows of expressions: IndexFunc, ContainsFunc, DeleteFunc, CompactFunc. -/
import Derived.Test.YtbimpenhmefpeaaGreatDoorS06
import Derived.Shelf.Strings.Builder1
import Derived.Shelf.Strings.Builder2
import Derived.Shelf.Strings.OnBuilder
import Derived.Shelf.Small.Bits
import Derived.Shelf.Strings.BuilderF
import Derived.Shelf.Strings.BuilderK
import Derived.Shelf.Strings.Builder2Cap
import Derived.Shelf.Strconv.Itoa0
import Derived.Shelf.Strconv.Itoa1
import Derived.Shelf.LaysM
import Derived.Shelf.Strconv.Itoa2
import Derived.Shelf.Strconv.Itoa3
import Derived.Shelf.Strings.BuilderCap
import Derived.Ground.SlgnProg
import Derived.Shelf.SlicesE.Reverse
import Derived.Shelf.SlicesE.Compact
import Derived.Ground.SlgfProg
import Derived.Shelf.SlicesE.IndexFunc
import Derived.Shelf.SlicesE.DeleteFunc
import Derived.Ground.SlsfProg
import Derived.Shelf.SlSortCmp.Insertion
import Derived.Shelf.SlSortCmp.SiftDown1
import Derived.Shelf.SlSortCmp.HeapSort1
import Derived.Shelf.SlSortCmp.Insertion1
import Derived.Shelf.SlSortCmp.Median1
import Derived.Shelf.SlSortCmp.Pivot1
import Derived.Shelf.SlSortCmp.ReverseRange1
import Derived.Shelf.SlSortCmp.PartialInsertion1
import Derived.Shelf.SlSortCmp.PartitionEqual1
import Derived.Shelf.SlSortCmp.Partition1
import Derived.Shelf.SlSortCmp.Pdq1
import Derived.Shelf.SlSortCmp.Whole1
import Derived.Shelf.SlSortCmp.NoneTotal
import Derived.Test.YtbimpenhmefpeaaGreatDoorProg
import Derived.Test.YtbimpenhmefpeaaGreatDoorS05
set_option linter.all false
namespace Go.Proofs.YtbimpenhmefpeaaGreatDoor
open Go.RowKit
variable {H : Nat → Prop}

/-- a function value that asks an expression -/
def AsksRe (H : Nat → Prop) (gf : Nat) (p : Pv.R → Bool) : Prop := ∀ (W : World) (r : Pv.R) (b : Nat), ReAt H W r b → Calls Tryz.prog gf #[Ptr b] W fun e w' => e = .returned (.bool (p r)) ∧ w' = W

set_option maxRecDepth 20000 in
set_option maxHeartbeats 1000000 in
theorem index_any (gf : Nat) (eg : Hid (Enters Tryz.prog gf)) (p : Pv.R → Bool) (hp : Hid (AsksRe H gf p)) (ps : List (Nat × Pv.R)) (a : Option Addr) (cap : Nat) (w : World) (hs : Sl w a cap (vals ps)) (hps : Prs H w ps) (hl : ps.length < 1099511627776) :
    Calls Tryz.prog 114 #[.slice a ps.length cap, .func (.func gf) #[] #[]] w fun e w' => ∃ k : Int, e = .returned (.int .i64 k) ∧ w' = w ∧
      (k = -1 ∧ (∀ x ∈ ps, p x.2 = false) ∨ ∃ j, ∃ h : j < ps.length, k = (j : Int) ∧ p ps[j].2 = true ∧ ∀ i (hi : i < j), p (ps[i]'(Nat.lt_trans hi h)).2 = false) := by
  have Hhs := Lib.hid hs
  have Hps := Lib.hid hps
  clear hs hps
  go_enter Tryz.func114, Tryz.ntmps114
  go_wp2_with fail
  go_loopw [8] (fun i wr => ∃ k : Nat, k ≤ ps.length ∧ i = .int .i64 k ∧ wr = w ∧ Hid (∀ i (_ : i < k) (h : i < ps.length), p ps[i].2 = false)) (fun i _ => (ps.length - intOf i).toNat)
  case atStart => exact ⟨0, by omega, rfl, rfl, fun i h => by omega⟩
  case round =>
    obtain ⟨k, hk, rfl, rfl, hall⟩ := hrel
    by_cases hkn : k < ps.length
    · have hat := Hps.out ps[k] (List.getElem_mem hkn)
      obtain ⟨blk, off, rfl, hbl, hcs⟩ := Hhs.out.at_ (by simp; omega)
      have hc0 := hcs k (by simpa using hkn)
      rw [List.getElem_map] at hc0
      clear hcs
      have hpk : ∃ q, p ps[k].2 = q := ⟨_, rfl⟩
      obtain ⟨q, hpk⟩ := hpk
      have hcall := hp.out wr _ _ hat
      rw [hpk] at hcall
      generalize hbb : ps[k].1 = bb at *
      have Hpk := Lib.hid hpk
      have Hcall := Lib.hid hcall
      clear hpk hcall hat hbb
      have hkn' : (k : Int) < ps.length := by omega
      have hk40 : (k : Int) < 1099511627776 := by omega
      go_wp2_with fail
      go_simp
      rw [eg.out]
      refine Hcall.out.mono ?_
      rintro e w' ⟨rfl, rfl⟩
      cases q
      · go_wp2_with fail
        go_roundw
        case rel =>
          refine ⟨k + 1, by omega, by go_num, by first | rfl | trivial, fun i hi h => ?_⟩
          by_cases e : i = k
          · subst e; exact Hpk.out
          · exact hall.out i (by omega) h
        case measure => simp [intOf]; omega
      · go_wp2_with fail
        go_ret
        exact ⟨k, rfl, rfl, .inr ⟨k, hkn, rfl, Hpk.out, fun i hi => hall.out i hi (by omega)⟩⟩
    · have e : k = ps.length := by omega
      subst e
      go_wp2_with fail
      go_ret
      refine ⟨-1, rfl, rfl, .inl ⟨rfl, fun x hx => ?_⟩⟩
      obtain ⟨i, h, rfl⟩ := List.mem_iff_getElem.1 hx
      exact hall.out i h h

set_option maxRecDepth 20000 in
set_option maxHeartbeats 1000000 in
theorem contains_any (gf : Nat) (eg : Hid (Enters Tryz.prog gf)) (p : Pv.R → Bool) (hp : Hid (AsksRe H gf p)) (ps : List (Nat × Pv.R)) (a : Option Addr) (cap : Nat) (w : World) (hs : Sl w a cap (vals ps)) (hps : Prs H w ps) (hl : ps.length < 1099511627776) :
    Calls Tryz.prog 89 #[.slice a ps.length cap, .func (.func gf) #[] #[]] w fun e w' => e = .returned (.bool (ps.any fun x => p x.2)) ∧ w' = w := by
  have hc := index_any gf eg p hp ps a cap w hs hps hl
  clear hs hps
  go_enter Tryz.func89, Tryz.ntmps89
  go_wp2_with fail
  refine hc.mono ?_
  rintro e w' ⟨k, rfl, rfl, h⟩
  rcases h with ⟨rfl, h⟩ | ⟨j, hj, rfl, h, _⟩
  · have e : (ps.any fun x => p x.2) = false := by rw [List.any_eq_false]; intro x hx; rw [h x hx]; simp
    go_wp2_with fail
    go_ret
    exact ⟨by rw [e]; rfl, rfl⟩
  · have e : (ps.any fun x => p x.2) = true := List.any_eq_true.2 ⟨ps[j], List.getElem_mem hj, h⟩
    have hj0 : (0 : Int) ≤ j := by omega
    go_wp2_with fail
    go_ret
    exact ⟨by rw [e]; rfl, rfl⟩

set_option maxRecDepth 20000 in
set_option maxHeartbeats 2000000 in
theorem delete_any (gf : Nat) (eg : Hid (Enters Tryz.prog gf)) (p : Pv.R → Bool) (hp : Hid (AsksRe H gf p)) (ps : List (Nat × Pv.R)) (base : Nat) (v : Value) (w : World) (h : ReRowX H base w v ps) (hb : base ≤ w.heap.size) (hl : ps.length < 1099511627776) :
    Calls Tryz.prog 83 #[v, .func (.func gf) #[] #[]] w fun e w' => ∃ v', e = .returned v' ∧ v'.ownBlock = v.ownBlock ∧ ReRowX H base w' v' (ps.filter fun x => !p x.2) ∧ Ext (hideV v w) w' ∧ Below base w w' := by
  obtain ⟨hrow, hps⟩ := h
  obtain ⟨a0, c0, hv, hsl, hown⟩ := hrow.form
  rw [List.length_map] at hv
  have hidx := index_any gf eg p hp ps a0 c0 w hsl (hps.ext (Ext.unhideV v w)) hl
  rw [← hv] at hidx
  have Hidx := Lib.hid hidx
  have Hrow := Lib.hid hrow
  have Hps := Lib.hid hps
  clear hidx hrow hps hown hsl hv
  go_enter Tryz.func83, Tryz.ntmps83
  go_wp2_with fail
  refine Hidx.out.mono ?_
  rintro e w' ⟨k, rfl, rfl, h⟩
  rcases h with ⟨rfl, h⟩ | ⟨j0, hj0, rfl, hpj, hall⟩
  · have Hh := Lib.hid h
    clear h
    go_wp2_with fail
    go_ret
    refine ⟨v, rfl, rfl, ?_, Ext.unhideV _ _, Below.refl _ _⟩
    rw [List.filter_eq_self.2 (fun x hx => by rw [Hh.out x hx]; rfl)]
    exact ⟨Hrow.out, Hps.out⟩
  · rcases Hrow.out.blk with ⟨_, e⟩ | ⟨g, cap, cur, rfl, hg, hblk, hle, hmax, hsz, htk⟩
    · have : ps = [] := List.map_eq_nil_iff.1 e
      subst this; cases hj0
    · rw [List.length_map] at hle htk
      have hkeep0 : keptGo (fun _ x => !p x.2) none (ps.take j0) = ps.take j0 := by
        rw [keptGo_filter, List.filter_eq_self]
        intro x hx
        obtain ⟨i, hi, rfl⟩ := List.mem_iff_getElem.1 hx
        simp at hi
        rw [List.getElem_take, hall i (by omega)]; rfl
      have hI := (Inp.start hsz hle htk (by omega) hkeep0).skip hj0 (by simp [hpj])
      have HI := Lib.hid hI
      have Hblk := Lib.hid hblk
      have Hall := Lib.hid hall
      clear hI hblk hall htk hkeep0
      have hn1 : ((j0 : Int) == -1) = false := by rw [beq_eq_false_iff_ne]; omega
      have hj40 : (j0 : Int) < 1099511627776 := by omega
      rw [List.length_map]
      go_wp2_with fail
      have HW : Hid (w' = w') := rfl
      generalize hw0 : w' = w0 at Hidx Hrow Hps Hblk hb HW
      go_loopw [5, 6] (fun i j wr => ∃ (ni nj : Nat) (cur : Array Value), i = .int .i64 ni ∧ j = .int .i64 nj ∧ ni < nj ∧ Hid (Inp (fun _ x => !p x.2) ps cap cur ni nj) ∧ Hid (wr.heap[g]? = some (.cells cur 23)) ∧
         Hid (Ext (hide g w0) wr) ∧ Hid (Below base w0 wr)) (fun _ j _ => (ps.length - intOf j).toNat)
      case atStart =>
        refine ⟨j0, j0 + 1, cur, rfl, by go_num, by omega, HI.out, ?_, ?_, ?_⟩
        · subst hw0; exact Hblk.out
        · subst hw0; exact Ext.unhide _ _
        · subst hw0; exact Below.refl _ _
      case round =>
        clear HI Hblk
        obtain ⟨ni, nj, cur, rfl, rfl, hij, HI, HB, HE, HW1⟩ := hrel
        by_cases hlt : nj < ps.length
        · have hcj := cell_of_blk HB.out (HI.out.high nj (Nat.le_refl _) hlt)
          have hat := (Hps.out ps[nj] (List.getElem_mem hlt)).ext HE.out
          obtain ⟨ci, hci⟩ : ∃ ci, cur[ni]? = some ci := ⟨cur[ni]'(by have := HI.out.size; omega), Array.getElem?_eq_getElem _⟩
          have hci1 := cell_of_blk HB.out hci
          have hfi := frozen_of_blk (o := ni) HB.out
          have hpk : ∃ q, p ps[nj].2 = q := ⟨_, rfl⟩
          obtain ⟨q, hpk⟩ := hpk
          have hcall := hp.out wr _ _ hat
          rw [hpk] at hcall
          have Hpk := Lib.hid hpk
          have Hcall := Lib.hid hcall
          have hlt' : (nj : Int) < ps.length := by omega
          have hj41 : (nj : Int) < 1099511627776 := by omega
          have hi41 : (ni : Int) < 1099511627776 := by omega
          have hi42 : (ni : Int) < ps.length := by omega
          clear hpk hcall hat hci
          generalize hbb : ps[nj].1 = bb at *
          have Hbb := Lib.hid hbb
          clear hbb
          go_wp2_with fail
          go_simp
          rw [eg.out]
          refine Hcall.out.mono ?_
          rintro e w' ⟨rfl, rfl⟩
          cases q
          · go_wp2_with fail
            go_roundw
            case rel =>
              refine ⟨ni + 1, nj + 1, cur.setIfInBounds ni (Ptr bb), by go_num, by go_num, by omega, ?_, blk_set HB.out, HE.out.set, HW1.out.setCell hg _⟩
              rw [← Hbb.out]
              exact HI.out.keep hle hlt (by simp [Hpk.out])
            case measure => simp [intOf]; omega
          · go_wp2_with fail
            go_roundw
            case rel => exact ⟨ni, nj + 1, cur, rfl, by go_num, by omega, HI.out.skip hlt (by simp [Hpk.out]), HB.out, HE.out, HW1.out⟩
            case measure => simp [intOf]; omega
        · have e : nj = ps.length := by have := HI.out.jn; omega
          subst e
          have hcells : ∀ t, t < ps.length - ni → (wr.cell? ⟨g, 0 + ni + t, none⟩).isSome = true := fun t ht => by
            have h1 : cur[0 + ni + t]? = some (cur[0 + ni + t]'(by have := HI.out.size; omega)) := Array.getElem?_eq_getElem _
            rw [cell_of_blk HB.out h1]; rfl
          have hfr : ∀ t, t < ps.length - ni → wr.frozen? ⟨g, 0 + ni + t, none⟩ = false := fun t _ => frozen_of_blk HB.out
          have hcl := fun ty => Lib.run_clear_slice wr 94 23 ty (.pointer none) Tryz.underlying94 (Tryz.zeroValue23) rfl rfl g (0 + ni) (ps.length - ni) (cap - ni) (by omega) hcells hfr
          rw [Nat.zero_add] at hcl
          have Hcl := Lib.hid hcl
          clear hcells hfr hcl
          have hi42 : (ni : Int) ≤ ps.length := by omega
          go_wp2_with fail
          rw [Hcl.out]
          go_simp
          go_wp2_with fail
          go_ret
          subst hw0
          obtain ⟨cur', h1, h2, h3⟩ := setCells_blk (List.replicate (ps.length - ni) (.pointer none)) ni wr cur HB.out
          have hfil : keptGo (fun _ (x : Nat × Pv.R) => !p x.2) none ps = ps.filter fun x => !p x.2 := keptGo_filter _ _ _
          have hlen := HI.out.len
          have hlow := HI.out.low
          rw [List.take_length, hfil] at hlen hlow
          have hlv : (vals (ps.filter fun x => !p x.2)).length = ni := by rw [List.length_map]; exact hlen
          refine ⟨_, rfl, rfl, ⟨?_, ?_⟩, ?_, setCells_below hg _ _ _ _ HW1.out⟩
          · have := Row.of_cells (xs := vals (ps.filter fun x => !p x.2)) hg h1 (by rw [hlv]; omega) hmax (by rw [h2]; exact HI.out.size) (by
              rw [hlv, ← hlow]
              apply List.ext_getElem?
              intro k
              rw [List.getElem?_take, List.getElem?_take]
              split
              · have := h3 k (by omega); simpa using this
              · rfl)
            rw [hlv] at this
            exact this
          · have hE2 : Ext (hide g w') (hide g (wr.setCells g ni (List.replicate (ps.length - ni) (.pointer none)))) := (ext_setCells HE.out).hide_
            intro x hx
            exact (Hps.out x (List.mem_filter.1 hx).1).ext hE2
          · exact ext_setCells HE.out
end Go.Proofs.YtbimpenhmefpeaaGreatDoor
namespace Go.Proofs.YtbimpenhmefpeaaGreatDoor
open Go.RowKit
variable {H : Nat → Prop}

def keepC (o : Option (Nat × Pv.R)) (x : Nat × Pv.R) : Bool := match o with
  | none => true
  | some y => !Pv.same x.2 y.2
theorem keepC_at (ps : List (Nat × Pv.R)) (k : Nat) (h0 : k ≠ 0) (h : k < ps.length) : keepC (if k = 0 then none else ps[k - 1]?) ps[k] = !Pv.same ps[k].2 (ps[k - 1]'(by omega)).2 := by
  rw [if_neg h0, List.getElem?_eq_getElem (by omega)]; rfl

set_option maxRecDepth 20000 in
set_option maxHeartbeats 4000000 in
theorem compactf_any (ps : List (Nat × Pv.R)) (base : Nat) (v : Value) (w : World) (h : ReRowX H base w v ps) (hb : base ≤ w.heap.size) (hl : ps.length < 1099511627776) :
    Calls Tryz.prog 150 #[v, .func (.func 32) #[] #[]] w fun e w' => ∃ v', e = .returned v' ∧ v'.ownBlock = v.ownBlock ∧ ReRowX H base w' v' (keptGo keepC none ps) ∧ Ext (hideV v w) w' ∧ Below base w w' := by
  obtain ⟨hrow, hps⟩ := h
  have Hrow := Lib.hid hrow
  have Hps := Lib.hid hps
  clear hrow hps
  by_cases hn2 : ps.length < 2
  · obtain ⟨a0, c0, rfl, hsl, hown⟩ := Hrow.out.form
    have hkeep : keptGo keepC none ps = ps := by
      match ps, hn2 with
      | [], _ => rfl
      | [x], _ => rfl
    have hn2' : ((vals ps).length : Int) < 2 := by rw [List.length_map]; omega
    have Hkeep := Lib.hid hkeep
    clear hkeep hsl hown
    go_enter Tryz.func150, Tryz.ntmps150
    go_wp2_with fail
    go_ret
    refine ⟨_, rfl, rfl, ?_, Ext.unhideV _ _, Below.refl _ _⟩
    rw [Hkeep.out]
    exact ⟨Hrow.out, Hps.out⟩
  · rcases Hrow.out.blk with ⟨_, e⟩ | ⟨g, cap, cur, rfl, hg, hblk, hle, hmax, hsz, htk⟩
    · have : ps = [] := List.map_eq_nil_iff.1 e
      subst this; simp at hn2
    · rw [List.length_map] at hle htk
      have Hblk := Lib.hid hblk
      have Htk := Lib.hid htk
      have Hsz := Lib.hid hsz
      have hn2' : ¬ ((ps.length : Int) < 2) := by omega
      clear hblk htk hsz
      rw [List.length_map]
      have Hg : Hid (hideV (.slice (some ⟨g, 0, none⟩) (vals ps).length cap) w = hide g w) := rfl
      have HX : Hid (hideV (.slice (some ⟨g, 0, none⟩) ps.length cap) w = hide g w) := rfl
      go_enter Tryz.func150, Tryz.ntmps150
      go_wp2_with fail
      go_loopw [5] (fun i wr => ∃ (k : Nat), i = .int .i64 k ∧ 0 < k ∧ k ≤ ps.length ∧ Hid (keptGo keepC none (ps.take k) = ps.take k) ∧ Hid (wr.heap[g]? = some (.cells cur 23)) ∧
         Hid (Ext (hide g w) wr) ∧ Hid (Below base w wr)) (fun i _ => (ps.length - intOf i).toNat)
      case atStart =>
        refine ⟨1, rfl, by omega, by omega, ?_, Hblk.out, Ext.unhide _ _, Below.refl _ _⟩
        match ps with
        | [] => rfl
        | _ :: _ => rfl
      case round =>
        obtain ⟨k, rfl, hk0, hk, HK, HB, HE, HW1⟩ := hrel
        by_cases hlt : k < ps.length
        · have hcur : ∀ i (h : i < ps.length), cur[i]? = some (Ptr ps[i].1) := fun i h => by
            have : (cur.toList.take ps.length)[i]? = some (Ptr ps[i].1) := by rw [Htk.out]; simp [h]
            rw [List.getElem?_take, if_pos h] at this
            simpa using this
          have hck := cell_of_blk HB.out (hcur k hlt)
          have hck1 := cell_of_blk HB.out (hcur (k - 1) (by omega))
          have hat := (Hps.out ps[k] (List.getElem_mem hlt)).ext HE.out
          have hat1 := (Hps.out (ps[k - 1]'(by omega)) (List.getElem_mem _)).ext HE.out
          have hcall := fun W' (hE : Ext wr W') => same_any ps[k].2 (ps[k - 1]'(by omega)).2 ps[k].1 (ps[k - 1]'(by omega)).1 W' (hat.ext hE) (hat1.ext hE)
          have hkt := keptGo_take keepC ps k hlt
          rw [keepC_at ps k (by omega) hlt] at hkt
          have hpk : ∃ q, Pv.same ps[k].2 (ps[k - 1]'(by omega)).2 = q := ⟨_, rfl⟩
          obtain ⟨q, hpk⟩ := hpk
          simp only [hpk] at hcall hkt
          have Hkeep := Lib.hid (show keepC (if k = 0 then none else ps[k - 1]?) ps[k] = !q by rw [keepC_at ps k (by omega) hlt, hpk])
          have hlt' : (k : Int) < ps.length := by omega
          have hk41 : (k : Int) < 1099511627776 := by omega
          have hk42 : (0 : Int) < k := by omega
          have hk1 : (k : Int) - 1 = ((k - 1 : Nat) : Int) := by omega
          have hk43 : ((k - 1 : Nat) : Int) < ps.length := by omega
          have hk44 : ((k - 1 : Nat) : Int) < 1099511627776 := by omega
          have hk45 : (0 : Int) ≤ ((k - 1 : Nat) : Int) := by omega
          have hk46 : IntKind.i64.wrap ((k - 1 : Nat) : Int) = ((k - 1 : Nat) : Int) := by rw [IntKind.wrap_i64]; omega
          have Hcall := Lib.hid hcall
          have Hkt := Lib.hid hkt
          clear hcall hkt hpk hat hat1 hcur
          generalize hbb : ps[k].1 = bb at *
          generalize hbc : (ps[k - 1]'(by omega)).1 = bc at *
          clear hbb hbc
          go_wp2_with fail
          refine Eag.region (.mov 0 (.mov 1 (.mov 2 (.mov 3 (.mov 4 (.mov 5 (.mov 6 (.mov 7 (.mov 8 (.mov 9 (.anc 10 Eag.Sch.fin))))))))))) [] (by kernel_rfl) (by kernel_rfl) (fun K ops hops hK => ?_)
          iterate 10
            refine Eag.mov hops rfl rfl (fun w' hb => ?_) ?_
            · have q0 := later hb hck; have q1 := later hb hck1; clear hb; go_simp
            go_simp
          refine Eag.anc hops rfl rfl ?_
          go_wp2_with fail
          refine (Hcall.out wr.drew ⟨Nat.le_refl _, fun _ _ _ _ h _ => h⟩).mono ?_
          rintro e w' ⟨rfl, rfl⟩
          refine ⟨Below.refl _ _, ?_⟩
          refine Eag.fin (hK _ _ ?_)
          clear hK
          cases q
          · go_wp2_with fail
            go_roundw
            case rel =>
              refine ⟨k + 1, by go_num, by omega, by omega, ?_, HB.out, HE.out.drew_, HW1.out.drew⟩
              rw [Hkt.out, HK.out, List.take_succ_eq_append_getElem hlt]; rfl
            case measure => simp [intOf]; omega
          · have hI0 := ((Inp.start (keep := keepC) Hsz.out hle Htk.out hk HK.out).skip hlt Hkeep.out)
            have HI0 := Lib.hid hI0
            have hprev0 : ∀ h : k < ps.length, cur[k]? = some (Ptr (ps[k]'h).1) := fun h => by
              have : (cur.toList.take ps.length)[k]? = some (Ptr (ps[k]'h).1) := by rw [Htk.out]; simp [h]
              rw [List.getElem?_take, if_pos h] at this
              simpa using this
            have Hprev0 := Lib.hid hprev0
            clear hI0 hprev0 hck hck1 Hkt Hcall HK
            have hk47 : (k : Int) ≤ ps.length := by omega
            have hk48 : k ≤ ps.length := hk
            clear hk1 hk43 hk44 hk45 hk46
            go_wp2_with fail
            go_loopw [5, 7] (fun i m wr => ∃ (ni nm : Nat) (cur : Array Value), i = .int .i64 ni ∧ m = .int .i64 nm ∧ 0 < nm ∧ ni < k + nm ∧ Hid (Inp keepC ps cap cur ni (k + nm)) ∧ Hid (∀ h : k + nm - 1 < ps.length, cur[k + nm - 1]? = some (Ptr (ps[k + nm - 1]'h).1)) ∧
               Hid (wr.heap[g]? = some (.cells cur 23)) ∧ Hid (Ext (hide g w) wr) ∧ Hid (Below base w wr)) (fun _ m _ => (ps.length - intOf m).toNat)
            case atStart =>
              exact ⟨k, 1, cur, rfl, rfl, by omega, by omega, HI0.out, Hprev0.out, HB.out, HE.out.drew_, HW1.out.drew⟩
            case round =>
              clear HB HE HW1 Htk Hsz Hblk
              obtain ⟨ni, nm, cur, rfl, rfl, hm0, him, HI, HP, HB, HE, HW1⟩ := hrel
              by_cases hlt2 : k + nm < ps.length
              · have hcj := cell_of_blk HB.out (HI.out.high (k + nm) (Nat.le_refl _) hlt2)
                have hcj1 := cell_of_blk HB.out (HP.out (by omega))
                obtain ⟨ci, hci⟩ : ∃ ci, cur[ni]? = some ci := ⟨cur[ni]'(by have := HI.out.size; omega), Array.getElem?_eq_getElem _⟩
                have hci1 := cell_of_blk HB.out hci
                have hfi := frozen_of_blk (o := ni) HB.out
                have hat := (Hps.out ps[k + nm] (List.getElem_mem hlt2)).ext HE.out
                have hat1 := (Hps.out (ps[k + nm - 1]'(by omega)) (List.getElem_mem _)).ext HE.out
                have hcall := fun W' (hE : Ext wr W') => same_any ps[k + nm].2 (ps[k + nm - 1]'(by omega)).2 ps[k + nm].1 (ps[k + nm - 1]'(by omega)).1 W' (hat.ext hE) (hat1.ext hE)
                have hpk : ∃ q, Pv.same ps[k + nm].2 (ps[k + nm - 1]'(by omega)).2 = q := ⟨_, rfl⟩
                obtain ⟨q, hpk⟩ := hpk
                simp only [hpk] at hcall
                have Hkeep2 := Lib.hid (show keepC (if k + nm = 0 then none else ps[k + nm - 1]?) ps[k + nm] = !q by rw [keepC_at ps (k + nm) (by omega) hlt2, hpk])
                have Hcall := Lib.hid hcall
                have hm41 : (nm : Int) < ((ps.length - k : Nat) : Int) := by omega
                have hm42 : (nm : Int) < 1099511627776 := by omega
                have hm43 : (0 : Int) < nm := by omega
                have hm1 : (nm : Int) - 1 = ((nm - 1 : Nat) : Int) := by omega
                have hm44 : ((nm - 1 : Nat) : Int) < ((ps.length - k : Nat) : Int) := by omega
                have hm46 : IntKind.i64.wrap ((nm - 1 : Nat) : Int) = ((nm - 1 : Nat) : Int) := by rw [IntKind.wrap_i64]; omega
                have hi42 : (ni : Int) < ps.length := by omega
                have hi43 : (ni : Int) < 1099511627776 := by omega
                have hprev2 : cur[k + nm]? = some (Ptr ps[k + nm].1) := HI.out.high (k + nm) (Nat.le_refl _) hlt2
                have Hprev2 := Lib.hid hprev2
                clear hcall hpk hat hat1 hci hprev2
                generalize hbb : ps[k + nm].1 = bb at *
                generalize hbc : (ps[k + nm - 1]'(by omega)).1 = bc at *
                have Hbb := Lib.hid hbb
                clear hbb hbc
                rw [show k + nm - 1 = k + (nm - 1) by omega] at hcj1
                go_wp2_with fail
                refine Eag.region (.mov 0 (.mov 1 (.mov 2 (.mov 3 (.mov 4 (.mov 5 (.mov 6 (.mov 7 (.mov 8 (.mov 9 (.anc 10 (.mov 11 Eag.Sch.fin)))))))))))) [] (by kernel_rfl) (by kernel_rfl) (fun K ops hops hK => ?_)
                iterate 10
                  refine Eag.mov hops rfl rfl (fun w' hb => ?_) ?_
                  · have q0 := later hb hcj; have q1 := later hb hcj1; clear hb; go_simp
                  go_simp
                refine Eag.anc hops rfl rfl ?_
                go_wp2_with fail
                refine (Hcall.out wr.drew ⟨Nat.le_refl _, fun _ _ _ _ h _ => h⟩).mono ?_
                rintro e w' ⟨rfl, rfl⟩
                refine ⟨Below.refl _ _, ?_⟩
                iterate 1
                  refine Eag.mov hops rfl rfl (fun w' hb => ?_) ?_
                  · have q0 := later hb hcj; clear hb; go_simp
                  go_simp
                refine Eag.fin (hK _ _ ?_)
                clear hK hops hm1 hm44 hm46 hcj1
                cases q
                · go_simp
                  go_wp2_with fail
                  go_roundw
                  case rel =>
                    have hI2 := HI.out.keep hle hlt2 Hkeep2.out
                    rw [Hbb.out] at hI2
                    refine ⟨ni + 1, nm + 1, cur.setIfInBounds ni (Ptr bb), by go_num, by go_num, by omega, by omega, hI2, fun h => ?_, blk_set (w := wr) HB.out, HE.out.set.drew_, HW1.out.drew.setCell hg _⟩
                    rw [Array.getElem?_setIfInBounds_ne (by omega)]
                    have := Hprev2.out
                    rw [← Hbb.out] at this
                    exact this
                  case measure => simp [intOf]; omega
                · go_simp
                  go_wp2_with fail
                  go_roundw
                  case rel =>
                    refine ⟨ni, nm + 1, cur, rfl, by go_num, by omega, by omega, HI.out.skip hlt2 Hkeep2.out, fun h => ?_, HB.out, HE.out.drew_, HW1.out.drew⟩
                    have := Hprev2.out
                    rw [← Hbb.out] at this
                    exact this
                  case measure => simp [intOf]; omega
              · have e : k + nm = ps.length := by have := HI.out.jn; omega
                have hcells : ∀ t, t < ps.length - ni → (wr.cell? ⟨g, 0 + ni + t, none⟩).isSome = true := fun t ht => by
                  have h1 : cur[0 + ni + t]? = some (cur[0 + ni + t]'(by have := HI.out.size; omega)) := Array.getElem?_eq_getElem _
                  rw [cell_of_blk HB.out h1]; rfl
                have hfr : ∀ t, t < ps.length - ni → wr.frozen? ⟨g, 0 + ni + t, none⟩ = false := fun t _ => frozen_of_blk HB.out
                have hcl := fun ty => Lib.run_clear_slice wr 94 23 ty (.pointer none) Tryz.underlying94 (Tryz.zeroValue23) rfl rfl g (0 + ni) (ps.length - ni) (cap - ni) (by omega) hcells hfr
                rw [Nat.zero_add] at hcl
                have Hcl := Lib.hid hcl
                clear hcells hfr hcl
                have hi42 : (ni : Int) ≤ ps.length := by omega
                have hm49 : ¬ ((nm : Int) < ((ps.length - k : Nat) : Int)) := by omega
                go_wp2_with fail
                rw [Hcl.out]
                go_simp
                go_wp2_with fail
                go_ret
                obtain ⟨cur', h1, h2, h3⟩ := setCells_blk (List.replicate (ps.length - ni) (.pointer none)) ni wr cur HB.out
                have hlen := HI.out.len
                have hlow := HI.out.low
                rw [e, List.take_length] at hlen hlow
                have hlv : (vals (keptGo keepC none ps)).length = ni := by rw [List.length_map]; exact hlen
                refine ⟨_, rfl, rfl, ⟨?_, ?_⟩, ?_, setCells_below hg _ _ _ _ HW1.out⟩
                · have := Row.of_cells (xs := vals (keptGo keepC none ps)) hg h1 (by rw [hlv]; omega) hmax (by rw [h2]; exact HI.out.size) (by
                    rw [hlv, ← hlow]
                    apply List.ext_getElem?
                    intro k
                    rw [List.getElem?_take, List.getElem?_take]
                    split
                    · have := h3 k (by omega); simpa using this
                    · rfl)
                  rw [hlv] at this
                  exact this
                · have hE2 : Ext (hide g w) (hide g (wr.setCells g ni (List.replicate (ps.length - ni) (.pointer none)))) := (ext_setCells HE.out).hide_
                  intro x hx
                  exact (Hps.out x (keptGo_sub _ _ _ x hx)).ext hE2
                · exact ext_setCells HE.out
        · have e : k = ps.length := by omega
          subst e
          go_wp2_with fail
          go_ret
          have hk := HK.out
          rw [List.take_length] at hk
          refine ⟨_, rfl, rfl, ?_, HE.out, HW1.out⟩
          rw [hk]
          refine ⟨?_, Hps.out.ext HE.out.hide_⟩
          have := Row.of_cells (xs := vals ps) hg HB.out (by rw [List.length_map]; omega) hmax Hsz.out (by rw [List.length_map]; exact Htk.out)
          rw [List.length_map] at this
          exact this
end Go.Proofs.YtbimpenhmefpeaaGreatDoor
namespace Go.Proofs
open Go.Shelf
def Tryz.laysSlE35_f134_ren : Go.Shelf.Ren := ⟨fun | 35 => 134 | n => n, fun | 22 => 94 | 23 => 23 | 3 => 3 | 4 => 4 | 0 => 0 | n => n, fun | n => n⟩
theorem Tryz.laysSlE35_f134 : Go.Proofs.SlLaysE.n35 Tryz.prog Tryz.laysSlE35_f134_ren := {
  mixed := by kernel_rfl
  f35 := ⟨Tryz.f134.name, by decide, Tryz.func134.trans (congrArg some (by kernel_rfl))⟩
  t0 := Tryz.underlying0
  a0 := Tryz.isAgg0
  z0 := Tryz.sizeOf0
  v0 := Tryz.zeroValue0
  t3 := Tryz.underlying3
  a3 := Tryz.isAgg3
  z3 := Tryz.sizeOf3
  v3 := Tryz.zeroValue3
  t4 := Tryz.underlying4
  a4 := Tryz.isAgg4
  z4 := Tryz.sizeOf4
  v4 := Tryz.zeroValue4
  t22 := Tryz.underlying94
  a22 := Tryz.isAgg94
  z22 := Tryz.sizeOf94
  v22 := Tryz.zeroValue94
  a23 := Tryz.isAgg23
  z23 := Tryz.sizeOf23 }
open Go.RowKit Go.Lib Go.Sort in
/-- slices.Reverse: "Reverse reverses the elements of the slice in place.": THE SLICE's CELLS HOLD 'zs.reverse' BEHIND THE CALL; all else is as it was, but for the count of draws (the exchange 's[i], s[j] = s[j], s[i]' draws its order, once a round). IN THE WORDS OF slices.Sort's CONTRACT: 'Holds': the cells hold zs and none is frozen; 'putRow': the world with those cells holding another array. A slice of length 0 that is not nil is among them ('zs = []'); nil: '.._nil'. (LAID AT THE INSTANCE 'slices.Reverse[[]*periscope/re.Re,*periscope/re.Re]': no walk: one application.) -/
theorem Tryz.slices_Reverse_f134 {α : Type} [Inhabited α] (enc : α → Value) (h1 : OneCell enc) (blk off cap : Nat) (zs : List α) (w : World) (hH : Holds enc w blk off zs.toArray) (hsz : zs.length ≤ 9223372036854775807) :
    Calls Tryz.prog 134 #[.slice (some ⟨blk, off, none⟩) zs.length cap] w fun e w' => e = .returned (.tuple #[]) ∧ ∃ n, w' = putRow enc (Sort.ahead w n) blk off zs.reverse.toArray := AnyE.slices_Reverse Tryz.laysSlE35_f134 enc h1 blk off cap zs w hH hsz
def Tryz.laysSlF6_f147_ren : Go.Shelf.Ren := ⟨fun | 6 => 147 | 15 => 130 | 14 => 179 | 28 => 166 | 29 => 167 | 20 => 200 | 21 => 201 | 22 => 202 | 23 => 203 | 24 => 204 | 25 => 205 | 26 => 206 | 27 => 207 | 46 => 214 | 47 => 185 | 48 => 186 | 49 => 215 | 50 => 216 | 57 => 221 | n => n, fun | 22 => 94 | 24 => 23 | 25 => 240 | 3 => 3 | 39 => 95 | 0 => 0 | 53 => 197 | 55 => 83 | 4 => 4 | 46 => 252 | 45 => 251 | 50 => 211 | 5 => 5 | 9 => 9 | 66 => 273 | 70 => 58 | 76 => 291 | 77 => 292 | n => n, fun | n => n⟩
theorem Tryz.laysSlF6_f147 : Go.Proofs.SlLaysF.n6 Tryz.prog Tryz.laysSlF6_f147_ren := {
  mixed := by kernel_rfl
  f6 := ⟨Tryz.f147.name, by decide, Tryz.func147.trans (congrArg some (by kernel_rfl))⟩
  f14 := ⟨Tryz.f179.name, by decide, Tryz.func179.trans (congrArg some (by kernel_rfl))⟩
  f15 := Tryz.func130.trans (congrArg some (by kernel_rfl))
  f20 := ⟨Tryz.f200.name, by decide, Tryz.func200.trans (congrArg some (by kernel_rfl))⟩
  f21 := ⟨Tryz.f201.name, by decide, Tryz.func201.trans (congrArg some (by kernel_rfl))⟩
  f22 := ⟨Tryz.f202.name, by decide, Tryz.func202.trans (congrArg some (by kernel_rfl))⟩
  f23 := ⟨Tryz.f203.name, by decide, Tryz.func203.trans (congrArg some (by kernel_rfl))⟩
  f24 := ⟨Tryz.f204.name, by decide, Tryz.func204.trans (congrArg some (by kernel_rfl))⟩
  f25 := ⟨Tryz.f205.name, by decide, Tryz.func205.trans (congrArg some (by kernel_rfl))⟩
  f26 := ⟨Tryz.f206.name, by decide, Tryz.func206.trans (congrArg some (by kernel_rfl))⟩
  f27 := ⟨Tryz.f207.name, by decide, Tryz.func207.trans (congrArg some (by kernel_rfl))⟩
  f28 := Tryz.func166.trans (congrArg some (by kernel_rfl))
  f29 := Tryz.func167.trans (congrArg some (by kernel_rfl))
  f46 := ⟨Tryz.f214.name, by decide, Tryz.func214.trans (congrArg some (by kernel_rfl))⟩
  f47 := Tryz.func185.trans (congrArg some (by kernel_rfl))
  f48 := Tryz.func186.trans (congrArg some (by kernel_rfl))
  f49 := ⟨Tryz.f215.name, by decide, Tryz.func215.trans (congrArg some (by kernel_rfl))⟩
  f50 := ⟨Tryz.f216.name, by decide, Tryz.func216.trans (congrArg some (by kernel_rfl))⟩
  f57 := ⟨Tryz.f221.name, by decide, Tryz.func221.trans (congrArg some (by kernel_rfl))⟩
  t0 := Tryz.underlying0
  a0 := Tryz.isAgg0
  z0 := Tryz.sizeOf0
  v0 := Tryz.zeroValue0
  t3 := Tryz.underlying3
  a3 := Tryz.isAgg3
  z3 := Tryz.sizeOf3
  v3 := Tryz.zeroValue3
  t4 := Tryz.underlying4
  a4 := Tryz.isAgg4
  z4 := Tryz.sizeOf4
  v4 := Tryz.zeroValue4
  t5 := Tryz.underlying5
  a5 := Tryz.isAgg5
  z5 := Tryz.sizeOf5
  v5 := Tryz.zeroValue5
  t9 := Tryz.underlying9
  a9 := Tryz.isAgg9
  z9 := Tryz.sizeOf9
  v9 := Tryz.zeroValue9
  t22 := Tryz.underlying94
  a22 := Tryz.isAgg94
  z22 := Tryz.sizeOf94
  v22 := Tryz.zeroValue94
  a24 := Tryz.isAgg23
  z24 := Tryz.sizeOf23
  t25 := Tryz.underlying240
  a25 := Tryz.isAgg240
  z25 := Tryz.sizeOf240
  v25 := Tryz.zeroValue240
  t39 := Tryz.underlying95
  a39 := Tryz.isAgg95
  z39 := Tryz.sizeOf95
  v39 := Tryz.zeroValue95
  t45 := Tryz.underlying251
  a45 := Tryz.isAgg251
  z45 := Tryz.sizeOf251
  v45 := Tryz.zeroValue251
  t46 := Tryz.underlying252
  a46 := Tryz.isAgg252
  z46 := Tryz.sizeOf252
  v46 := Tryz.zeroValue252
  t50 := Tryz.underlying211
  a50 := Tryz.isAgg211
  z50 := Tryz.sizeOf211
  v50 := Tryz.zeroValue211
  t53 := Tryz.underlying197
  a53 := Tryz.isAgg197
  z53 := Tryz.sizeOf197
  v53 := Tryz.zeroValue197
  t55 := Tryz.underlying83
  a55 := Tryz.isAgg83
  z55 := Tryz.sizeOf83
  v55 := Tryz.zeroValue83
  t66 := Tryz.underlying273
  a66 := Tryz.isAgg273
  z66 := Tryz.sizeOf273
  v66 := Tryz.zeroValue273
  t70 := Tryz.underlying58
  a70 := Tryz.isAgg58
  z70 := Tryz.sizeOf58
  v70 := Tryz.zeroValue58
  t76 := Tryz.underlying291
  a76 := Tryz.isAgg291
  z76 := Tryz.sizeOf291
  v76 := Tryz.zeroValue291
  t77 := Tryz.underlying292
  a77 := Tryz.isAgg292
  z77 := Tryz.sizeOf292
  v77 := Tryz.zeroValue292 }
open Go.RowKit Go.Lib Go.Sort in
/-- **slices.SortFunc, IN THE DOCUMENTATION's OWN TERMS: A PERMUTATION OF WHAT THE ROW HELD, SORTED BY 'cmp(a, b) < 0'.** Which of two equals comes first is left open ("The sort is not guaranteed to be stable"). (LAID AT THE INSTANCE 'slices.SortFunc[[]*periscope/re.Re,*periscope/re.Re]': no walk: one application.) -/
theorem Tryz.slices_SortFunc {α : Type} [Inhabited α] (enc : α → Value) (h1 : OneCell enc) (cf : α → α → Int) (hO : SWO (ltOf cf)) (g : Nat) (cb : Array Value) (blk off cap : Nat) (d : Array α) (w : World) (eg : ∀ args w, (callFunc g args).run Tryz.prog w = .ok (.enter g args) w) (hcmp : CmpLays1 Tryz.prog g cb enc cf blk off d.size w) (hH : Holds enc w blk off d) (hblk : blk < w.heap.size) (hsz : d.size < 4611686018427387904) :
    Calls Tryz.prog 147 #[.slice (some ⟨blk, off, none⟩) d.size cap, .func (.func g) #[] cb] w fun e w' =>
      e = .returned (.tuple #[]) ∧ ∃ d' n os, PermIn 0 d.size d d' ∧ SortedIn (ltOf cf) 0 d.size d' ∧ w' = sortWorld enc w blk off n d' os := Any.slices_SortFunc Tryz.laysSlF6_f147 enc h1 cf hO g cb blk off cap d w eg hcmp hH hblk hsz
def Tryz.laysSlF06_f147_ren : Go.Shelf.Ren := ⟨fun | 6 => 147 | 15 => 130 | 14 => 179 | 28 => 166 | 29 => 167 | 20 => 200 | 21 => 201 | 22 => 202 | 23 => 203 | 24 => 204 | 25 => 205 | 26 => 206 | 27 => 207 | 46 => 214 | 47 => 185 | 48 => 186 | 49 => 215 | 50 => 216 | 57 => 221 | n => n, fun | 22 => 94 | 24 => 23 | 25 => 240 | 3 => 3 | 39 => 95 | 0 => 0 | 53 => 197 | 55 => 83 | 4 => 4 | 46 => 252 | 45 => 251 | 50 => 211 | 5 => 5 | 9 => 9 | 66 => 273 | 70 => 58 | 76 => 291 | 77 => 292 | n => n, fun | n => n⟩
theorem Tryz.laysSlF06_f147 : Go.Proofs.SlLaysF0.n6 Tryz.prog Tryz.laysSlF06_f147_ren := {
  mixed := by kernel_rfl
  f6 := ⟨Tryz.f147.name, by decide, Tryz.func147.trans (congrArg some (by kernel_rfl))⟩
  f14 := ⟨Tryz.f179.name, by decide, Tryz.func179.trans (congrArg some (by kernel_rfl))⟩
  f15 := Tryz.func130.trans (congrArg some (by kernel_rfl))
  f20 := ⟨Tryz.f200.name, by decide, Tryz.func200.trans (congrArg some (by kernel_rfl))⟩
  f21 := ⟨Tryz.f201.name, by decide, Tryz.func201.trans (congrArg some (by kernel_rfl))⟩
  f22 := ⟨Tryz.f202.name, by decide, Tryz.func202.trans (congrArg some (by kernel_rfl))⟩
  f23 := ⟨Tryz.f203.name, by decide, Tryz.func203.trans (congrArg some (by kernel_rfl))⟩
  f24 := ⟨Tryz.f204.name, by decide, Tryz.func204.trans (congrArg some (by kernel_rfl))⟩
  f25 := ⟨Tryz.f205.name, by decide, Tryz.func205.trans (congrArg some (by kernel_rfl))⟩
  f26 := ⟨Tryz.f206.name, by decide, Tryz.func206.trans (congrArg some (by kernel_rfl))⟩
  f27 := ⟨Tryz.f207.name, by decide, Tryz.func207.trans (congrArg some (by kernel_rfl))⟩
  f28 := Tryz.func166.trans (congrArg some (by kernel_rfl))
  f29 := Tryz.func167.trans (congrArg some (by kernel_rfl))
  f46 := ⟨Tryz.f214.name, by decide, Tryz.func214.trans (congrArg some (by kernel_rfl))⟩
  f47 := Tryz.func185.trans (congrArg some (by kernel_rfl))
  f48 := Tryz.func186.trans (congrArg some (by kernel_rfl))
  f49 := ⟨Tryz.f215.name, by decide, Tryz.func215.trans (congrArg some (by kernel_rfl))⟩
  f50 := ⟨Tryz.f216.name, by decide, Tryz.func216.trans (congrArg some (by kernel_rfl))⟩
  f57 := ⟨Tryz.f221.name, by decide, Tryz.func221.trans (congrArg some (by kernel_rfl))⟩
  t0 := Tryz.underlying0
  a0 := Tryz.isAgg0
  z0 := Tryz.sizeOf0
  v0 := Tryz.zeroValue0
  t3 := Tryz.underlying3
  a3 := Tryz.isAgg3
  z3 := Tryz.sizeOf3
  v3 := Tryz.zeroValue3
  t4 := Tryz.underlying4
  a4 := Tryz.isAgg4
  z4 := Tryz.sizeOf4
  v4 := Tryz.zeroValue4
  t5 := Tryz.underlying5
  a5 := Tryz.isAgg5
  z5 := Tryz.sizeOf5
  v5 := Tryz.zeroValue5
  t9 := Tryz.underlying9
  a9 := Tryz.isAgg9
  z9 := Tryz.sizeOf9
  v9 := Tryz.zeroValue9
  t22 := Tryz.underlying94
  a22 := Tryz.isAgg94
  z22 := Tryz.sizeOf94
  v22 := Tryz.zeroValue94
  t25 := Tryz.underlying240
  a25 := Tryz.isAgg240
  z25 := Tryz.sizeOf240
  v25 := Tryz.zeroValue240
  t39 := Tryz.underlying95
  a39 := Tryz.isAgg95
  z39 := Tryz.sizeOf95
  v39 := Tryz.zeroValue95
  t45 := Tryz.underlying251
  a45 := Tryz.isAgg251
  z45 := Tryz.sizeOf251
  v45 := Tryz.zeroValue251
  t46 := Tryz.underlying252
  a46 := Tryz.isAgg252
  z46 := Tryz.sizeOf252
  v46 := Tryz.zeroValue252
  t50 := Tryz.underlying211
  a50 := Tryz.isAgg211
  z50 := Tryz.sizeOf211
  v50 := Tryz.zeroValue211
  t53 := Tryz.underlying197
  a53 := Tryz.isAgg197
  z53 := Tryz.sizeOf197
  v53 := Tryz.zeroValue197
  t55 := Tryz.underlying83
  a55 := Tryz.isAgg83
  z55 := Tryz.sizeOf83
  v55 := Tryz.zeroValue83
  t66 := Tryz.underlying273
  a66 := Tryz.isAgg273
  z66 := Tryz.sizeOf273
  v66 := Tryz.zeroValue273
  t70 := Tryz.underlying58
  a70 := Tryz.isAgg58
  z70 := Tryz.sizeOf58
  v70 := Tryz.zeroValue58
  t76 := Tryz.underlying291
  a76 := Tryz.isAgg291
  z76 := Tryz.sizeOf291
  v76 := Tryz.zeroValue291
  t77 := Tryz.underlying292
  a77 := Tryz.isAgg292
  z77 := Tryz.sizeOf292
  v77 := Tryz.zeroValue292 }
open Go.RowKit Go.Lib Go.Sort in
/-- **slices.SortFunc AT NO ELEMENT, A nil SLICE TOO: nothing turns.** (LAID AT THE INSTANCE 'slices.SortFunc[[]*periscope/re.Re,*periscope/re.Re]': no walk: one application.) -/
theorem Tryz.slices_SortFunc_none {α : Type} [Inhabited α] (p : Option Addr) (cap : Nat) (fv : Value) (w : World) :
    Calls Tryz.prog 147 #[.slice p 0 cap, fv] w fun e w' => e = .returned (.tuple #[]) ∧ w' = w := AnyF.slices_SortFunc_none Tryz.laysSlF06_f147 p cap fv w
end Go.Proofs
