/- From which states a text can be reached: the plain law of how that is found, and the walk of dfa.alive. -/
import Derived.Test.YtbimpenhmefpeaaGreatDoorS17
import Derived.Defers
import Derived.Laws.Pointers
import Derived.Laws.LoneSync
import Derived.RegionTactic
import Derived.RegionCalls
import Derived.Tactics2
import Derived.Test.YtbimpenhmefpeaaGreatDoorS11
import Derived.DeepKeys4
import Derived.Maps.Keyed
set_option linter.all false
namespace Pv
def falses (L : List Bool) : Nat := L.countP (fun b => !b)
theorem falses_le (L : List Bool) : falses L ≤ L.length := List.countP_le_length
theorem falses_set : ∀ (L : List Bool) (q : Nat), q < L.length → L.getD q false = false → falses (L.set q true) + 1 = falses L
  | [], _, h, _ => by cases h
  | x :: L, 0, _, h => by
    have : x = false := by simpa using h
    subst this; simp [falses]
  | x :: L, q + 1, h, h2 => by
    have ih := falses_set L q (by simpa using h) (by simpa using h2)
    unfold falses at *
    simp only [List.set_cons_succ, List.countP_cons]
    omega
/-- what is kept while the rows are gone through -/
def LvOk (n F : Nat) (st : List Bool × Bool) : Prop := st.1.length = n ∧ falses st.1 ≤ F ∧ (st.2 = true → falses st.1 + 1 ≤ F)
theorem aliveCell_ok {n F q tq : Nat} {st : List Bool × Bool} (h : LvOk n F st) (hq : q < n) : LvOk n F (aliveCell q st tq) := by
  unfold aliveCell
  split
  · rename_i hc
    obtain ⟨h1, h2, h3⟩ := h
    have h4 : st.1.getD q false = false := by simp at hc; simpa using hc.1
    have := falses_set st.1 q (by omega) h4
    exact ⟨by simpa using h1, by simp only; omega, fun _ => by simp only; omega⟩
  · exact h
theorem aliveFold_ok {n F q : Nat} : ∀ (row : List Nat) {st : List Bool × Bool}, LvOk n F st → q < n → LvOk n F (row.foldl (aliveCell q) st)
  | [], _, h, _ => h
  | _ :: row, _, h, hq => aliveFold_ok row (aliveCell_ok h hq) hq
theorem alivePass_append (q : Nat) (st : List Bool × Bool) : ∀ (l m : List (List Nat)), alivePass (l ++ m) q st = alivePass m (q + l.length) (alivePass l q st)
  | [], m => by simp [alivePass]
  | row :: l, m => by
    rw [List.cons_append, alivePass, alivePass_append (q + 1) _ l m, alivePass]
    simp only [List.length_cons]
    congr 1; omega
theorem alivePass_take (next : List (List Nat)) (k : Nat) (h : k < next.length) (st : List Bool × Bool) : alivePass (next.take (k + 1)) 0 st = next[k].foldl (aliveCell k) (alivePass (next.take k) 0 st) := by
  rw [List.take_succ_eq_append_getElem h, alivePass_append]
  have : (next.take k).length = k := by simp; omega
  rw [this, alivePass, alivePass, aliveRow, Nat.zero_add]
theorem fold_take {α β : Type} (f : β → α → β) (b : β) (l : List α) (k : Nat) (h : k < l.length) : (l.take (k + 1)).foldl f b = f ((l.take k).foldl f b) l[k] := by
  rw [List.take_succ_eq_append_getElem h, List.foldl_append]; rfl
end Pv
namespace Go.Proofs.YtbimpenhmefpeaaGreatDoor
open Go.RowKit
variable {H : Nat → Prop}

/-- the memory of alive while the rows are gone through -/
structure LvAt (H : Nat → Prop) (w0 : World) (n : Nat) (at_ : Nat → Nat) (d g cap : Nat) (hv nv yv a b c : Value) (w : World) (L : List Bool) : Prop where
  keep : Keep (· = d) w0 w
  d : w.heap[d]? = some (.cells (dfaCells at_ hv nv yv [a, b, c, .slice (some ⟨g, 0, none⟩) n cap]) 207)
  ge : w0.heap.size ≤ g
  len : L.length = n
  row : ∃ cur : Array Value, w.heap[g]? = some (.cells cur 4) ∧ cur.toList.take n = L.map .bool ∧ n ≤ cap ∧ cap ≤ maxLen ∧ cur.size = cap
theorem LvAt.cell {w0 w : World} {n d g cap : Nat} {at_ : Nat → Nat} {hv nv yv a b c : Value} {L : List Bool} (h : LvAt H w0 n at_ d g cap hv nv yv a b c w L) {q : Nat} (hq : q < n) : w.cell? ⟨g, q, none⟩ = some (.bool (L.getD q false)) ∧ w.frozen? ⟨g, q, none⟩ = false := by
  obtain ⟨cur, h1, h2, h3, _⟩ := h.row
  refine ⟨cell_of_blk h1 ?_, frozen_of_blk h1⟩
  have : (cur.toList.take n)[q]? = (L.map Value.bool)[q]? := by rw [h2]
  rw [List.getElem?_take, if_pos hq] at this
  rw [← Array.getElem?_toList, this, List.getElem?_map]
  have := h.len
  rw [List.getD_eq_getElem?_getD, List.getElem?_eq_getElem (by omega)]
  rfl
theorem LvAt.live {w0 w : World} {n d g cap : Nat} {at_ : Nat → Nat} {hv nv yv a b c : Value} {L : List Bool} (h : LvAt H w0 n at_ d g cap hv nv yv a b c w L) : w.cell? ⟨d, 262, none⟩ = some (.slice (some ⟨g, 0, none⟩) n cap) :=
  cell_of_blk h.d (dfa_get _ _ _ _ _ 6)
theorem LvAt.set {w0 w : World} {n d g cap : Nat} {at_ : Nat → Nat} {hv nv yv a b c : Value} {L : List Bool} (h : LvAt H w0 n at_ d g cap hv nv yv a b c w L) {q : Nat} (hq : q < n) (hd : d < w0.heap.size) : LvAt H w0 n at_ d g cap hv nv yv a b c (w.setCell ⟨g, q, none⟩ (.bool true)) (L.set q true) := by
  obtain ⟨cur, h1, h2, h3, h4, h5⟩ := h.row
  have hge := h.ge
  have hl := h.len
  refine ⟨h.keep.trans_ (H1 := fun k => k = g) (Keep.set rfl) (fun x e => .inr (by omega)), keep_set h.d (by omega), hge, by simpa using hl, _, blk_set h1, ?_, h3, h4, by simpa using h5⟩
  rw [Array.toList_setIfInBounds, List.take_set, h2, List.map_set]
theorem LvAt.drew {w0 w : World} {n d g cap : Nat} {at_ : Nat → Nat} {hv nv yv a b c : Value} {L : List Bool} (h : LvAt H w0 n at_ d g cap hv nv yv a b c w L) : LvAt H w0 n at_ d g cap hv nv yv a b c w.drew L :=
  ⟨h.keep.trans (Keep.drew _), h.d, h.ge, h.len, h.row⟩
/-- how many are not yet -/
def falsesIn (w : World) (g n : Nat) : Nat := match w.heap[g]? with
  | some (.cells cs _ _) => (cs.toList.take n).countP fun v => match v with | .bool false => true | _ => false
  | _ => 0
theorem LvAt.falses {w0 w : World} {n d g cap : Nat} {at_ : Nat → Nat} {hv nv yv a b c : Value} {L : List Bool} (h : LvAt H w0 n at_ d g cap hv nv yv a b c w L) : falsesIn w g n = Pv.falses L := by
  obtain ⟨cur, h1, h2, _⟩ := h.row
  unfold falsesIn
  rw [h1]
  simp only [h2, List.countP_map]
  unfold Pv.falses
  congr 1
  funext b
  cases b <;> rfl
/-- the rows' cells -/
theorem rows_cells {w : World} {D : Pv.Dfa} (hD : D.Ok) {nv : Value} {rs : List Value} (h2 : SlH H w nv rs) (h3 : RowsAt H w rs D.next) : ∃ nb no nc, nv = .slice (some ⟨nb, no, none⟩) D.yes.length nc ∧ ¬ H nb ∧
    ∀ k (hk : k < D.next.length), ∃ rb ro rc, w.cell? ⟨nb, no + k, none⟩ = some (.slice (some ⟨rb, ro, none⟩) D.next[k].length rc) ∧ ¬ H rb ∧ ∀ j (hj : j < D.next[k].length), w.cell? ⟨rb, ro + j, none⟩ = some (.int .i64 (D.next[k][j] : Nat)) := by
  obtain ⟨na, nc, rfl, hs, hn⟩ := h2
  obtain ⟨hl, hr⟩ := h3
  have hlen := hD.len
  have hp := hD.pos
  obtain ⟨nb, no, rfl, hc0⟩ := hs.cell 0 (by omega)
  refine ⟨nb, no, nc, by rw [hl, hD.len], (hn _ _ rfl).1, fun k hk => ?_⟩
  obtain ⟨rv, hrv, ⟨a2, c2, e2, hs2, hn2⟩⟩ := hr k _ (List.getElem?_eq_getElem hk)
  have hrow := (hD.row _ (List.getElem_mem hk)).1
  obtain ⟨rb, ro, rfl, hr0⟩ := hs2.cell 0 (by have := hD.pp; simp; omega)
  obtain ⟨nb', no', e', hck⟩ := hs.cell k (by omega)
  cases e'
  refine ⟨rb, ro, c2, ?_, (hn2 _ _ rfl).1, fun j hj => ?_⟩
  · rw [List.getElem?_eq_getElem (by omega)] at hrv
    injection hrv with hrv
    rw [hck, hrv, e2, List.length_map]
  · obtain ⟨b', o', e', hcj⟩ := hs2.cell j (by simpa using hj)
    cases e'
    rw [hcj, List.getElem_map]
set_option maxRecDepth 20000 in
set_option maxHeartbeats 4000000 in
theorem alive_any (D : Pv.Dfa) (hD : D.Ok) (d : Nat) (hv nv yv a b c lv0 : Value) (rs : List Value) (w : World) (hd : H d)
    (h1 : w.heap[d]? = some (.cells (dfaCells (Pv.indexOf D.parts) hv nv yv [a, b, c, lv0]) 207)) (h2 : SlH H w nv rs) (h3 : RowsAt H w rs D.next) (h4 : SlH H w yv (D.yes.map .bool)) (hn : D.yes.length < 549755813888) :
    Calls Tryz.prog 169 #[Ptr d] w fun e w' => e = .returned (.tuple #[]) ∧ ∃ g cap, LvAt H w D.yes.length (Pv.indexOf D.parts) d g cap hv nv yv a b c w' D.live := by
  obtain ⟨ya, yc, rfl, hys, _⟩ := h4
  have x0 := cell_of_blk h1 (dfa_yes_ (at_ := Pv.indexOf D.parts))
  have hlt := blk_lt h1
  have H1 := Lib.hid h1
  have H2 := Lib.hid h2
  have H3 := Lib.hid h3
  have HY := Lib.hid hys
  have HD := Lib.hid hD
  have hpos := hD.pos
  have hnl := hD.len
  obtain ⟨nb, no, nc, hnv, hnb, hrows⟩ := rows_cells hD h2 h3
  have HRows := Lib.hid hrows
  have HNV := Lib.hid hnv
  clear hrows hnv
  obtain ⟨i0, hi, hz0, hz1, hz2⟩ := info_parts info_bool
  clear h1 h2 h3 hys hD
  go_enter Tryz.func169, Tryz.ntmps169
  go_wp2_with (at_builtin; refine appS 195 4 i0 _ 1 Tryz.underlying195 hi hz0 hz1 hz2 rfl (by omega) rfl _ _ rfl w.heap.size _ [] rfl (Row.nil _ _ _) _ _ _ (D.yes.map .bool) (by simp) rfl HY.out ?c1 ?c2 (Nat.le_refl _) ?c3)
  case c1 => intro u hu; obtain ⟨b, _, rfl⟩ := List.mem_map.1 hu; rfl
  case c2 => simp; omega
  case c3 =>
    intro v4 w4 hr4 hb4 hg4
    have hd4 := later_blk hb4 H1.out
    have y0 := cell_of_blk (o := 262) hd4 (dfa_get _ _ _ _ _ 6)
    have y1 := frozen_of_blk (o := 262) hd4
    have hset := blk_set (o := 262) (v := v4) hd4
    rw [show (262 : Nat) = 256 + 6 from rfl, dfa_set] at hset
    rcases hr4.blk with ⟨_, e⟩ | ⟨g, cap, cur, rfl, hge, hh, hnn, hcp, hsz, htk⟩
    · have := congrArg List.length e; rw [List.length_map, List.length_nil] at this; omega
    have hL : LvAt H w D.yes.length (Pv.indexOf D.parts) d g cap hv nv (.slice ya (List.map Value.bool D.yes).length yc) a b c (w4.setCell ⟨d, 262, none⟩ (.slice (some ⟨g, 0, none⟩) (List.map Value.bool D.yes).length cap)) D.yes := {
      keep := (Keep.of_below hb4).trans (Keep.set rfl)
      d := by rw [List.length_map] at hset ⊢; exact hset
      ge := hge
      len := rfl
      row := ⟨cur, keep_set hh (by omega), by simpa using htk, by simpa using hnn, hcp, by simpa using hsz⟩ }
    have HL := Lib.hid hL
    clear hr4 hb4 hg4 hd4 hset hh htk hL hnn hcp hsz
    simp only [List.length_map] at *
    go_wp2_with fail
    generalize w4.setCell ⟨d, 262, none⟩ (.slice (some ⟨g, 0, none⟩) D.yes.length cap) = w5 at *
    clear y0 y1
    go_loopw [2] (fun v wr => ∃ (m : Bool) (L : List Bool), v = .bool m ∧ Hid (LvAt H w D.yes.length (Pv.indexOf D.parts) d g cap hv nv (.slice ya D.yes.length yc) a b c wr L) ∧ Hid (if m then ∃ f, Pv.falses L < f ∧ Pv.aliveGo D.next f L = D.live else L = D.live))
      (fun v wr => falsesIn wr g D.yes.length + match v with | .bool true => 1 | _ => 0)
    case atStart => exact ⟨true, D.yes, rfl, HL.out, _, Nat.lt_succ_of_le (Pv.falses_le _), rfl⟩
    case round =>
      obtain ⟨m, L, rfl, HL1, HG⟩ := hrel
      cases m with
      | false =>
        have hg := HG.out
        simp only [Bool.false_eq_true, if_false] at hg
        subst hg
        go_wp2_with fail
        go_end0
        exact ⟨rfl, g, cap, HL1.out⟩
      | true =>
        have hg := HG.out
        simp only [if_true] at hg
        obtain ⟨f, hf, hgo⟩ := hg
        have HF := Lib.hid hf
        have HGo := Lib.hid hgo
        have x1 := cell_of_blk (o := 257) HL1.out.d dfa_next_
        rw [HNV.out] at x1
        clear hf hgo
        go_wp2_with fail
        clear x1
        go_loopw [2, 21] (fun v i wi => ∃ (k : Nat) (m : Bool) (L2 : List Bool), k ≤ D.yes.length ∧ v = .bool m ∧ i = .int .i64 k ∧ Hid (LvAt H w D.yes.length (Pv.indexOf D.parts) d g cap hv nv (.slice ya D.yes.length yc) a b c wi L2) ∧
            Hid (Pv.alivePass (D.next.take k) 0 (L, false) = (L2, m)) ∧ Hid (Pv.LvOk D.yes.length (Pv.falses L) (L2, m))) (fun _ i _ => (D.yes.length - intOf i).toNat)
        case atStart => exact ⟨0, false, L, by omega, rfl, rfl, HL1.out, rfl, HL1.out.len, Nat.le_refl _, fun h => by cases h⟩
        case round =>
          obtain ⟨k, m, L2, hk, rfl, rfl, HL2, HP, HO⟩ := hrel
          by_cases hkn : k < D.yes.length
          · have hkn' : (k : Int) < D.yes.length := by omega
            obtain ⟨rb, ro, rc, z0, hrb, hz⟩ := HRows.out k (by omega)
            have z1 := HL2.out.keep.cell (fun e => hnb (by rw [e]; exact hd)) z0
            have hrow := HD.out.row _ (List.getElem_mem (show k < D.next.length by omega))
            have htk := Pv.alivePass_take D.next k (by omega) (L, false)
            rw [HP.out] at htk
            have HTk := Lib.hid htk
            have HZ := Lib.hid hz
            have hrl : D.next[k].length ≤ 256 := by rw [hrow.1]; exact HD.out.p256
            have HRow := Lib.hid hrow.2
            clear z0 hz htk hrow
            generalize D.next[k] = row at *
            go_wp2_with fail
            clear z1
            go_loopw [2, 28] (fun v i wj => ∃ (j : Nat) (m' : Bool) (L3 : List Bool), j ≤ row.length ∧ v = .bool m' ∧ i = .int .i64 j ∧ Hid (LvAt H w D.yes.length (Pv.indexOf D.parts) d g cap hv nv (.slice ya D.yes.length yc) a b c wj L3) ∧
                Hid ((row.take j).foldl (Pv.aliveCell k) (L2, m) = (L3, m')) ∧ Hid (Pv.LvOk D.yes.length (Pv.falses L) (L3, m'))) (fun _ i _ => (row.length - intOf i).toNat)
            case atStart => exact ⟨0, m, L2, by omega, rfl, rfl, HL2.out, rfl, HO.out⟩
            case round =>
              obtain ⟨j, m3, L3, hj, rfl, rfl, HL3, HP3, HO3⟩ := hrel
              by_cases hjn : j < row.length
              · have hjn' : (j : Int) < row.length := by omega
                have z2 := HL3.out.keep.cell (fun e => hrb (by rw [e]; exact hd)) (HZ.out j hjn)
                have htq := HRow.out _ (List.getElem_mem hjn)
                have htk := Pv.fold_take (Pv.aliveCell k) (L2, m) row j hjn
                rw [HP3.out] at htk
                have hok := Pv.aliveCell_ok (tq := row[j]) HO3.out hkn
                generalize row[j] = tq at *
                have z3 := HL3.out.live
                obtain ⟨z4, z5⟩ := HL3.out.cell hkn
                obtain ⟨z6, _⟩ := HL3.out.cell htq
                have htq' : (tq : Int) < D.yes.length := by omega
                unfold Pv.aliveCell at htk hok
                have HTk3 := Lib.hid htk
                have HOk := Lib.hid hok
                clear htk hok
                cases hx : L3.getD k false with
                | true =>
                  rw [hx] at z4
                  have htk := HTk3.out
                  have hok := HOk.out
                  simp only [hx, Bool.not_true, Bool.false_and, Bool.false_eq_true, if_false] at htk hok
                  have Htk := Lib.hid htk
                  clear hx htk HTk3
                  go_wp2_with fail
                  go_roundw
                  case rel => exact ⟨j + 1, m3, L3, by omega, rfl, by go_num, HL3.out, Htk.out, HO3.out⟩
                  case measure => simp [intOf]; omega
                | false =>
                  cases hy : L3.getD tq false with
                  | false =>
                    rw [hx] at z4
                    rw [hy] at z6
                    have htk := HTk3.out
                    simp only [hx, hy, Bool.not_false, Bool.true_and, Bool.false_eq_true, if_false] at htk
                    have Htk := Lib.hid htk
                    clear hx hy htk HTk3
                    go_wp2_with fail
                    go_roundw
                    case rel => exact ⟨j + 1, m3, L3, by omega, rfl, by go_num, HL3.out, Htk.out, HO3.out⟩
                    case measure => simp [intOf]; omega
                  | true =>
                    rw [hx] at z4
                    rw [hy] at z6
                    have htk := HTk3.out
                    have hok := HOk.out
                    simp only [hx, hy, Bool.not_false, Bool.true_and, if_true] at htk hok
                    have Htk := Lib.hid htk
                    have Hok := Lib.hid hok
                    clear hx hy htk HTk3 hok
                    go_wp2_with fail
                    go_roundw
                    case rel => exact ⟨j + 1, true, L3.set k true, by omega, rfl, by go_num, HL3.out.set hkn hlt, Htk.out, Hok.out⟩
                    case measure => simp [intOf]; omega
              · have e : j = row.length := by omega
                subst e
                have hp3 := HP3.out
                rw [List.take_length] at hp3
                have Hp3 := Lib.hid hp3
                clear hp3
                go_wp2_with fail
                go_roundw
                case rel => exact ⟨k + 1, m3, L3, by omega, rfl, by go_num, HL3.out, HTk.out.trans Hp3.out, HO3.out⟩
                case measure => simp [intOf]; omega
          · have e : k = D.yes.length := by omega
            subst e
            have hp := HP.out
            rw [List.take_of_length_le (by omega)] at hp
            have Hp := Lib.hid hp
            have hfl := HL2.out.falses
            have hfl1 := HL1.out.falses
            clear hp
            go_wp2_with fail
            go_roundw
            case rel =>
              refine ⟨m, L2, rfl, HL2.out, ?_⟩
              show if m = true then _ else _
              have hf := HF.out
              have hgo := HGo.out
              obtain ⟨o1, o2, o3⟩ := HO.out
              simp only at o1 o2 o3
              obtain ⟨f, rfl⟩ : ∃ f', f = f' + 1 := ⟨f - 1, by omega⟩
              rw [Pv.aliveGo] at hgo
              simp only [Hp.out] at hgo
              cases m with
              | true =>
                simp only [if_true] at hgo ⊢
                exact ⟨f, by have := o3 rfl; omega, hgo⟩
              | false => simpa using hgo
            case measure =>
              obtain ⟨o1, o2, o3⟩ := HO.out
              simp only at o1 o2 o3
              rw [hfl, hfl1]
              cases m with
              | true => have := o3 rfl; simp only; omega
              | false => simp only; omega
end Go.Proofs.YtbimpenhmefpeaaGreatDoor
namespace Go.Proofs.YtbimpenhmefpeaaGreatDoor
open Go.RowKit
variable {H : Nat → Prop}

theorem disable (w : World) : (callFunc 222 #[]).run Tryz.prog w = .ok (.value (.tuple #[])) w := run_call_mark0 Tryz.func222 (by kernel_rfl) (by kernel_rfl) (by kernel_rfl) .disable (by kernel_rfl) w
theorem enable (w : World) : (callFunc 224 #[]).run Tryz.prog w = .ok (.value (.tuple #[])) w := run_call_mark0 Tryz.func224 (by kernel_rfl) (by kernel_rfl) (by kernel_rfl) .enable (by kernel_rfl) w
theorem acquire (a : Addr) (w : World) : (callFunc 225 #[.pointer (some a)]).run Tryz.prog w = .ok (.value (.tuple #[])) w := run_call_marked Tryz.func225 (by kernel_rfl) (by kernel_rfl) (by kernel_rfl) .acquire (by kernel_rfl) a w
theorem releaseMerge (a : Addr) (w : World) : (callFunc 227 #[.pointer (some a)]).run Tryz.prog w = .ok (.value (.tuple #[])) w := run_call_marked Tryz.func227 (by kernel_rfl) (by kernel_rfl) (by kernel_rfl) .releaseMerge (by kernel_rfl) a w

theorem bload_any (b off : Nat) (v : Int) (w : World) (h : w.cell? ⟨b, off, none⟩ = some (.int .u32 v)) : Pure 190 #[.pointer (some ⟨b, off, none⟩)] w (.bool (v != 0)) := by
  have hl := run_call_load (P := Tryz.prog) Tryz.func209 (by kernel_rfl) (by kernel_rfl) (by kernel_rfl) .u32 (by kernel_rfl) h
  go_enter Tryz.func190, Tryz.ntmps190
  go_wp2_with fail
  go_ret
  exact ⟨rfl, rfl⟩
theorem store_deferred (b off : Nat) (x : Value) (u : FrameMode) (w : World) (hc : w.cell? ⟨b, off, none⟩ = some x) (hz : w.frozen? ⟨b, off, none⟩ = false) :
    CallsD Tryz.prog 212 #[.pointer (some ⟨b, off, none⟩), .bool true] u w fun e u' w' => u' = u ∧ (e = .returned (.tuple #[]) ∧ w' = w.drew.setCell ⟨b, off, none⟩ (.int .u32 1)) := by
  have hc' : w.drew.cell? ⟨b, off, none⟩ = some x := by go_simp
  have hz' : w.drew.frozen? ⟨b, off, none⟩ = false := by go_simp
  have hst := run_call_store (P := Tryz.prog) Tryz.func219 (by kernel_rfl) (by kernel_rfl) (by kernel_rfl) (by kernel_rfl) (k := .u32) (y := 1) hc' hz'
  go_enter_d Tryz.func212, Tryz.ntmps212
  go_wp2
  go_region_calls
  all_goals (go_end0; exact ⟨rfl, rfl⟩)
set_option maxRecDepth 20000 in
theorem iunlock_any (b off : Nat) (w : World) (hc : w.cell? ⟨b, off, none⟩ = some (.int .i32 1)) (hz : w.frozen? ⟨b, off, none⟩ = false) :
    Calls Tryz.prog 218 #[.pointer (some ⟨b, off, none⟩)] w fun e w' => e = .returned (.tuple #[]) ∧ w' = w.setCell ⟨b, off, none⟩ (.int .i32 0) := by
  have hd := disable
  have he := enable
  have hr := releaseMerge
  have hadd := run_call_add (P := Tryz.prog) Tryz.func228 (by kernel_rfl) (by kernel_rfl) (by kernel_rfl) .i32 (by kernel_rfl) (y := -1) (s := 0) hc hz (by simp [go_sem]; rfl)
  have hcv := run_convert_to_unsafe (P := Tryz.prog) (src := 305) (dst := 282) Tryz.underlying305 Tryz.underlying282 (by kernel_rfl) hc
  go_enter Tryz.func218, Tryz.ntmps218
  go_wp2
  go_end0
  go_wp2
theorem unlock_deferred (b off : Nat) (u : FrameMode) (w : World) (hc : w.cell? ⟨b, off, none⟩ = some (.int .i32 1)) (hz : w.frozen? ⟨b, off, none⟩ = false) :
    CallsD Tryz.prog 211 #[.pointer (some ⟨b, off, none⟩)] u w fun e u' w' => u' = u ∧ (e = .returned (.tuple #[]) ∧ w' = w.setCell ⟨b, off, none⟩ (.int .i32 0)) := by
  have hi := iunlock_any b off w hc hz
  go_enter_d Tryz.func211, Tryz.ntmps211
  go_wp2_with fail
  refine hi.mono ?_
  rintro e w' ⟨rfl, rfl⟩
  go_wp2_with fail
  go_end0
  exact ⟨rfl, rfl⟩
set_option maxRecDepth 20000 in
theorem ilock_free (b off : Nat) (w : World) (hc : w.cell? ⟨b, off, none⟩ = some (.int .i32 0)) (hz : w.frozen? ⟨b, off, none⟩ = false) :
    Calls Tryz.prog 217 #[.pointer (some ⟨b, off, none⟩)] w fun e w' => e = .returned (.tuple #[]) ∧ w' = w.setCell ⟨b, off, none⟩ (.int .i32 1) := by
  have hd := disable
  have he := enable
  have ha := acquire
  have hcas := run_call_cas_hit (P := Tryz.prog) Tryz.func223 (by kernel_rfl) (by kernel_rfl) (by kernel_rfl) .i32 (by kernel_rfl) (y := 1) hc hz
  have hc' : (w.setCell ⟨b, off, none⟩ (.int .i32 1)).cell? ⟨b, off, none⟩ = some (.int .i32 1) := World.cell?_setCell_same w ⟨b, off, none⟩ _ hc
  have hcv := run_convert_to_unsafe (P := Tryz.prog) (src := 305) (dst := 282) Tryz.underlying305 Tryz.underlying282 (by kernel_rfl) hc'
  go_enter Tryz.func217, Tryz.ntmps217
  go_wp2
  first | go_end0 | (simp only [Exit.inBlock, Exit.then]; refine bodyPost_ret (results_none rfl _ _ _) rfl ?_) | refine bodyPost_ret (results_none rfl _ _ _) rfl ?_
  go_wp2
theorem lock_free (b off : Nat) (w : World) (hc : w.cell? ⟨b, off, none⟩ = some (.int .i32 0)) (hz : w.frozen? ⟨b, off, none⟩ = false) :
    Calls Tryz.prog 210 #[.pointer (some ⟨b, off, none⟩)] w fun e w' => e = .returned (.tuple #[]) ∧ w' = w.setCell ⟨b, off, none⟩ (.int .i32 1) := by
  have hi := ilock_free b off w hc hz
  go_enter Tryz.func210, Tryz.ntmps210
  go_wp2_with fail
  refine hi.mono ?_
  rintro e w' ⟨rfl, rfl⟩
  go_wp2_with fail
  go_end0
  exact ⟨rfl, rfl⟩

end Go.Proofs.YtbimpenhmefpeaaGreatDoor
namespace Pv
theorem alivePass_ok {n F : Nat} : ∀ (rows : List (List Nat)) (q : Nat) {st : List Bool × Bool}, LvOk n F st → q + rows.length ≤ n → LvOk n F (alivePass rows q st)
  | [], _, _, h, _ => h
  | row :: rows, q, st, h, hq => by
    simp only [List.length_cons] at hq
    exact alivePass_ok rows (q + 1) (aliveFold_ok row h (by omega)) (by omega)
theorem aliveGo_len {n : Nat} (next : List (List Nat)) (hn : next.length ≤ n) : ∀ (f : Nat) (L : List Bool), L.length = n → (aliveGo next f L).length = n
  | 0, _, h => h
  | f + 1, L, h => by
    have ho : LvOk n (falses L) (alivePass next 0 (L, false)) := alivePass_ok next 0 (st := (L, false)) ⟨h, Nat.le_refl _, fun e => by cases e⟩ (by omega)
    rw [aliveGo]
    split
    · exact aliveGo_len next hn f _ ho.1
    · exact ho.1
theorem live_len (D : Dfa) (hD : D.Ok) : D.live.length = D.yes.length := aliveGo_len _ (by rw [hD.len]; exact Nat.le_refl _) _ _ rfl
end Pv
namespace Go.Proofs.YtbimpenhmefpeaaGreatDoor
open Go.RowKit
variable {H : Nat → Prop}

theorem dfa_set_done {at_ : Nat → Nat} {hv nv yv a b c l v : Value} : (dfaCells at_ hv nv yv [a, b, c, l]).setIfInBounds 259 v = dfaCells at_ hv nv yv [v, b, c, l] := dfa_set _ _ _ _ _ 3 v
theorem dfa_set_lock {at_ : Nat → Nat} {hv nv yv a b c l v : Value} : (dfaCells at_ hv nv yv [a, b, c, l]).setIfInBounds 260 v = dfaCells at_ hv nv yv [a, v, c, l] := dfa_set _ _ _ _ _ 4 v
theorem dfa_done_ {at_ : Nat → Nat} {hv nv yv a b c l : Value} : (dfaCells at_ hv nv yv [a, b, c, l])[259]? = some a := dfa_get _ _ _ _ _ 3
theorem dfa_lock_ {at_ : Nat → Nat} {hv nv yv a b c l : Value} : (dfaCells at_ hv nv yv [a, b, c, l])[260]? = some b := dfa_get _ _ _ _ _ 4
theorem dfa_live_ {at_ : Nat → Nat} {hv nv yv a b c l : Value} : (dfaCells at_ hv nv yv [a, b, c, l])[262]? = some l := dfa_get _ _ _ _ _ 6
theorem LvAt.done {w0 w : World} {n d g cap : Nat} {at_ : Nat → Nat} {hv nv yv a b c v : Value} {L : List Bool} (h : LvAt H w0 n at_ d g cap hv nv yv a b c w L) (hd : d < w0.heap.size) : LvAt H w0 n at_ d g cap hv nv yv v b c (w.setCell ⟨d, 259, none⟩ v) L := by
  obtain ⟨cur, h1, h2, h3, h4, h5⟩ := h.row
  have hge := h.ge
  have hb := blk_set (o := 259) (v := v) h.d
  rw [dfa_set_done] at hb
  exact ⟨h.keep.trans (Keep.set rfl), hb, hge, h.len, cur, keep_set h1 (by omega), h2, h3, h4, h5⟩
theorem LvAt.unlock {w0 w : World} {n d g cap : Nat} {at_ : Nat → Nat} {hv nv yv a b c v : Value} {L : List Bool} (h : LvAt H w0 n at_ d g cap hv nv yv a b c w L) (hd : d < w0.heap.size) : LvAt H w0 n at_ d g cap hv nv yv a v c (w.setCell ⟨d, 260, none⟩ v) L := by
  obtain ⟨cur, h1, h2, h3, h4, h5⟩ := h.row
  have hge := h.ge
  have hb := blk_set (o := 260) (v := v) h.d
  rw [dfa_set_lock] at hb
  exact ⟨h.keep.trans (Keep.set rfl), hb, hge, h.len, cur, keep_set h1 (by omega), h2, h3, h4, h5⟩
theorem LvAt.from_ {w0 w1 w : World} {n d g cap : Nat} {at_ : Nat → Nat} {hv nv yv a b c : Value} {L : List Bool} (h : LvAt H w1 n at_ d g cap hv nv yv a b c w L) (hk : Keep (· = d) w0 w1) : LvAt H w0 n at_ d g cap hv nv yv a b c w L :=
  ⟨hk.trans h.keep, h.d, Nat.le_trans hk.size h.ge, h.len, h.row⟩
set_option maxRecDepth 100000 in
set_option maxHeartbeats 1600000 in
theorem slow_any (D : Pv.Dfa) (hD : D.Ok) (d : Nat) (hv nv yv lv0 : Value) (rs : List Value) (w : World) (hd : H d)
    (h1 : w.heap[d]? = some (.cells (dfaCells (Pv.indexOf D.parts) hv nv yv [.int .u32 0, .int .i32 0, .int .u32 0, lv0]) 207)) (h2 : SlH H w nv rs) (h3 : RowsAt H w rs D.next) (h4 : SlH H w yv (D.yes.map .bool)) (hn : D.yes.length < 549755813888) :
    Calls Tryz.prog 191 #[.pointer (some ⟨d, 259, none⟩), .func (.func 169) #[Ptr d] #[]] w fun e w' => e = .returned (.tuple #[]) ∧
      ∃ g cap, LvAt H w D.yes.length (Pv.indexOf D.parts) d g cap hv nv yv (.int .u32 1) (.int .i32 0) (.int .u32 0) w' D.live := by
  have hlk := lock_free d 260 w (cell_of_blk h1 dfa_lock_) (frozen_of_blk h1)
  have hb1 := blk_set (o := 260) (v := .int .i32 1) h1
  rw [dfa_set_lock] at hb1
  have hK1 : Keep (· = d) w (w.setCell ⟨d, 260, none⟩ (.int .i32 1)) := Keep.set rfl
  have hHd : ∀ k, k = d → H k ∨ w.heap.size ≤ k := fun k e => .inl (by rw [e]; exact hd)
  have hrows : RowsAt H (w.setCell ⟨d, 260, none⟩ (.int .i32 1)) rs D.next := ⟨h3.1, fun q row hq => let ⟨rv, e, hr⟩ := h3.2 q row hq; ⟨rv, e, hr.keep hK1 hHd⟩⟩
  have hal := alive_any D hD d hv nv yv (.int .u32 0) (.int .i32 1) (.int .u32 0) lv0 rs _ hd hb1 (h2.keep hK1 hHd) hrows (h4.keep hK1 hHd) hn
  have hld := bload_any d 259 0 (w.setCell ⟨d, 260, none⟩ (.int .i32 1)) (cell_of_blk hb1 dfa_done_)
  have hnot : ∀ (x : Bool) (w : World), (Op.unary .not (.bool x)).run Tryz.prog w = .ok (.bool (!x)) w := fun _ _ => rfl
  have eg : Hid (Enters Tryz.prog 169) := enters_of Tryz.func169 (by kernel_rfl) rfl
  have hlt := blk_lt h1
  have HAl := Lib.hid hal
  have HLd := Lib.hid hld
  have HK1 := Lib.hid hK1
  clear h2 h3 h4 hrows hal hld hHd hK1 hb1 h1
  go_enter_defers Tryz.func191, Tryz.ntmps191
  go_wp2_with fail
  refine hlk.mono ?_
  rintro e w' ⟨rfl, rfl⟩
  go_wp2_with fail
  refine HLd.out.mono ?_
  rintro e w' ⟨rfl, rfl⟩
  go_wp2_with fail
  refine HAl.out.mono ?_
  rintro e w' ⟨rfl, g, cap, hL⟩
  have HL := Lib.hid (hL.from_ HK1.out)
  clear hL HAl HK1
  go_wp2_with fail
  refine leaves_cons (f := 212) (args := #[.pointer (some ⟨d, 259, none⟩), .bool true]) (by simp) (by simp [go_sem]) ?_
  refine (store_deferred d 259 (.int .u32 0) .returning _ (cell_of_blk HL.out.d dfa_done_) (frozen_of_blk HL.out.d)).mono ?_
  rintro e u' w'' ⟨rfl, rfl, rfl⟩
  have HL2 := Lib.hid (HL.out.drew.done (v := .int .u32 1) hlt)
  refine leaves_cons (f := 211) (args := #[.pointer (some ⟨d, 260, none⟩)]) (by simp [settle]) (by simp [go_sem]) ?_
  refine (unlock_deferred d 260 _ _ (cell_of_blk HL2.out.d dfa_lock_) (frozen_of_blk HL2.out.d)).mono ?_
  rintro e u' w'' ⟨rfl, rfl, rfl⟩
  simp [Leaves, settle, results, Tryz.results191]
  exact ⟨g, cap, HL2.out.unlock hlt⟩
set_option maxRecDepth 20000 in
theorem do_first (D : Pv.Dfa) (hD : D.Ok) (d : Nat) (hv nv yv lv0 : Value) (rs : List Value) (w : World) (hd : H d)
    (h1 : w.heap[d]? = some (.cells (dfaCells (Pv.indexOf D.parts) hv nv yv [.int .u32 0, .int .i32 0, .int .u32 0, lv0]) 207)) (h2 : SlH H w nv rs) (h3 : RowsAt H w rs D.next) (h4 : SlH H w yv (D.yes.map .bool)) (hn : D.yes.length < 549755813888) :
    Calls Tryz.prog 168 #[.pointer (some ⟨d, 259, none⟩), .func (.func 169) #[Ptr d] #[]] w fun e w' => e = .returned (.tuple #[]) ∧
      ∃ g cap, LvAt H w D.yes.length (Pv.indexOf D.parts) d g cap hv nv yv (.int .u32 1) (.int .i32 0) (.int .u32 0) w' D.live := by
  have hld := bload_any d 259 0 w (cell_of_blk h1 dfa_done_)
  have hsl := slow_any D hD d hv nv yv lv0 rs w hd h1 h2 h3 h4 hn
  have x0 := cell_of_blk h1 dfa_done_
  have hnot : ∀ (x : Bool) (w : World), (Op.unary .not (.bool x)).run Tryz.prog w = .ok (.bool (!x)) w := fun _ _ => rfl
  have HSl := Lib.hid hsl
  clear h1 h2 h3 h4 hsl
  go_enter Tryz.func168, Tryz.ntmps168
  go_wp2_with fail
  refine hld.mono ?_
  rintro e w' ⟨rfl, rfl⟩
  go_wp2_with fail
  refine HSl.out.mono ?_
  rintro e w' ⟨rfl, g, cap, hL⟩
  have HL := Lib.hid hL
  clear hL HSl
  go_wp2_with fail
  go_end0
  exact ⟨rfl, g, cap, HL.out⟩
theorem do_done (d : Nat) (fv : Value) (w : World) (h0 : w.cell? ⟨d, 259, none⟩ = some (.int .u32 1)) :
    Calls Tryz.prog 168 #[.pointer (some ⟨d, 259, none⟩), fv] w fun e w' => e = .returned (.tuple #[]) ∧ w = w' := by
  have hld := bload_any d 259 1 w h0
  have hnot : ∀ (x : Bool) (w : World), (Op.unary .not (.bool x)).run Tryz.prog w = .ok (.bool (!x)) w := fun _ _ => rfl
  go_enter Tryz.func168, Tryz.ntmps168
  go_wp2_with fail
  refine hld.mono ?_
  rintro e w' ⟨rfl, rfl⟩
  go_wp2_with fail
  go_end0
  exact ⟨rfl, rfl⟩
theorem LvAt.dfa {w0 w : World} {D : Pv.Dfa} {d g cap : Nat} {hv nv yv : Value} {rs : List Value} (h : LvAt H w0 D.yes.length (Pv.indexOf D.parts) d g cap hv nv yv (.int .u32 1) (.int .i32 0) (.int .u32 0) w D.live) (hd : H d) (hH : ∀ k, H k → k < w0.heap.size)
    (h2 : SlH H w0 hv (D.heads.map byteV)) (h3 : SlH H w0 nv rs) (h4 : RowsAt H w0 rs D.next) (h5 : SlH H w0 yv (D.yes.map .bool)) : DfaAt H w D d := by
  have hh : ∀ k, k = d → H k ∨ w0.heap.size ≤ k := fun k e => .inl (by rw [e]; exact hd)
  refine ⟨hv, nv, yv, _, rs, h.d, h2.keep h.keep hh, h3.keep h.keep hh, ⟨h4.1, fun q row hq => let ⟨rv, e, hr⟩ := h4.2 q row hq; ⟨rv, e, hr.keep h.keep hh⟩⟩, h5.keep h.keep hh, .inr ⟨_, rfl, ?_⟩⟩
  obtain ⟨cur, r1, r2, r3, r4, r5⟩ := h.row
  have hl := h.len
  refine ⟨_, _, by rw [List.length_map, hl], ⟨by rw [List.length_map, hl]; exact r3, fun e => (by cases e), fun i hi => ⟨g, 0, rfl, ?_⟩⟩, fun blk off e => by cases e; exact ⟨fun hg => by have := hH _ hg; have := h.ge; omega, blk_lt r1⟩⟩
  rw [List.length_map, hl] at hi
  rw [Nat.zero_add, (h.cell hi).1, List.getElem_map, List.getD_eq_getElem?_getD, List.getElem?_eq_getElem (by omega)]
  rfl
set_option maxRecDepth 20000 in
theorem live_any (D : Pv.Dfa) (hD : D.Ok) (d q : Nat) (w : World) (h : DfaAt H w D d) (hd : H d) (hH : ∀ k, H k → k < w.heap.size) (hn : D.yes.length < 549755813888) (hq : q < D.yes.length) :
    Calls Tryz.prog 133 #[Ptr d, .int .i64 (q : Int)] w fun e w' => e = .returned (.bool (D.isLive q)) ∧ DfaAt H w' D d ∧ Keep (· = d) w w' := by
  have hhas := dhas_any D d q w h
  rw [decide_eq_true hq] at hhas
  have hq' : (q : Int) < D.yes.length := by omega
  have hmf : ∀ (fn : Fn) (first cap : Array Value) (w : World), (Instr.makeFunc fn first cap).run Tryz.prog w = .ok (.func fn first cap) w := fun _ _ _ _ => rfl
  have hnot : ∀ (x : Bool) (w : World), (Op.unary .not (.bool x)).run Tryz.prog w = .ok (.bool (!x)) w := fun _ _ => rfl
  have HA := Lib.hid h
  obtain ⟨hv, nv, yv, rest, rs, h1, h2, h3, h4, h5, h6⟩ := h
  rcases h6 with rfl | ⟨lv, rfl, h7⟩
  · have hdo := do_first D hD d hv nv yv _ rs w hd h1 h3 h4 h5 hn
    have HDo := Lib.hid hdo
    have H2 := Lib.hid h2
    have H3 := Lib.hid h3
    have H4 := Lib.hid h4
    have H5 := Lib.hid h5
    have x0 := cell_of_blk h1 dfa_done_
    clear h1 h2 h3 h4 h5 hdo
    go_enter Tryz.func133, Tryz.ntmps133
    go_wp2_with fail
    refine hhas.mono ?_
    rintro e w' ⟨rfl, rfl⟩
    go_wp2_with fail
    refine HDo.out.mono ?_
    rintro e w' ⟨rfl, g, cap, hL⟩
    have HL := Lib.hid hL
    have x1 := hL.live
    have x2 := (hL.cell hq).1
    rw [show D.live.getD q false = D.isLive q from rfl] at x2
    clear hL HDo x0
    go_wp2_with fail
    go_ret
    exact ⟨rfl, HL.out.dfa hd hH H2.out H3.out H4.out H5.out, HL.out.keep⟩
  · have hdo := do_done d (.func (.func 169) #[Ptr d] #[]) w (cell_of_blk h1 dfa_done_)
    have x1 := cell_of_blk h1 dfa_live_
    obtain ⟨la, lc, rfl, h7, _⟩ := h7
    have hlen : D.live.length = D.yes.length := Pv.live_len D hD
    obtain ⟨blk, off, rfl, x2⟩ := h7.cell q (by simp; omega)
    have e : (D.live.map Value.bool)[q]'(by simp; omega) = .bool (D.isLive q) := by
      rw [List.getElem_map]; unfold Pv.Dfa.isLive; rw [List.getD_eq_getElem?_getD, List.getElem?_eq_getElem (by omega)]; rfl
    rw [e] at x2
    rw [List.length_map, hlen] at x1
    have x0 := cell_of_blk h1 dfa_done_
    have HDo := Lib.hid hdo
    clear h1 h2 h3 h4 h5 hdo h7 e
    go_enter Tryz.func133, Tryz.ntmps133
    go_wp2_with fail
    refine hhas.mono ?_
    rintro e w' ⟨rfl, rfl⟩
    go_wp2_with fail
    refine HDo.out.mono ?_
    rintro e w' ⟨rfl, rfl⟩
    clear HDo x0
    go_wp2_with fail
    go_ret
    exact ⟨rfl, HA.out, Keep.refl _ _⟩
end Go.Proofs.YtbimpenhmefpeaaGreatDoor
namespace Go.Proofs.YtbimpenhmefpeaaGreatDoor
open Go.RowKit Go.Maps
variable {H : Nat → Prop}

abbrev spotC (x : Pv.Spot) : List Value := [.int .i64 (x.phase : Int), .int .i64 (x.p : Int), .int .i64 (x.q : Int), .bool x.moved]
abbrev spotV (x : Pv.Spot) : Value := .agg #[.int .i64 (x.phase : Int), .int .i64 (x.p : Int), .int .i64 (x.q : Int), .bool x.moved]
abbrev stepC (x : Pv.Step) : List Value := [.int .i64 x.from_, byteV x.by_, .bool x.free]
abbrev stepV (x : Pv.Step) : Value := .agg #[.int .i64 x.from_, byteV x.by_, .bool x.free]
theorem laidOut : laidOutB Tryz.prog = true := by kernel_rfl
theorem spot_law : WideMaps.KeyLaw Tryz.prog 165 := deep_law_laid laidOut (m := 2) (by omega) (of_decide_eq_true (by kernel_rfl)) (by kernel_rfl) (by rw [Tryz.underlying165])
theorem spot_keyed : Keyed Tryz.prog 165 := Keyed.of_law spot_law
theorem spot_cells : Tryz.prog.cellsOf 165 = 4 := by kernel_rfl
theorem types_size : ∃ m, Tryz.prog.types.size = m + 1 := ⟨Tryz.prog.types.size - 1, (Nat.sub_add_cancel (of_decide_eq_true (by kernel_rfl))).symm⟩
theorem spot_keyType : Tryz.prog.keyType 165 = true := by kernel_rfl
theorem spot_key (x : Pv.Spot) (h1 : x.phase < 4611686018427387904) (h2 : x.p < 4611686018427387904) (h3 : x.q < 4611686018427387904) : ∃ l, keyOf Tryz.prog 165 (spotV x) = some l := by
  obtain ⟨m, hm⟩ := types_size
  have u1 := Tryz.underlying165
  have u2 := Tryz.underlying163
  have u3 := Tryz.underlying3
  have u4 := Tryz.underlying4
  have c0 := spot_cells
  have c1 : Tryz.prog.cellsOf 163 = 1 := by kernel_rfl
  have c2 : Tryz.prog.cellsOf 3 = 1 := by kernel_rfl
  have c3 : Tryz.prog.cellsOf 4 = 1 := by kernel_rfl
  have w1 : ∀ n : Nat, n < 4611686018427387904 → (Lit.int .i64 (n : Int)).wf = true := fun n hn => by
    have e1 : IntKind.i64.min = -9223372036854775808 := by decide
    have e2 : IntKind.i64.max = 9223372036854775807 := by decide
    simp [Lit.wf, e1, e2]; omega
  unfold keyOf
  rw [u1]
  simp only
  rw [if_pos (by simp [spot_keyType, Value.formed, u1, c0]), hm]
  simp [Program.keyLits, u1, u2, u3, u4, c0, c1, c2, c3, w1, h1, h2, h3, Value.cells]

theorem info_spot : (Tryz.prog.info? 165).map (fun i => (i.zero, i.size, i.bytes)) = some (some (.agg #[.int .i64 0, .int .i64 0, .int .i64 0, .bool false]), 4, 32) := by kernel_rfl
theorem info_step : (Tryz.prog.info? 167).map (fun i => (i.zero, i.size, i.bytes)) = some (some (.agg #[.int .i64 0, .int .u8 0, .bool false]), 3, 16) := by kernel_rfl
theorem DfaAt.appended {G G' : Nat → Prop} {w w' : World} {v : Value} {D : Pv.Dfa} {d : Nat} (h : DfaAt G w D d) (hk : Keep (fun k => v.ownBlock = some k) w w') (hv : ∀ k, v.ownBlock = some k → G k) (hG : ∀ k, G' k → G k ∨ w.heap.size ≤ k) (hd : v.ownBlock ≠ some d) : DfaAt G' w' D d := by
  have h1 : DfaAt (fun k => G k ∨ G' k) w D d := h.widen fun k hk => by
    rcases hk with hk | hk
    · exact .inl hk
    · exact hG k hk
  exact (h1.keep hk (fun k e => .inl (.inl (hv k e))) hd).widen fun k hk => .inl (.inr hk)
/-- a search in memory -/
structure SrAt (H : Nat → Prop) (N0 : Nat) (w : World) (s a b M bb : Nat) (A B : Pv.Dfa) (lv sv : Value) (tr : Pv.Trail) (l u : Nat) : Prop where
  sr : w.heap[s]? = some (.cells #[Ptr a, Ptr b, .map (some M), lv, sv, Ptr bb] 158)
  da : DfaAt (own2 H lv sv) w A a
  db : DfaAt (own2 H lv sv) w B b
  m : MapAt w M (tr.map fun x => spotV x.1) ((List.range tr.length).map intV)
  list : RowK N0 165 4 w lv tr.length (tr.flatMap fun x => spotC x.1)
  steps : RowK N0 167 3 w sv tr.length (tr.flatMap fun x => stepC x.2)
  bud : BudAt w bb l u
  hh : H s ∧ H a ∧ H b ∧ H M ∧ H bb
  ab : a ≠ b
  hlt : ∀ k, H k → k < w.heap.size
/-- all blocks are as they were but those of a search's kinds -/
def Others (w w' : World) : Prop := ∀ (k : Nat) (cs : Array Value) (t : TypeId) (fr : Nat × Nat), w.heap[k]? = some (.cells cs t fr) → t ≠ 158 → t ≠ 102 → t ≠ 207 → t ≠ 165 → t ≠ 167 → w'.heap[k]? = some (.cells cs t fr)
theorem Others.trans {w w1 w2 : World} (h : Others w w1) (k : Others w1 w2) : Others w w2 := fun b cs t fr hb h1 h2 h3 h4 h5 => k b cs t fr (h b cs t fr hb h1 h2 h3 h4 h5) h1 h2 h3 h4 h5
theorem Others.refl (w : World) : Others w w := fun _ _ _ _ h _ _ _ _ _ => h
theorem Others.of_below {w w' : World} (h : Below w.heap.size w w') : Others w w' := fun _ _ _ _ hb _ _ _ _ _ => later_blk h hb
theorem RowK.ty {base e k n : Nat} {w : World} {v : Value} {xs : List Value} (h : RowK base e k w v n xs) {g : Nat} (hg : v.ownBlock = some g) : ∃ cs, w.heap[g]? = some (.cells cs e) := by
  rcases RowK.blk h with ⟨rfl, _⟩ | ⟨g', cap, cur, rfl, h1, h2, _⟩
  · cases hg
  · cases hg; exact ⟨_, h2⟩
theorem RowK.ne {base e k n : Nat} {w : World} {v : Value} {xs : List Value} (h : RowK base e k w v n xs) {b : Nat} {cs : Array Value} {t : TypeId} {fr : Nat × Nat} (hb : w.heap[b]? = some (.cells cs t fr)) (ht : e ≠ t) : v.ownBlock ≠ some b := fun hg => by
  obtain ⟨cs', h'⟩ := h.ty hg
  rw [hb] at h'
  injection h' with h'
  injection h' with _ h' _
  exact ht h'.symm
theorem RowK.ne_map {base e k n : Nat} {w : World} {v : Value} {xs : List Value} (h : RowK base e k w v n xs) {b : Nat} {ks vs : List Value} (hb : MapAt w b ks vs) : v.ownBlock ≠ some b := fun hg => by
  obtain ⟨cs', h'⟩ := h.ty hg
  exact hb.ne h' rfl
end Go.Proofs.YtbimpenhmefpeaaGreatDoor
