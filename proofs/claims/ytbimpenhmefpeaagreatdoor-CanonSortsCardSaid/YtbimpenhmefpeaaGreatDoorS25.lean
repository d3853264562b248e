/- Terms: their sorts, by the law and by the program; whether they have the parts that they must. -/
import Derived.Test.YtbimpenhmefpeaaGreatDoorS24
set_option linter.all false
namespace Go.Proofs.YtbimpenhmefpeaaGreatDoor
open Go.RowKit Go.Maps
variable {H : Nat → Prop}

theorem lsort_2 (tb : Nat) (w : World) (h0 : w.cell? ⟨tb, 0, none⟩ = some (.int .i64 2)) : Pure 36 #[Ptr tb] w (.int .i64 2) := by
  go_enter Tryz.func36, Tryz.ntmps36
  go_wp2_with fail
  go_ret
  exact ⟨rfl, rfl⟩
theorem lsort_3 (tb : Nat) (w : World) (h0 : w.cell? ⟨tb, 0, none⟩ = some (.int .i64 3)) : Pure 36 #[Ptr tb] w (.int .i64 2) := by
  go_enter Tryz.func36, Tryz.ntmps36
  go_wp2_with fail
  go_ret
  exact ⟨rfl, rfl⟩
theorem lsort_4 (tb : Nat) (w : World) (h0 : w.cell? ⟨tb, 0, none⟩ = some (.int .i64 4)) : Pure 36 #[Ptr tb] w (.int .i64 2) := by
  go_enter Tryz.func36, Tryz.ntmps36
  go_wp2_with fail
  go_ret
  exact ⟨rfl, rfl⟩
theorem lsort_5 (tb : Nat) (w : World) (h0 : w.cell? ⟨tb, 0, none⟩ = some (.int .i64 5)) : Pure 36 #[Ptr tb] w (.int .i64 2) := by
  go_enter Tryz.func36, Tryz.ntmps36
  go_wp2_with fail
  go_ret
  exact ⟨rfl, rfl⟩
theorem lsort_6 (tb : Nat) (w : World) (h0 : w.cell? ⟨tb, 0, none⟩ = some (.int .i64 6)) : Pure 36 #[Ptr tb] w (.int .i64 2) := by
  go_enter Tryz.func36, Tryz.ntmps36
  go_wp2_with fail
  go_ret
  exact ⟨rfl, rfl⟩
theorem lsort_10 (tb : Nat) (w : World) (h0 : w.cell? ⟨tb, 0, none⟩ = some (.int .i64 10)) : Pure 36 #[Ptr tb] w (.int .i64 2) := by
  go_enter Tryz.func36, Tryz.ntmps36
  go_wp2_with fail
  go_ret
  exact ⟨rfl, rfl⟩
theorem lsort_11 (tb : Nat) (w : World) (h0 : w.cell? ⟨tb, 0, none⟩ = some (.int .i64 11)) : Pure 36 #[Ptr tb] w (.int .i64 2) := by
  go_enter Tryz.func36, Tryz.ntmps36
  go_wp2_with fail
  go_ret
  exact ⟨rfl, rfl⟩
theorem lsort_12 (tb : Nat) (w : World) (h0 : w.cell? ⟨tb, 0, none⟩ = some (.int .i64 12)) : Pure 36 #[Ptr tb] w (.int .i64 2) := by
  go_enter Tryz.func36, Tryz.ntmps36
  go_wp2_with fail
  go_ret
  exact ⟨rfl, rfl⟩
theorem lsort_13 (tb : Nat) (w : World) (h0 : w.cell? ⟨tb, 0, none⟩ = some (.int .i64 13)) : Pure 36 #[Ptr tb] w (.int .i64 2) := by
  go_enter Tryz.func36, Tryz.ntmps36
  go_wp2_with fail
  go_ret
  exact ⟨rfl, rfl⟩
theorem lsort_14 (tb : Nat) (w : World) (h0 : w.cell? ⟨tb, 0, none⟩ = some (.int .i64 14)) : Pure 36 #[Ptr tb] w (.int .i64 2) := by
  go_enter Tryz.func36, Tryz.ntmps36
  go_wp2_with fail
  go_ret
  exact ⟨rfl, rfl⟩
theorem lsort_15 (tb : Nat) (w : World) (h0 : w.cell? ⟨tb, 0, none⟩ = some (.int .i64 15)) : Pure 36 #[Ptr tb] w (.int .i64 2) := by
  go_enter Tryz.func36, Tryz.ntmps36
  go_wp2_with fail
  go_ret
  exact ⟨rfl, rfl⟩
theorem lsort_16 (tb : Nat) (w : World) (h0 : w.cell? ⟨tb, 0, none⟩ = some (.int .i64 16)) : Pure 36 #[Ptr tb] w (.int .i64 3) := by
  go_enter Tryz.func36, Tryz.ntmps36
  go_wp2_with fail
  go_ret
  exact ⟨rfl, rfl⟩
theorem lsort_17 (tb : Nat) (w : World) (h0 : w.cell? ⟨tb, 0, none⟩ = some (.int .i64 17)) : Pure 36 #[Ptr tb] w (.int .i64 3) := by
  go_enter Tryz.func36, Tryz.ntmps36
  go_wp2_with fail
  go_ret
  exact ⟨rfl, rfl⟩
theorem csort_2 (tb : Nat) (w : World) (h0 : w.cell? ⟨tb, 0, none⟩ = some (.int .i64 2)) : Pure 37 #[Ptr tb] w (.int .i64 2) := by
  go_enter Tryz.func37, Tryz.ntmps37
  go_wp2_with fail
  go_ret
  exact ⟨rfl, rfl⟩
theorem csort_3 (tb : Nat) (w : World) (h0 : w.cell? ⟨tb, 0, none⟩ = some (.int .i64 3)) : Pure 37 #[Ptr tb] w (.int .i64 2) := by
  go_enter Tryz.func37, Tryz.ntmps37
  go_wp2_with fail
  go_ret
  exact ⟨rfl, rfl⟩
theorem csort_4 (tb : Nat) (w : World) (h0 : w.cell? ⟨tb, 0, none⟩ = some (.int .i64 4)) : Pure 37 #[Ptr tb] w (.int .i64 2) := by
  go_enter Tryz.func37, Tryz.ntmps37
  go_wp2_with fail
  go_ret
  exact ⟨rfl, rfl⟩
theorem csort_5 (tb : Nat) (w : World) (h0 : w.cell? ⟨tb, 0, none⟩ = some (.int .i64 5)) : Pure 37 #[Ptr tb] w (.int .i64 2) := by
  go_enter Tryz.func37, Tryz.ntmps37
  go_wp2_with fail
  go_ret
  exact ⟨rfl, rfl⟩
theorem csort_6 (tb : Nat) (w : World) (h0 : w.cell? ⟨tb, 0, none⟩ = some (.int .i64 6)) : Pure 37 #[Ptr tb] w (.int .i64 2) := by
  go_enter Tryz.func37, Tryz.ntmps37
  go_wp2_with fail
  go_ret
  exact ⟨rfl, rfl⟩
theorem csort_10 (tb : Nat) (w : World) (h0 : w.cell? ⟨tb, 0, none⟩ = some (.int .i64 10)) : Pure 37 #[Ptr tb] w (.int .i64 2) := by
  go_enter Tryz.func37, Tryz.ntmps37
  go_wp2_with fail
  go_ret
  exact ⟨rfl, rfl⟩
theorem csort_11 (tb : Nat) (w : World) (h0 : w.cell? ⟨tb, 0, none⟩ = some (.int .i64 11)) : Pure 37 #[Ptr tb] w (.int .i64 2) := by
  go_enter Tryz.func37, Tryz.ntmps37
  go_wp2_with fail
  go_ret
  exact ⟨rfl, rfl⟩
theorem csort_12 (tb : Nat) (w : World) (h0 : w.cell? ⟨tb, 0, none⟩ = some (.int .i64 12)) : Pure 37 #[Ptr tb] w (.int .i64 2) := by
  go_enter Tryz.func37, Tryz.ntmps37
  go_wp2_with fail
  go_ret
  exact ⟨rfl, rfl⟩
theorem csort_13 (tb : Nat) (w : World) (h0 : w.cell? ⟨tb, 0, none⟩ = some (.int .i64 13)) : Pure 37 #[Ptr tb] w (.int .i64 2) := by
  go_enter Tryz.func37, Tryz.ntmps37
  go_wp2_with fail
  go_ret
  exact ⟨rfl, rfl⟩
theorem csort_14 (tb : Nat) (w : World) (h0 : w.cell? ⟨tb, 0, none⟩ = some (.int .i64 14)) : Pure 37 #[Ptr tb] w (.int .i64 2) := by
  go_enter Tryz.func37, Tryz.ntmps37
  go_wp2_with fail
  go_ret
  exact ⟨rfl, rfl⟩
theorem csort_15 (tb : Nat) (w : World) (h0 : w.cell? ⟨tb, 0, none⟩ = some (.int .i64 15)) : Pure 37 #[Ptr tb] w (.int .i64 2) := by
  go_enter Tryz.func37, Tryz.ntmps37
  go_wp2_with fail
  go_ret
  exact ⟨rfl, rfl⟩
theorem csort_16 (tb : Nat) (w : World) (h0 : w.cell? ⟨tb, 0, none⟩ = some (.int .i64 16)) : Pure 37 #[Ptr tb] w (.int .i64 3) := by
  go_enter Tryz.func37, Tryz.ntmps37
  go_wp2_with fail
  go_ret
  exact ⟨rfl, rfl⟩
theorem csort_17 (tb : Nat) (w : World) (h0 : w.cell? ⟨tb, 0, none⟩ = some (.int .i64 17)) : Pure 37 #[Ptr tb] w (.int .i64 3) := by
  go_enter Tryz.func37, Tryz.ntmps37
  go_wp2_with fail
  go_ret
  exact ⟨rfl, rfl⟩
theorem lsort_7_2 (tb ka off c n b0 : Nat) (w : World) (h0 : w.cell? ⟨tb, 0, none⟩ = some (.int .i64 7)) (h6 : w.cell? ⟨tb, 6, none⟩ = some (.slice (some ⟨ka, off, none⟩) n c)) (hn : 0 < n) (hk : w.cell? ⟨ka, off, none⟩ = some (Ptr b0)) (ih : Pure 36 #[Ptr b0] w (.int .i64 2)) : Pure 36 #[Ptr tb] w (.int .i64 2) := by
  have hn' : (0 : Int) < n := by omega
  have IH := Lib.hid ih
  clear ih
  go_enter Tryz.func36, Tryz.ntmps36
  go_wp2_with fail
  refine IH.out.mono ?_
  rintro e w' ⟨rfl, rfl⟩
  go_wp2_with fail
  go_ret
  exact ⟨rfl, rfl⟩
theorem lsort_7_3 (tb ka off c n b0 : Nat) (w : World) (h0 : w.cell? ⟨tb, 0, none⟩ = some (.int .i64 7)) (h6 : w.cell? ⟨tb, 6, none⟩ = some (.slice (some ⟨ka, off, none⟩) n c)) (hn : 0 < n) (hk : w.cell? ⟨ka, off, none⟩ = some (Ptr b0)) (ih : Pure 36 #[Ptr b0] w (.int .i64 3)) : Pure 36 #[Ptr tb] w (.int .i64 3) := by
  have hn' : (0 : Int) < n := by omega
  have IH := Lib.hid ih
  clear ih
  go_enter Tryz.func36, Tryz.ntmps36
  go_wp2_with fail
  refine IH.out.mono ?_
  rintro e w' ⟨rfl, rfl⟩
  go_wp2_with fail
  go_ret
  exact ⟨rfl, rfl⟩
theorem lsort_8_2 (tb ka off c n b0 : Nat) (w : World) (h0 : w.cell? ⟨tb, 0, none⟩ = some (.int .i64 8)) (h6 : w.cell? ⟨tb, 6, none⟩ = some (.slice (some ⟨ka, off, none⟩) n c)) (hn : 0 < n) (hk : w.cell? ⟨ka, off, none⟩ = some (Ptr b0)) (ih : Pure 36 #[Ptr b0] w (.int .i64 2)) : Pure 36 #[Ptr tb] w (.int .i64 2) := by
  have hn' : (0 : Int) < n := by omega
  have IH := Lib.hid ih
  clear ih
  go_enter Tryz.func36, Tryz.ntmps36
  go_wp2_with fail
  refine IH.out.mono ?_
  rintro e w' ⟨rfl, rfl⟩
  go_wp2_with fail
  go_ret
  exact ⟨rfl, rfl⟩
theorem lsort_8_3 (tb ka off c n b0 : Nat) (w : World) (h0 : w.cell? ⟨tb, 0, none⟩ = some (.int .i64 8)) (h6 : w.cell? ⟨tb, 6, none⟩ = some (.slice (some ⟨ka, off, none⟩) n c)) (hn : 0 < n) (hk : w.cell? ⟨ka, off, none⟩ = some (Ptr b0)) (ih : Pure 36 #[Ptr b0] w (.int .i64 3)) : Pure 36 #[Ptr tb] w (.int .i64 3) := by
  have hn' : (0 : Int) < n := by omega
  have IH := Lib.hid ih
  clear ih
  go_enter Tryz.func36, Tryz.ntmps36
  go_wp2_with fail
  refine IH.out.mono ?_
  rintro e w' ⟨rfl, rfl⟩
  go_wp2_with fail
  go_ret
  exact ⟨rfl, rfl⟩
theorem lsort_9_2 (tb ka off c n b0 : Nat) (w : World) (h0 : w.cell? ⟨tb, 0, none⟩ = some (.int .i64 9)) (h6 : w.cell? ⟨tb, 6, none⟩ = some (.slice (some ⟨ka, off, none⟩) n c)) (hn : 0 < n) (hk : w.cell? ⟨ka, off, none⟩ = some (Ptr b0)) (ih : Pure 36 #[Ptr b0] w (.int .i64 2)) : Pure 36 #[Ptr tb] w (.int .i64 2) := by
  have hn' : (0 : Int) < n := by omega
  have IH := Lib.hid ih
  clear ih
  go_enter Tryz.func36, Tryz.ntmps36
  go_wp2_with fail
  refine IH.out.mono ?_
  rintro e w' ⟨rfl, rfl⟩
  go_wp2_with fail
  go_ret
  exact ⟨rfl, rfl⟩
theorem lsort_9_3 (tb ka off c n b0 : Nat) (w : World) (h0 : w.cell? ⟨tb, 0, none⟩ = some (.int .i64 9)) (h6 : w.cell? ⟨tb, 6, none⟩ = some (.slice (some ⟨ka, off, none⟩) n c)) (hn : 0 < n) (hk : w.cell? ⟨ka, off, none⟩ = some (Ptr b0)) (ih : Pure 36 #[Ptr b0] w (.int .i64 3)) : Pure 36 #[Ptr tb] w (.int .i64 3) := by
  have hn' : (0 : Int) < n := by omega
  have IH := Lib.hid ih
  clear ih
  go_enter Tryz.func36, Tryz.ntmps36
  go_wp2_with fail
  refine IH.out.mono ?_
  rintro e w' ⟨rfl, rfl⟩
  go_wp2_with fail
  go_ret
  exact ⟨rfl, rfl⟩
theorem csort_7_2 (tb ka off c n b0 : Nat) (w : World) (h0 : w.cell? ⟨tb, 0, none⟩ = some (.int .i64 7)) (h6 : w.cell? ⟨tb, 6, none⟩ = some (.slice (some ⟨ka, off, none⟩) n c)) (hn : 0 < n) (hk : w.cell? ⟨ka, off, none⟩ = some (Ptr b0)) (ih : Pure 37 #[Ptr b0] w (.int .i64 2)) : Pure 37 #[Ptr tb] w (.int .i64 2) := by
  have hn' : (0 : Int) < n := by omega
  have IH := Lib.hid ih
  clear ih
  go_enter Tryz.func37, Tryz.ntmps37
  go_wp2_with fail
  refine IH.out.mono ?_
  rintro e w' ⟨rfl, rfl⟩
  go_wp2_with fail
  go_ret
  exact ⟨rfl, rfl⟩
theorem csort_7_3 (tb ka off c n b0 : Nat) (w : World) (h0 : w.cell? ⟨tb, 0, none⟩ = some (.int .i64 7)) (h6 : w.cell? ⟨tb, 6, none⟩ = some (.slice (some ⟨ka, off, none⟩) n c)) (hn : 0 < n) (hk : w.cell? ⟨ka, off, none⟩ = some (Ptr b0)) (ih : Pure 37 #[Ptr b0] w (.int .i64 3)) : Pure 37 #[Ptr tb] w (.int .i64 3) := by
  have hn' : (0 : Int) < n := by omega
  have IH := Lib.hid ih
  clear ih
  go_enter Tryz.func37, Tryz.ntmps37
  go_wp2_with fail
  refine IH.out.mono ?_
  rintro e w' ⟨rfl, rfl⟩
  go_wp2_with fail
  go_ret
  exact ⟨rfl, rfl⟩
theorem csort_8_2 (tb ka off c n b0 : Nat) (w : World) (h0 : w.cell? ⟨tb, 0, none⟩ = some (.int .i64 8)) (h6 : w.cell? ⟨tb, 6, none⟩ = some (.slice (some ⟨ka, off, none⟩) n c)) (hn : 0 < n) (hk : w.cell? ⟨ka, off, none⟩ = some (Ptr b0)) (ih : Pure 37 #[Ptr b0] w (.int .i64 2)) : Pure 37 #[Ptr tb] w (.int .i64 2) := by
  have hn' : (0 : Int) < n := by omega
  have IH := Lib.hid ih
  clear ih
  go_enter Tryz.func37, Tryz.ntmps37
  go_wp2_with fail
  refine IH.out.mono ?_
  rintro e w' ⟨rfl, rfl⟩
  go_wp2_with fail
  go_ret
  exact ⟨rfl, rfl⟩
theorem csort_8_3 (tb ka off c n b0 : Nat) (w : World) (h0 : w.cell? ⟨tb, 0, none⟩ = some (.int .i64 8)) (h6 : w.cell? ⟨tb, 6, none⟩ = some (.slice (some ⟨ka, off, none⟩) n c)) (hn : 0 < n) (hk : w.cell? ⟨ka, off, none⟩ = some (Ptr b0)) (ih : Pure 37 #[Ptr b0] w (.int .i64 3)) : Pure 37 #[Ptr tb] w (.int .i64 3) := by
  have hn' : (0 : Int) < n := by omega
  have IH := Lib.hid ih
  clear ih
  go_enter Tryz.func37, Tryz.ntmps37
  go_wp2_with fail
  refine IH.out.mono ?_
  rintro e w' ⟨rfl, rfl⟩
  go_wp2_with fail
  go_ret
  exact ⟨rfl, rfl⟩
theorem csort_9_2 (tb ka off c n b0 : Nat) (w : World) (h0 : w.cell? ⟨tb, 0, none⟩ = some (.int .i64 9)) (h6 : w.cell? ⟨tb, 6, none⟩ = some (.slice (some ⟨ka, off, none⟩) n c)) (hn : 0 < n) (hk : w.cell? ⟨ka, off, none⟩ = some (Ptr b0)) (ih : Pure 37 #[Ptr b0] w (.int .i64 2)) : Pure 37 #[Ptr tb] w (.int .i64 2) := by
  have hn' : (0 : Int) < n := by omega
  have IH := Lib.hid ih
  clear ih
  go_enter Tryz.func37, Tryz.ntmps37
  go_wp2_with fail
  refine IH.out.mono ?_
  rintro e w' ⟨rfl, rfl⟩
  go_wp2_with fail
  go_ret
  exact ⟨rfl, rfl⟩
theorem csort_9_3 (tb ka off c n b0 : Nat) (w : World) (h0 : w.cell? ⟨tb, 0, none⟩ = some (.int .i64 9)) (h6 : w.cell? ⟨tb, 6, none⟩ = some (.slice (some ⟨ka, off, none⟩) n c)) (hn : 0 < n) (hk : w.cell? ⟨ka, off, none⟩ = some (Ptr b0)) (ih : Pure 37 #[Ptr b0] w (.int .i64 3)) : Pure 37 #[Ptr tb] w (.int .i64 3) := by
  have hn' : (0 : Int) < n := by omega
  have IH := Lib.hid ih
  clear ih
  go_enter Tryz.func37, Tryz.ntmps37
  go_wp2_with fail
  refine IH.out.mono ?_
  rintro e w' ⟨rfl, rfl⟩
  go_wp2_with fail
  go_ret
  exact ⟨rfl, rfl⟩
theorem csort_nil (w : World) : Pure 37 #[.pointer none] w (.int .i64 0) := by
  go_enter Tryz.func37, Tryz.ntmps37
  go_wp2_with fail
  go_ret
  exact ⟨rfl, rfl⟩
/-- both sorts of a good term -/
theorem sorts_any : ∀ (m : Nat) {t : Pv.T} {tb : Nat} {w : World}, Pv.tsize t ≤ m → Pv.TGood t → TAt H w t tb → ∃ s : Nat, (s = 2 ∨ s = 3) ∧ Pure 36 #[Ptr tb] w (.int .i64 (s : Int)) ∧ Pure 37 #[Ptr tb] w (.int .i64 (s : Int))
  | 0, .mk op at_ name re tx bk ks, tb, w, hm, hg, ht => by simp only [Pv.tsize] at hm; omega
  | m + 1, .mk op at_ name re tx bk ks, tb, w, hm, hg, ht => by
    have hg' := hg.open_
    have h0 : w.cell? ⟨tb, 0, none⟩ = some (.int .i64 (op : Int)) := by
      obtain ⟨_, rv, a, c, bs, _, _, h1, _⟩ := ht.open_
      exact cell_of_blk (o := 0) h1 rfl
    simp only [Pv.T.op, Pv.T.kids] at hg'
    obtain ⟨h2, h17, hs, _, _, _, hks⟩ := hg'
    have hleaf : op = 2 ∨ op = 3 ∨ op = 4 ∨ op = 5 ∨ op = 6 ∨ op = 10 ∨ op = 11 ∨ op = 12 ∨ op = 13 ∨ op = 14 ∨ op = 15 ∨ op = 16 ∨ op = 17 ∨ (op = 7 ∨ op = 8 ∨ op = 9) := by omega
    rcases hleaf with rfl | rfl | rfl | rfl | rfl | rfl | rfl | rfl | rfl | rfl | rfl | rfl | rfl | hk
    · exact ⟨2, .inl rfl, lsort_2 tb w h0, csort_2 tb w h0⟩
    · exact ⟨2, .inl rfl, lsort_3 tb w h0, csort_3 tb w h0⟩
    · exact ⟨2, .inl rfl, lsort_4 tb w h0, csort_4 tb w h0⟩
    · exact ⟨2, .inl rfl, lsort_5 tb w h0, csort_5 tb w h0⟩
    · exact ⟨2, .inl rfl, lsort_6 tb w h0, csort_6 tb w h0⟩
    · exact ⟨2, .inl rfl, lsort_10 tb w h0, csort_10 tb w h0⟩
    · exact ⟨2, .inl rfl, lsort_11 tb w h0, csort_11 tb w h0⟩
    · exact ⟨2, .inl rfl, lsort_12 tb w h0, csort_12 tb w h0⟩
    · exact ⟨2, .inl rfl, lsort_13 tb w h0, csort_13 tb w h0⟩
    · exact ⟨2, .inl rfl, lsort_14 tb w h0, csort_14 tb w h0⟩
    · exact ⟨2, .inl rfl, lsort_15 tb w h0, csort_15 tb w h0⟩
    · exact ⟨3, .inr rfl, lsort_16 tb w h0, csort_16 tb w h0⟩
    · exact ⟨3, .inr rfl, lsort_17 tb w h0, csort_17 tb w h0⟩
    · cases ks with
      | nil =>
        exfalso
        rcases hk with rfl | rfl | rfl <;> simp [Pv.shapedOf] at hs
      | cons k ks =>
        obtain ⟨rv, ka, off, c, n, b0, h6, hn, hc, hkt, _⟩ := ht.kid0 (by simp [Pv.T.kids])
        have hgk : Pv.TGood k := hks.mem k (by simp)
        obtain ⟨s, hs2, i1, i2⟩ := sorts_any m (t := k) (by simp only [Pv.tsize, Pv.tsizes] at hm; omega) hgk (by simpa [Pv.T.kids] using hkt)
        have hn0 : 0 < n := by rw [hn]; simp [Pv.T.kids]
        refine ⟨s, hs2, ?_⟩
        rcases hs2 with rfl | rfl <;> rcases hk with rfl | rfl | rfl
        · exact ⟨lsort_7_2 tb ka off c n b0 w h0 h6 hn0 hc i1, csort_7_2 tb ka off c n b0 w h0 h6 hn0 hc i2⟩
        · exact ⟨lsort_8_2 tb ka off c n b0 w h0 h6 hn0 hc i1, csort_8_2 tb ka off c n b0 w h0 h6 hn0 hc i2⟩
        · exact ⟨lsort_9_2 tb ka off c n b0 w h0 h6 hn0 hc i1, csort_9_2 tb ka off c n b0 w h0 h6 hn0 hc i2⟩
        · exact ⟨lsort_7_3 tb ka off c n b0 w h0 h6 hn0 hc i1, csort_7_3 tb ka off c n b0 w h0 h6 hn0 hc i2⟩
        · exact ⟨lsort_8_3 tb ka off c n b0 w h0 h6 hn0 hc i1, csort_8_3 tb ka off c n b0 w h0 h6 hn0 hc i2⟩
        · exact ⟨lsort_9_3 tb ka off c n b0 w h0 h6 hn0 hc i1, csort_9_3 tb ka off c n b0 w h0 h6 hn0 hc i2⟩

/-! ### Shaped -/
theorem shp_2 (tb : Nat) (at_ : Int) (name text back : List UInt8) (w : World) (rv : Value) (a : Option Addr) (n c : Nat) (rb:Nat) (h : TermAt w tb 2 at_ name (Ptr rb) text back (.slice a n c)) : Pure 38 #[Ptr tb] w (.bool ((n:Int) == 0)) := by
  have h0 : w.cell? ⟨tb, 0, none⟩ = some (.int .i64 2) := cell_of_blk (o := 0) h rfl
  have h3 : w.cell? ⟨tb, 3, none⟩ = some (Ptr rb) := cell_of_blk (o := 3) h rfl
  have h6 : w.cell? ⟨tb, 6, none⟩ = some (.slice a n c) := cell_of_blk (o := 6) h rfl
  clear h
  go_enter Tryz.func38, Tryz.ntmps38
  go_wp2_with fail
  go_ret
  exact ⟨rfl, rfl⟩
theorem shp_3 (tb : Nat) (at_ : Int) (name text back : List UInt8) (w : World) (rv : Value) (a : Option Addr) (n c : Nat) (rb:Nat) (h : TermAt w tb 3 at_ name (Ptr rb) text back (.slice a n c)) : Pure 38 #[Ptr tb] w (.bool ((n:Int) == 0)) := by
  have h0 : w.cell? ⟨tb, 0, none⟩ = some (.int .i64 3) := cell_of_blk (o := 0) h rfl
  have h3 : w.cell? ⟨tb, 3, none⟩ = some (Ptr rb) := cell_of_blk (o := 3) h rfl
  have h6 : w.cell? ⟨tb, 6, none⟩ = some (.slice a n c) := cell_of_blk (o := 6) h rfl
  clear h
  go_enter Tryz.func38, Tryz.ntmps38
  go_wp2_with fail
  go_ret
  exact ⟨rfl, rfl⟩
theorem shp_4 (tb : Nat) (at_ : Int) (name text back : List UInt8) (w : World) (rv : Value) (a : Option Addr) (n c : Nat) (rb:Nat) (h : TermAt w tb 4 at_ name (Ptr rb) text back (.slice a n c)) : Pure 38 #[Ptr tb] w (.bool ((n:Int) == 0)) := by
  have h0 : w.cell? ⟨tb, 0, none⟩ = some (.int .i64 4) := cell_of_blk (o := 0) h rfl
  have h3 : w.cell? ⟨tb, 3, none⟩ = some (Ptr rb) := cell_of_blk (o := 3) h rfl
  have h6 : w.cell? ⟨tb, 6, none⟩ = some (.slice a n c) := cell_of_blk (o := 6) h rfl
  clear h
  go_enter Tryz.func38, Tryz.ntmps38
  go_wp2_with fail
  go_ret
  exact ⟨rfl, rfl⟩
theorem shp_5 (tb : Nat) (at_ : Int) (name text back : List UInt8) (w : World) (rv : Value) (a : Option Addr) (n c : Nat) (rb:Nat) (h : TermAt w tb 5 at_ name (Ptr rb) text back (.slice a n c)) : Pure 38 #[Ptr tb] w (.bool ((n:Int) == 0)) := by
  have h0 : w.cell? ⟨tb, 0, none⟩ = some (.int .i64 5) := cell_of_blk (o := 0) h rfl
  have h3 : w.cell? ⟨tb, 3, none⟩ = some (Ptr rb) := cell_of_blk (o := 3) h rfl
  have h6 : w.cell? ⟨tb, 6, none⟩ = some (.slice a n c) := cell_of_blk (o := 6) h rfl
  clear h
  go_enter Tryz.func38, Tryz.ntmps38
  go_wp2_with fail
  go_ret
  exact ⟨rfl, rfl⟩
theorem shp_16 (tb : Nat) (at_ : Int) (name text back : List UInt8) (w : World) (rv : Value) (a : Option Addr) (n c : Nat) (rb:Nat) (h : TermAt w tb 16 at_ name (Ptr rb) text back (.slice a n c)) : Pure 38 #[Ptr tb] w (.bool ((n:Int) == 0)) := by
  have h0 : w.cell? ⟨tb, 0, none⟩ = some (.int .i64 16) := cell_of_blk (o := 0) h rfl
  have h3 : w.cell? ⟨tb, 3, none⟩ = some (Ptr rb) := cell_of_blk (o := 3) h rfl
  have h6 : w.cell? ⟨tb, 6, none⟩ = some (.slice a n c) := cell_of_blk (o := 6) h rfl
  clear h
  go_enter Tryz.func38, Tryz.ntmps38
  go_wp2_with fail
  go_ret
  exact ⟨rfl, rfl⟩
theorem shp_17 (tb : Nat) (at_ : Int) (name text back : List UInt8) (w : World) (rv : Value) (a : Option Addr) (n c : Nat) (rb:Nat) (h : TermAt w tb 17 at_ name (Ptr rb) text back (.slice a n c)) : Pure 38 #[Ptr tb] w (.bool ((n:Int) == 0)) := by
  have h0 : w.cell? ⟨tb, 0, none⟩ = some (.int .i64 17) := cell_of_blk (o := 0) h rfl
  have h3 : w.cell? ⟨tb, 3, none⟩ = some (Ptr rb) := cell_of_blk (o := 3) h rfl
  have h6 : w.cell? ⟨tb, 6, none⟩ = some (.slice a n c) := cell_of_blk (o := 6) h rfl
  clear h
  go_enter Tryz.func38, Tryz.ntmps38
  go_wp2_with fail
  go_ret
  exact ⟨rfl, rfl⟩
theorem shp_6 (tb : Nat) (at_ : Int) (name text back : List UInt8) (w : World) (rv : Value) (a : Option Addr) (n c : Nat)  (h : TermAt w tb 6 at_ name (rv) text back (.slice a n c)) : Pure 38 #[Ptr tb] w (.bool ((n:Int) == 0)) := by
  have h0 : w.cell? ⟨tb, 0, none⟩ = some (.int .i64 6) := cell_of_blk (o := 0) h rfl
  have h3 : w.cell? ⟨tb, 3, none⟩ = some (rv) := cell_of_blk (o := 3) h rfl
  have h6 : w.cell? ⟨tb, 6, none⟩ = some (.slice a n c) := cell_of_blk (o := 6) h rfl
  clear h
  go_enter Tryz.func38, Tryz.ntmps38
  go_wp2_with fail
  go_ret
  exact ⟨rfl, rfl⟩
theorem shpn_2 (tb : Nat) (at_ : Int) (name text back : List UInt8) (w : World) (a : Option Addr) (n c : Nat) (h : TermAt w tb 2 at_ name (.pointer none) text back (.slice a n c)) : Pure 38 #[Ptr tb] w (.bool false) := by
  have h0 : w.cell? ⟨tb, 0, none⟩ = some (.int .i64 2) := cell_of_blk (o := 0) h rfl
  have h3 : w.cell? ⟨tb, 3, none⟩ = some (.pointer none) := cell_of_blk (o := 3) h rfl
  have h6 : w.cell? ⟨tb, 6, none⟩ = some (.slice a n c) := cell_of_blk (o := 6) h rfl
  clear h
  go_enter Tryz.func38, Tryz.ntmps38
  go_wp2_with fail
  go_ret
  exact ⟨rfl, rfl⟩
theorem shpn_3 (tb : Nat) (at_ : Int) (name text back : List UInt8) (w : World) (a : Option Addr) (n c : Nat) (h : TermAt w tb 3 at_ name (.pointer none) text back (.slice a n c)) : Pure 38 #[Ptr tb] w (.bool false) := by
  have h0 : w.cell? ⟨tb, 0, none⟩ = some (.int .i64 3) := cell_of_blk (o := 0) h rfl
  have h3 : w.cell? ⟨tb, 3, none⟩ = some (.pointer none) := cell_of_blk (o := 3) h rfl
  have h6 : w.cell? ⟨tb, 6, none⟩ = some (.slice a n c) := cell_of_blk (o := 6) h rfl
  clear h
  go_enter Tryz.func38, Tryz.ntmps38
  go_wp2_with fail
  go_ret
  exact ⟨rfl, rfl⟩
theorem shpn_4 (tb : Nat) (at_ : Int) (name text back : List UInt8) (w : World) (a : Option Addr) (n c : Nat) (h : TermAt w tb 4 at_ name (.pointer none) text back (.slice a n c)) : Pure 38 #[Ptr tb] w (.bool false) := by
  have h0 : w.cell? ⟨tb, 0, none⟩ = some (.int .i64 4) := cell_of_blk (o := 0) h rfl
  have h3 : w.cell? ⟨tb, 3, none⟩ = some (.pointer none) := cell_of_blk (o := 3) h rfl
  have h6 : w.cell? ⟨tb, 6, none⟩ = some (.slice a n c) := cell_of_blk (o := 6) h rfl
  clear h
  go_enter Tryz.func38, Tryz.ntmps38
  go_wp2_with fail
  go_ret
  exact ⟨rfl, rfl⟩
theorem shpn_5 (tb : Nat) (at_ : Int) (name text back : List UInt8) (w : World) (a : Option Addr) (n c : Nat) (h : TermAt w tb 5 at_ name (.pointer none) text back (.slice a n c)) : Pure 38 #[Ptr tb] w (.bool false) := by
  have h0 : w.cell? ⟨tb, 0, none⟩ = some (.int .i64 5) := cell_of_blk (o := 0) h rfl
  have h3 : w.cell? ⟨tb, 3, none⟩ = some (.pointer none) := cell_of_blk (o := 3) h rfl
  have h6 : w.cell? ⟨tb, 6, none⟩ = some (.slice a n c) := cell_of_blk (o := 6) h rfl
  clear h
  go_enter Tryz.func38, Tryz.ntmps38
  go_wp2_with fail
  go_ret
  exact ⟨rfl, rfl⟩
theorem shpn_16 (tb : Nat) (at_ : Int) (name text back : List UInt8) (w : World) (a : Option Addr) (n c : Nat) (h : TermAt w tb 16 at_ name (.pointer none) text back (.slice a n c)) : Pure 38 #[Ptr tb] w (.bool false) := by
  have h0 : w.cell? ⟨tb, 0, none⟩ = some (.int .i64 16) := cell_of_blk (o := 0) h rfl
  have h3 : w.cell? ⟨tb, 3, none⟩ = some (.pointer none) := cell_of_blk (o := 3) h rfl
  have h6 : w.cell? ⟨tb, 6, none⟩ = some (.slice a n c) := cell_of_blk (o := 6) h rfl
  clear h
  go_enter Tryz.func38, Tryz.ntmps38
  go_wp2_with fail
  go_ret
  exact ⟨rfl, rfl⟩
theorem shpn_17 (tb : Nat) (at_ : Int) (name text back : List UInt8) (w : World) (a : Option Addr) (n c : Nat) (h : TermAt w tb 17 at_ name (.pointer none) text back (.slice a n c)) : Pure 38 #[Ptr tb] w (.bool false) := by
  have h0 : w.cell? ⟨tb, 0, none⟩ = some (.int .i64 17) := cell_of_blk (o := 0) h rfl
  have h3 : w.cell? ⟨tb, 3, none⟩ = some (.pointer none) := cell_of_blk (o := 3) h rfl
  have h6 : w.cell? ⟨tb, 6, none⟩ = some (.slice a n c) := cell_of_blk (o := 6) h rfl
  clear h
  go_enter Tryz.func38, Tryz.ntmps38
  go_wp2_with fail
  go_ret
  exact ⟨rfl, rfl⟩
theorem shp_7 (tb : Nat) (at_ : Int) (name text back : List UInt8) (w : World) (rv : Value) (a : Option Addr) (n c : Nat)  (h : TermAt w tb 7 at_ name (rv) text back (.slice a n c)) : Pure 38 #[Ptr tb] w (.bool ((n:Int) == 2)) := by
  have h0 : w.cell? ⟨tb, 0, none⟩ = some (.int .i64 7) := cell_of_blk (o := 0) h rfl
  have h3 : w.cell? ⟨tb, 3, none⟩ = some (rv) := cell_of_blk (o := 3) h rfl
  have h6 : w.cell? ⟨tb, 6, none⟩ = some (.slice a n c) := cell_of_blk (o := 6) h rfl
  clear h
  go_enter Tryz.func38, Tryz.ntmps38
  go_wp2_with fail
  go_ret
  exact ⟨rfl, rfl⟩
theorem shp_8 (tb : Nat) (at_ : Int) (name text back : List UInt8) (w : World) (rv : Value) (a : Option Addr) (n c : Nat)  (h : TermAt w tb 8 at_ name (rv) text back (.slice a n c)) : Pure 38 #[Ptr tb] w (.bool ((n:Int) == 2)) := by
  have h0 : w.cell? ⟨tb, 0, none⟩ = some (.int .i64 8) := cell_of_blk (o := 0) h rfl
  have h3 : w.cell? ⟨tb, 3, none⟩ = some (rv) := cell_of_blk (o := 3) h rfl
  have h6 : w.cell? ⟨tb, 6, none⟩ = some (.slice a n c) := cell_of_blk (o := 6) h rfl
  clear h
  go_enter Tryz.func38, Tryz.ntmps38
  go_wp2_with fail
  go_ret
  exact ⟨rfl, rfl⟩
theorem shp_10 (tb : Nat) (at_ : Int) (name text back : List UInt8) (w : World) (rv : Value) (a : Option Addr) (n c : Nat)  (h : TermAt w tb 10 at_ name (rv) text back (.slice a n c)) : Pure 38 #[Ptr tb] w (.bool ((n:Int) == 2)) := by
  have h0 : w.cell? ⟨tb, 0, none⟩ = some (.int .i64 10) := cell_of_blk (o := 0) h rfl
  have h3 : w.cell? ⟨tb, 3, none⟩ = some (rv) := cell_of_blk (o := 3) h rfl
  have h6 : w.cell? ⟨tb, 6, none⟩ = some (.slice a n c) := cell_of_blk (o := 6) h rfl
  clear h
  go_enter Tryz.func38, Tryz.ntmps38
  go_wp2_with fail
  go_ret
  exact ⟨rfl, rfl⟩
theorem shp_11 (tb : Nat) (at_ : Int) (name text back : List UInt8) (w : World) (rv : Value) (a : Option Addr) (n c : Nat)  (h : TermAt w tb 11 at_ name (rv) text back (.slice a n c)) : Pure 38 #[Ptr tb] w (.bool ((n:Int) == 2)) := by
  have h0 : w.cell? ⟨tb, 0, none⟩ = some (.int .i64 11) := cell_of_blk (o := 0) h rfl
  have h3 : w.cell? ⟨tb, 3, none⟩ = some (rv) := cell_of_blk (o := 3) h rfl
  have h6 : w.cell? ⟨tb, 6, none⟩ = some (.slice a n c) := cell_of_blk (o := 6) h rfl
  clear h
  go_enter Tryz.func38, Tryz.ntmps38
  go_wp2_with fail
  go_ret
  exact ⟨rfl, rfl⟩
theorem shp_14 (tb : Nat) (at_ : Int) (name text back : List UInt8) (w : World) (rv : Value) (a : Option Addr) (n c : Nat)  (h : TermAt w tb 14 at_ name (rv) text back (.slice a n c)) : Pure 38 #[Ptr tb] w (.bool ((n:Int) == 2)) := by
  have h0 : w.cell? ⟨tb, 0, none⟩ = some (.int .i64 14) := cell_of_blk (o := 0) h rfl
  have h3 : w.cell? ⟨tb, 3, none⟩ = some (rv) := cell_of_blk (o := 3) h rfl
  have h6 : w.cell? ⟨tb, 6, none⟩ = some (.slice a n c) := cell_of_blk (o := 6) h rfl
  clear h
  go_enter Tryz.func38, Tryz.ntmps38
  go_wp2_with fail
  go_ret
  exact ⟨rfl, rfl⟩
theorem shp_15 (tb : Nat) (at_ : Int) (name text back : List UInt8) (w : World) (rv : Value) (a : Option Addr) (n c : Nat)  (h : TermAt w tb 15 at_ name (rv) text back (.slice a n c)) : Pure 38 #[Ptr tb] w (.bool ((n:Int) == 2)) := by
  have h0 : w.cell? ⟨tb, 0, none⟩ = some (.int .i64 15) := cell_of_blk (o := 0) h rfl
  have h3 : w.cell? ⟨tb, 3, none⟩ = some (rv) := cell_of_blk (o := 3) h rfl
  have h6 : w.cell? ⟨tb, 6, none⟩ = some (.slice a n c) := cell_of_blk (o := 6) h rfl
  clear h
  go_enter Tryz.func38, Tryz.ntmps38
  go_wp2_with fail
  go_ret
  exact ⟨rfl, rfl⟩
theorem shp_9 (tb : Nat) (at_ : Int) (name text back : List UInt8) (w : World) (rv : Value) (a : Option Addr) (n c : Nat)  (h : TermAt w tb 9 at_ name (rv) text back (.slice a n c)) : Pure 38 #[Ptr tb] w (.bool ((n:Int) == 1)) := by
  have h0 : w.cell? ⟨tb, 0, none⟩ = some (.int .i64 9) := cell_of_blk (o := 0) h rfl
  have h3 : w.cell? ⟨tb, 3, none⟩ = some (rv) := cell_of_blk (o := 3) h rfl
  have h6 : w.cell? ⟨tb, 6, none⟩ = some (.slice a n c) := cell_of_blk (o := 6) h rfl
  clear h
  go_enter Tryz.func38, Tryz.ntmps38
  go_wp2_with fail
  go_ret
  exact ⟨rfl, rfl⟩
theorem shp_12 (tb : Nat) (at_ : Int) (name text back : List UInt8) (w : World) (rv : Value) (a : Option Addr) (n c : Nat)  (h : TermAt w tb 12 at_ name (rv) text back (.slice a n c)) : Pure 38 #[Ptr tb] w (.bool ((n:Int) == 1)) := by
  have h0 : w.cell? ⟨tb, 0, none⟩ = some (.int .i64 12) := cell_of_blk (o := 0) h rfl
  have h3 : w.cell? ⟨tb, 3, none⟩ = some (rv) := cell_of_blk (o := 3) h rfl
  have h6 : w.cell? ⟨tb, 6, none⟩ = some (.slice a n c) := cell_of_blk (o := 6) h rfl
  clear h
  go_enter Tryz.func38, Tryz.ntmps38
  go_wp2_with fail
  go_ret
  exact ⟨rfl, rfl⟩
theorem shp_13 (tb : Nat) (at_ : Int) (name text back : List UInt8) (w : World) (rv : Value) (a : Option Addr) (n c : Nat)  (h : TermAt w tb 13 at_ name (rv) text back (.slice a n c)) : Pure 38 #[Ptr tb] w (.bool ((n:Int) == 1)) := by
  have h0 : w.cell? ⟨tb, 0, none⟩ = some (.int .i64 13) := cell_of_blk (o := 0) h rfl
  have h3 : w.cell? ⟨tb, 3, none⟩ = some (rv) := cell_of_blk (o := 3) h rfl
  have h6 : w.cell? ⟨tb, 6, none⟩ = some (.slice a n c) := cell_of_blk (o := 6) h rfl
  clear h
  go_enter Tryz.func38, Tryz.ntmps38
  go_wp2_with fail
  go_ret
  exact ⟨rfl, rfl⟩
theorem shp_0 (tb : Nat) (at_ : Int) (name text back : List UInt8) (w : World) (rv : Value) (a : Option Addr) (n c : Nat) (h : TermAt w tb 0 at_ name rv text back (.slice a n c)) : Pure 38 #[Ptr tb] w (.bool false) := by
  have h0 : w.cell? ⟨tb, 0, none⟩ = some (.int .i64 0) := cell_of_blk (o := 0) h rfl
  clear h
  go_enter Tryz.func38, Tryz.ntmps38
  go_wp2_with fail
  go_ret
  exact ⟨rfl, rfl⟩
theorem shp_18 (tb : Nat) (at_ : Int) (name text back : List UInt8) (w : World) (rv : Value) (a : Option Addr) (n c : Nat) (h : TermAt w tb 18 at_ name rv text back (.slice a n c)) : Pure 38 #[Ptr tb] w (.bool false) := by
  have h0 : w.cell? ⟨tb, 0, none⟩ = some (.int .i64 18) := cell_of_blk (o := 0) h rfl
  clear h
  go_enter Tryz.func38, Tryz.ntmps38
  go_wp2_with fail
  go_ret
  exact ⟨rfl, rfl⟩
theorem shp_nil (w : World) : Pure 38 #[.pointer none] w (.bool false) := by
  go_enter Tryz.func38, Tryz.ntmps38
  go_wp2_with fail
  go_ret
  exact ⟨rfl, rfl⟩
theorem nat_eqb (n m : Nat) : ((n : Int) == (m : Int)) = (n == m) := by rw [Bool.eq_iff_iff]; simp only [beq_iff_eq]; omega
/-- an expression's pointer, or none -/
def RvO (re : Option Pv.R) (rv : Value) : Prop := if re.isSome then ∃ b, rv = Ptr b else rv = .pointer none
theorem ReO.rv {w : World} : ∀ {re : Option Pv.R} {rv : Value}, ReO H w re rv → RvO re rv
  | none, _, h => h
  | some _, _, h => by obtain ⟨b, e, _⟩ := h; exact ⟨b, e⟩
theorem shaped_all (op tb : Nat) (at_ : Int) (name text back : List UInt8) (w : World) (re : Option Pv.R) (rv : Value) (hr : RvO re rv) (a : Option Addr) (n c : Nat) (h2 : 2 ≤ op) (h17 : op ≤ 17) (h : TermAt w tb op at_ name rv text back (.slice a n c)) :
    Pure 38 #[Ptr tb] w (.bool (Pv.shapedOf op re.isSome n)) := by
  have e0 : ((n : Int) == 0) = (n == 0) := nat_eqb n 0
  have e1 : ((n : Int) == 1) = (n == 1) := nat_eqb n 1
  have e2 : ((n : Int) == 2) = (n == 2) := nat_eqb n 2
  have hop : op = 2 ∨ op = 3 ∨ op = 4 ∨ op = 5 ∨ op = 16 ∨ op = 17 ∨ op = 6 ∨ op = 7 ∨ op = 8 ∨ op = 10 ∨ op = 11 ∨ op = 14 ∨ op = 15 ∨ op = 9 ∨ op = 12 ∨ op = 13 := by omega
  rcases hop with rfl | rfl | rfl | rfl | rfl | rfl | rfl | rfl | rfl | rfl | rfl | rfl | rfl | rfl | rfl | rfl
  · cases re with
    | none => have hr' : rv = .pointer none := hr; subst hr'; exact shpn_2 tb at_ name text back w a n c h
    | some r => obtain ⟨rb, rfl⟩ := hr; have := shp_2 tb at_ name text back w (Ptr rb) a n c rb h; rw [e0] at this; simpa [Pv.shapedOf] using this
  · cases re with
    | none => have hr' : rv = .pointer none := hr; subst hr'; exact shpn_3 tb at_ name text back w a n c h
    | some r => obtain ⟨rb, rfl⟩ := hr; have := shp_3 tb at_ name text back w (Ptr rb) a n c rb h; rw [e0] at this; simpa [Pv.shapedOf] using this
  · cases re with
    | none => have hr' : rv = .pointer none := hr; subst hr'; exact shpn_4 tb at_ name text back w a n c h
    | some r => obtain ⟨rb, rfl⟩ := hr; have := shp_4 tb at_ name text back w (Ptr rb) a n c rb h; rw [e0] at this; simpa [Pv.shapedOf] using this
  · cases re with
    | none => have hr' : rv = .pointer none := hr; subst hr'; exact shpn_5 tb at_ name text back w a n c h
    | some r => obtain ⟨rb, rfl⟩ := hr; have := shp_5 tb at_ name text back w (Ptr rb) a n c rb h; rw [e0] at this; simpa [Pv.shapedOf] using this
  · cases re with
    | none => have hr' : rv = .pointer none := hr; subst hr'; exact shpn_16 tb at_ name text back w a n c h
    | some r => obtain ⟨rb, rfl⟩ := hr; have := shp_16 tb at_ name text back w (Ptr rb) a n c rb h; rw [e0] at this; simpa [Pv.shapedOf] using this
  · cases re with
    | none => have hr' : rv = .pointer none := hr; subst hr'; exact shpn_17 tb at_ name text back w a n c h
    | some r => obtain ⟨rb, rfl⟩ := hr; have := shp_17 tb at_ name text back w (Ptr rb) a n c rb h; rw [e0] at this; simpa [Pv.shapedOf] using this
  · have := shp_6 tb at_ name text back w rv a n c h; rw [e0] at this; simpa [Pv.shapedOf] using this
  · have := shp_7 tb at_ name text back w rv a n c h; rw [e2] at this; simpa [Pv.shapedOf] using this
  · have := shp_8 tb at_ name text back w rv a n c h; rw [e2] at this; simpa [Pv.shapedOf] using this
  · have := shp_10 tb at_ name text back w rv a n c h; rw [e2] at this; simpa [Pv.shapedOf] using this
  · have := shp_11 tb at_ name text back w rv a n c h; rw [e2] at this; simpa [Pv.shapedOf] using this
  · have := shp_14 tb at_ name text back w rv a n c h; rw [e2] at this; simpa [Pv.shapedOf] using this
  · have := shp_15 tb at_ name text back w rv a n c h; rw [e2] at this; simpa [Pv.shapedOf] using this
  · have := shp_9 tb at_ name text back w rv a n c h; rw [e1] at this; simpa [Pv.shapedOf] using this
  · have := shp_12 tb at_ name text back w rv a n c h; rw [e1] at this; simpa [Pv.shapedOf] using this
  · have := shp_13 tb at_ name text back w rv a n c h; rw [e1] at this; simpa [Pv.shapedOf] using this
end Go.Proofs.YtbimpenhmefpeaaGreatDoor
