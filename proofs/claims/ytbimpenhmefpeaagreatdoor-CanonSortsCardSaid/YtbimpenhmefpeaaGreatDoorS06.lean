/- The walks of package set. -/
import Derived.Test.YtbimpenhmefpeaaGreatDoorS04
import Derived.Test.YtbimpenhmefpeaaGreatDoorS05
set_option linter.all false
namespace Go.Proofs.YtbimpenhmefpeaaGreatDoor
open Go.RowKit

theorem bits_and (x y : BitVec 64) : bits .and .u64 (x.toNat : Int) (y.toNat : Int) = ((x &&& y).toNat : Int) := by
  show IntKind.u64.wrap ((BitVec.ofInt 64 (x.toNat : Int) &&& BitVec.ofInt 64 (y.toNat : Int)).toNat : Int) = _
  simp only [BitVec.ofInt_natCast, BitVec.ofNat_toNat, BitVec.setWidth_eq, IntKind.wrap_u64]
  have := (x &&& y).isLt
  omega
theorem bits_or (x y : BitVec 64) : bits .or .u64 (x.toNat : Int) (y.toNat : Int) = ((x ||| y).toNat : Int) := by
  show IntKind.u64.wrap ((BitVec.ofInt 64 (x.toNat : Int) ||| BitVec.ofInt 64 (y.toNat : Int)).toNat : Int) = _
  simp only [BitVec.ofInt_natCast, BitVec.ofNat_toNat, BitVec.setWidth_eq, IntKind.wrap_u64]
  have := (x ||| y).isLt
  omega
theorem bits_andNot (x y : BitVec 64) : bits .andNot .u64 (x.toNat : Int) (y.toNat : Int) = ((Pv.nand x y).toNat : Int) := by
  show IntKind.u64.wrap ((BitVec.ofInt 64 (x.toNat : Int) &&& ~~~BitVec.ofInt 64 (y.toNat : Int)).toNat : Int) = _
  simp only [BitVec.ofInt_natCast, BitVec.ofNat_toNat, BitVec.setWidth_eq, IntKind.wrap_u64]
  have := (x &&& ~~~y).isLt
  unfold Pv.nand
  omega
theorem bits_not (x : BitVec 64) : bits .xor .u64 IntKind.u64.max (x.toNat : Int) = ((Pv.inv x).toNat : Int) := by
  show IntKind.u64.wrap ((BitVec.ofInt 64 (IntKind.u64.max) ^^^ BitVec.ofInt 64 (x.toNat : Int)).toNat : Int) = _
  have h : BitVec.ofInt 64 IntKind.u64.max = BitVec.allOnes 64 := by decide
  rw [h]
  simp only [BitVec.ofInt_natCast, BitVec.ofNat_toNat, BitVec.setWidth_eq, IntKind.wrap_u64, BitVec.allOnes_xor]
  have := (~~~x).isLt
  unfold Pv.inv
  omega
set_option maxHeartbeats 400000 in
theorem and1 (x y : BitVec 64) (w : World) : Pure 127 #[W64 x, W64 y] w (W64 (x &&& y)) := by
  go_enter Tryz.func127, Tryz.ntmps127
  have := bits_and x y
  go_wp2
  go_ret
  exact ⟨rfl, rfl⟩
set_option maxHeartbeats 400000 in
theorem or1 (x y : BitVec 64) (w : World) : Pure 117 #[W64 x, W64 y] w (W64 (x ||| y)) := by
  go_enter Tryz.func117, Tryz.ntmps117
  have := bits_or x y
  go_wp2
  go_ret
  exact ⟨rfl, rfl⟩
set_option maxHeartbeats 400000 in
theorem minus1 (x y : BitVec 64) (w : World) : Pure 135 #[W64 x, W64 y] w (W64 (Pv.nand x y)) := by
  go_enter Tryz.func135, Tryz.ntmps135
  have := bits_andNot x y
  go_wp2
  go_ret
  exact ⟨rfl, rfl⟩
set_option maxHeartbeats 400000 in
theorem not1 (x y : BitVec 64) (w : World) : Pure 156 #[W64 x, W64 y] w (W64 (Pv.inv x)) := by
  go_enter Tryz.func156, Tryz.ntmps156
  have := bits_not x
  have hs : IntKind.u64.signed = false := rfl
  go_wp2
  go_ret
  exact ⟨rfl, rfl⟩
set_option maxHeartbeats 1000000 in
theorem each_any (g : Nat) (eg : Hid (Enters Tryz.prog g)) (F : BitVec 64 → BitVec 64 → BitVec 64) (hg : Hid (∀ x y w, Calls Tryz.prog g #[W64 x, W64 y] w fun e w' => e = .returned (W64 (F x y)) ∧ w = w')) (s t : Pv.S4) (w : World) :
    Calls Tryz.prog 116 #[S4V s, S4V t, .func (.func g) #[] #[]] w fun e w' => e = .returned (S4V (Pv.S4.map2 F s t)) ∧ Below w.heap.size w w' := by
  go_enter Tryz.func116, Tryz.ntmps116
  go_wp2
  go_loopw [8, 9] (fun _ i wr => ∃ k : Nat, k ≤ 4 ∧ i = .int .i64 k ∧ Below w.heap.size w wr ∧ w.heap.size + 4 ≤ wr.heap.size ∧
     wr.heap[w.heap.size]? = some (.cells (S4C s) 85) ∧ wr.heap[w.heap.size + 1]? = some (.cells (S4C t) 85) ∧
     wr.heap[w.heap.size + 1 + 1]? = some (.cells #[.int .u64 0, .int .u64 0, .int .u64 0, .int .u64 0] 85) ∧ 
     (∃ c : Pv.S4, wr.heap[w.heap.size + 1 + 1 + 1]? = some (.cells (S4C c) 85) ∧ ∀ j, j < k → c.word j = F (s.word j) (t.word j))) (fun _ i _ => (4 - intOf i).toNat)
  case atStart =>
    refine ⟨0, by omega, rfl, ?_, by simp, ?_, ?_, ?_, Pv.S4.zero, ?_, fun j h => by omega⟩
    · exact ((((Below.refl _ _).alloc (by first | (simp; done) | (simp; omega) | omega) _).alloc (by first | (simp; done) | (simp; omega) | omega) _).alloc (by first | (simp; done) | (simp; omega) | omega) _).alloc (by first | (simp; done) | (simp; omega) | omega) _
    · exact blk_old (blk_old (blk_old (blk_new rfl)))
    · exact blk_old (blk_old (blk_new (by simp)))
    · exact blk_old (blk_new (by simp))
    · exact blk_new (by simp)
  case round =>
  obtain ⟨k, hk, rfl, hB, hS, h1, h2, h3, c, hc, hj⟩ := hrel
  by_cases h4 : k < 4
  · have h1' := cell_of_blk h1 (word_get s k h4)
    have h2' := cell_of_blk h2 (word_get t k h4)
    have H1 := Lib.hid h1
    have H2 := Lib.hid h2
    have H3 := Lib.hid h3
    have HJ := Lib.hid hj
    have hc1 := cell_of_blk hc (word_get c k h4)
    have hf1 := frozen_of_blk (o := k) hc
    have HC := Lib.hid hc
    clear h1 h2 h3 hj hc
    have hl0 : w.heap.size < wr.heap.size := by omega
    have hl1 : w.heap.size + 1 < wr.heap.size := by omega
    have hi0 : (0:Int) ≤ k := by omega
    have hi1 : (k:Int) < 4 := by omega
    go_wp2
    refine Eag.region (.mov 0 (.mov 1 (.mov 2 (.mov 3 (.mov 4 (.mov 5 (.mov 6 (.mov 7 (.anc 8 (.mov 9 (.anc 10 Eag.Sch.fin))))))))))) [10] (by kernel_rfl) (by kernel_rfl) (fun K ops hops hK => ?_)
    iterate 8
      refine Eag.mov hops rfl rfl (fun w' hb => ?_) ?_
      · have q0 := later hb h1'; have q1 := later hb h2'; clear hb; go_simp
      go_simp
    refine Eag.anc hops rfl rfl ?_
    go_simp
    rw [eg.out]
    refine (hg.out _ _ _).mono ?_
    rintro e w' ⟨rfl, rfl⟩
    refine ⟨Below.refl _ _, ?_⟩
    refine Eag.mov hops rfl rfl (fun w' hb => ?_) ?_
    · clear hb; go_simp
    go_simp
    refine Eag.anc hops rfl rfl ?_
    go_wp2_with fail
    refine Eag.fin (hK _ _ ?_)
    clear hK
    go_wp2_with fail
    go_roundw
    case rel =>
      refine ⟨k + 1, by omega, by go_num, hB.drew.setCell (by simp; omega) _, by simp; omega, ?_, ?_, ?_, c.setWord k (F (s.word k) (t.word k)), ?_, ?_⟩
      · exact keep_set (w := wr) H1.out (by omega)
      · exact keep_set (w := wr) H2.out (by omega)
      · exact keep_set (w := wr) H3.out (by omega)
      · rw [← word_set c k h4]; exact blk_set (w := wr) HC.out
      · intro j h
        rw [word_setWord c k j h4 (by omega)]
        by_cases e : j = k
        · rw [if_pos e, e]
        · rw [if_neg e]; exact HJ.out j (by omega)
    case measure => simp [intOf]; omega
  · have e4 : k = 4 := by omega
    subst e4
    have a0 := cell_of_blk (o := 0) hc rfl
    have a1 := cell_of_blk (o := 1) hc rfl
    have a2 := cell_of_blk (o := 2) hc rfl
    have a3 := cell_of_blk (o := 3) hc rfl
    have b0 := cell_of_blk (o := 0) h3 rfl
    have b1 := cell_of_blk (o := 1) h3 rfl
    have b2 := cell_of_blk (o := 2) h3 rfl
    have b3 := cell_of_blk (o := 3) h3 rfl
    have f0 := frozen_of_blk (o := 0) h3
    have f1 := frozen_of_blk (o := 1) h3
    have f2 := frozen_of_blk (o := 2) h3
    have f3 := frozen_of_blk (o := 3) h3
    have HJ := Lib.hid hj
    clear hc h1 h2 h3 hj
    go_wp2
    refine bodyPost_ret (v := S4V ⟨F s.a t.a, F s.b t.b, F s.c t.c, F s.d t.d⟩) ?_ rfl ⟨rfl, ?_⟩
    · rw [show F s.a t.a = c.a from (HJ.out 0 (by omega)).symm, show F s.b t.b = c.b from (HJ.out 1 (by omega)).symm, show F s.c t.c = c.c from (HJ.out 2 (by omega)).symm, show F s.d t.d = c.d from (HJ.out 3 (by omega)).symm]
      simp [results, Tryz.results116, go_sem, a0, b0, b1, b2, b3]
    · exact (((hB.setCell (by simp; omega) _).setCell (by simp; omega) _).setCell (by simp; omega) _).setCell (by simp; omega) _

theorem eg_and : Hid (Enters Tryz.prog 127) := enters_of Tryz.func127 (by kernel_rfl) rfl
theorem eg_or : Hid (Enters Tryz.prog 117) := enters_of Tryz.func117 (by kernel_rfl) rfl
theorem eg_minus : Hid (Enters Tryz.prog 135) := enters_of Tryz.func135 (by kernel_rfl) rfl
theorem eg_not : Hid (Enters Tryz.prog 156) := enters_of Tryz.func156 (by kernel_rfl) rfl
/-- a function with a set for its result -/
abbrev GivesSet (f : Nat) (args : Array Value) (w : World) (s : Pv.S4) : Prop := Calls Tryz.prog f args w fun e w' => e = .returned (S4V s) ∧ Below w.heap.size w w'
theorem each_and (s t : Pv.S4) (w : World) : GivesSet 116 #[S4V s, S4V t, .func (.func 127) #[] #[]] w (s.and t) := each_any _ eg_and _ (Lib.hid and1) s t w
theorem each_or (s t : Pv.S4) (w : World) : GivesSet 116 #[S4V s, S4V t, .func (.func 117) #[] #[]] w (s.or t) := each_any _ eg_or _ (Lib.hid or1) s t w
theorem each_minus (s t : Pv.S4) (w : World) : GivesSet 116 #[S4V s, S4V t, .func (.func 135) #[] #[]] w (s.minus t) := each_any _ eg_minus _ (Lib.hid minus1) s t w
theorem each_not (s : Pv.S4) (w : World) : GivesSet 116 #[S4V s, S4V s, .func (.func 156) #[] #[]] w s.not := each_any _ eg_not (fun x _ => Pv.inv x) (Lib.hid not1) s s w

set_option maxHeartbeats 400000 in
theorem and_any (s t : Pv.S4) (w : World) : GivesSet 93 #[S4V s, S4V t] w (s.and t) := by
  go_enter Tryz.func93, Tryz.ntmps93
  go_wp2_with fail
  refine (each_and s t _).mono ?_
  rintro e w' ⟨rfl, hb⟩
  obtain ⟨hc, hf⟩ := bcell hb
  have hz : w.heap.size + 1 + 1 < w'.heap.size := by have := hb.size; simp at this; omega
  have HB := Lib.hid hb
  clear hb
  go_wp2_with fail
  refine bodyPost_ret (v := S4V _) ?_ rfl ⟨rfl, ?_⟩
  · simp [results, Tryz.results93, go_sem, hc, hz]
  · exact (((((((Below.refl _ _).alloc (by first | (simp; done) | (simp; omega) | omega) _).alloc (by first | (simp; done) | (simp; omega) | omega) _).alloc (by first | (simp; done) | (simp; omega) | omega) _).trans (HB.out.mono (by first | (simp; done) | (simp; omega) | omega))).setCell (by first | (simp; done) | (simp; omega) | omega) _).setCell (by first | (simp; done) | (simp; omega) | omega) _ |>.setCell (by first | (simp; done) | (simp; omega) | omega) _).setCell (by first | (simp; done) | (simp; omega) | omega) _

set_option maxHeartbeats 400000 in
theorem or_any (s t : Pv.S4) (w : World) : GivesSet 87 #[S4V s, S4V t] w (s.or t) := by
  go_enter Tryz.func87, Tryz.ntmps87
  go_wp2_with fail
  refine (each_or s t _).mono ?_
  rintro e w' ⟨rfl, hb⟩
  obtain ⟨hc, hf⟩ := bcell hb
  have hz : w.heap.size + 1 + 1 < w'.heap.size := by have := hb.size; simp at this; omega
  have HB := Lib.hid hb
  clear hb
  go_wp2_with fail
  refine bodyPost_ret (v := S4V _) ?_ rfl ⟨rfl, ?_⟩
  · simp [results, Tryz.results87, go_sem, hc, hz]
  · exact (((((((Below.refl _ _).alloc (by first | (simp; done) | (simp; omega) | omega) _).alloc (by first | (simp; done) | (simp; omega) | omega) _).alloc (by first | (simp; done) | (simp; omega) | omega) _).trans (HB.out.mono (by first | (simp; done) | (simp; omega) | omega))).setCell (by first | (simp; done) | (simp; omega) | omega) _).setCell (by first | (simp; done) | (simp; omega) | omega) _ |>.setCell (by first | (simp; done) | (simp; omega) | omega) _).setCell (by first | (simp; done) | (simp; omega) | omega) _

set_option maxHeartbeats 400000 in
theorem minus_any (s t : Pv.S4) (w : World) : GivesSet 105 #[S4V s, S4V t] w (s.minus t) := by
  go_enter Tryz.func105, Tryz.ntmps105
  go_wp2_with fail
  refine (each_minus s t _).mono ?_
  rintro e w' ⟨rfl, hb⟩
  obtain ⟨hc, hf⟩ := bcell hb
  have hz : w.heap.size + 1 + 1 < w'.heap.size := by have := hb.size; simp at this; omega
  have HB := Lib.hid hb
  clear hb
  go_wp2_with fail
  refine bodyPost_ret (v := S4V _) ?_ rfl ⟨rfl, ?_⟩
  · simp [results, Tryz.results105, go_sem, hc, hz]
  · exact (((((((Below.refl _ _).alloc (by first | (simp; done) | (simp; omega) | omega) _).alloc (by first | (simp; done) | (simp; omega) | omega) _).alloc (by first | (simp; done) | (simp; omega) | omega) _).trans (HB.out.mono (by first | (simp; done) | (simp; omega) | omega))).setCell (by first | (simp; done) | (simp; omega) | omega) _).setCell (by first | (simp; done) | (simp; omega) | omega) _ |>.setCell (by first | (simp; done) | (simp; omega) | omega) _).setCell (by first | (simp; done) | (simp; omega) | omega) _

set_option maxHeartbeats 400000 in
theorem not_any (s : Pv.S4) (w : World) : GivesSet 128 #[S4V s] w s.not := by
  go_enter Tryz.func128, Tryz.ntmps128
  go_wp2_with fail
  refine (each_not s _).mono ?_
  rintro e w' ⟨rfl, hb⟩
  obtain ⟨hc, hf⟩ := bcell hb
  have hz : w.heap.size + 1 < w'.heap.size := by have := hb.size; simp at this; omega
  have HB := Lib.hid hb
  clear hb
  go_wp2_with fail
  refine bodyPost_ret (v := S4V _) ?_ rfl ⟨rfl, ?_⟩
  · simp [results, Tryz.results128, go_sem, hc, hz]
  · exact ((((((Below.refl _ _).alloc (by first | (simp; done) | (simp; omega) | omega) _).alloc (by first | (simp; done) | (simp; omega) | omega) _).trans (HB.out.mono (by first | (simp; done) | (simp; omega) | omega))).setCell (by first | (simp; done) | (simp; omega) | omega) _).setCell (by first | (simp; done) | (simp; omega) | omega) _ |>.setCell (by first | (simp; done) | (simp; omega) | omega) _).setCell (by first | (simp; done) | (simp; omega) | omega) _
set_option maxHeartbeats 400000 in
theorem all_any (w : World) : GivesSet 94 #[] w Pv.S4.all := by
  go_enter Tryz.func94, Tryz.ntmps94
  go_wp2_with fail
  refine (not_any ⟨0, 0, 0, 0⟩ _).mono ?_
  rintro e w' ⟨rfl, hb⟩
  obtain ⟨hc, hf⟩ := bcell hb
  have hz : w.heap.size < w'.heap.size := by have := hb.size; simp at this; omega
  have HB := Lib.hid hb
  clear hb
  go_wp2_with fail
  refine bodyPost_ret (v := S4V Pv.S4.all) ?_ rfl ⟨rfl, ?_⟩
  · simp [results, Tryz.results94, go_sem, hc, hz, Pv.S4.all, Pv.S4.zero]
  · exact (((((Below.refl _ _).alloc (by first | (simp; done) | (simp; omega) | omega) _).trans (HB.out.mono (by first | (simp; done) | (simp; omega) | omega))).setCell (by first | (simp; done) | (simp; omega) | omega) _).setCell (by first | (simp; done) | (simp; omega) | omega) _ |>.setCell (by first | (simp; done) | (simp; omega) | omega) _).setCell (by first | (simp; done) | (simp; omega) | omega) _
theorem bit_test (x : BitVec 64) (j : Nat) (hj : j < 64) : (bits .and .u64 ((x.toNat : Int) / 2 ^ j) 1 == 1) = x.getLsbD j := by
  have e : ((x.toNat : Int) / 2 ^ j) = ((x >>> j).toNat : Int) := by
    rw [BitVec.toNat_ushiftRight, Nat.shiftRight_eq_div_pow, Int.natCast_ediv]; simp
  have e1 : (1 : Int) = ((1#64).toNat : Int) := rfl
  rw [e, e1, bits_and]
  have h : (x >>> j &&& 1#64) = if x.getLsbD j then 1#64 else 0#64 := by
    ext i hi
    simp only [BitVec.getElem_and, BitVec.getElem_ushiftRight, BitVec.getElem_one]
    by_cases h0 : i = 0
    · subst h0; cases h : x.getLsbD j <;> simp [h]
    · have : decide (i = 0) = false := by simpa using h0
      rw [this, Bool.and_false]
      cases x.getLsbD j <;> simp [BitVec.getElem_one, h0]
  rw [h]
  cases x.getLsbD j <;> rfl
theorem toNat_beq (x y : BitVec 64) : ((x.toNat : Int) == (y.toNat : Int)) = decide (x = y) := by
  rw [Bool.eq_iff_iff]; simp only [beq_iff_eq, decide_eq_true_eq]
  exact ⟨fun h => BitVec.eq_of_toNat_eq (by omega), fun h => by rw [h]⟩
theorem equalIn_set' (e : Nat) (he : ∀ (a b : Int) (w : World), (Op.equalIn e 83 (.int .u64 a) (.int .u64 b)).run Tryz.prog w = .ok (a == b) w) (s t : Pv.S4) (w : World) :
    (Op.equalIn (e + 1) 85 (S4V s) (S4V t)).run Tryz.prog w = .ok (decide (s = t)) w := by
  have u1 := Tryz.underlying85
  have z := Tryz.sizeOf83
  have ag := Tryz.isAgg83
  simp only [Op.equalIn, Sem.run_bind, run_underlying u1, Result.andThen_ok, z]
  rw [Std.Legacy.Range.forIn_eq_forIn_range']
  simp only [Std.Legacy.Range.size, Nat.sub_zero, Nat.add_one_sub_one, Nat.div_one, List.range', List.forIn_cons, List.forIn_nil, Nat.mul_one]
  obtain ⟨a, b, c, d⟩ := s
  obtain ⟨a', b', c', d'⟩ := t
  simp only [Pv.S4.mk.injEq]
  by_cases h1 : a = a' <;> by_cases h2 : b = b' <;> by_cases h3 : c = c' <;> by_cases h4 : d = d' <;>
    simp [go_sem, ag, he, toNat_beq, h1, h2, h3, h4, z]
theorem equalIn_set (s t : Pv.S4) (w : World) : (Op.equalIn 10000 85 (S4V s) (S4V t)).run Tryz.prog w = .ok (decide (s = t)) w :=
  equalIn_set' 9999 (fun a b w => run_equalIn_int w 9998 _ _ _ a b Tryz.underlying83) s t w
set_option maxRecDepth 20000 in
set_option maxHeartbeats 400000 in
theorem empty_any (s : Pv.S4) (w : World) : Calls Tryz.prog 80 #[S4V s] w fun e w' => e = .returned (.bool s.isEmpty) ∧ Below w.heap.size w w' := by
  have h : ∀ w, (Op.equalIn 10000 85 (.agg #[W64 s.a, W64 s.b, W64 s.c, W64 s.d]) (.agg #[.int .u64 0, .int .u64 0, .int .u64 0, .int .u64 0])).run Tryz.prog w = .ok s.isEmpty w :=
    fun w => equalIn_set s ⟨0, 0, 0, 0⟩ w
  go_enter Tryz.func80, Tryz.ntmps80
  go_wp2
  go_ret
  exact ⟨rfl, (Below.refl _ _).alloc (Nat.le_refl _) _⟩
set_option maxHeartbeats 400000 in
theorem has_any (s : Pv.S4) (b : Nat) (hb : b < 256) (w : World) : Calls Tryz.prog 106 #[S4V s, .int .u8 (b : Int)] w fun e w' => e = .returned (.bool (s.has b)) ∧ Below w.heap.size w w' := by
  have h4 : b / 64 < 4 := by omega
  have h1 : [W64 s.a, W64 s.b, W64 s.c, W64 s.d][b / 64]'(by simp; omega) = W64 (s.word (b / 64)) := Option.some.inj ((List.getElem?_eq_getElem _).symm.trans (word_getL s (b / 64) h4))
  go_enter Tryz.func106, Tryz.ntmps106
  go_wp2
  go_ret
  refine ⟨?_, (Below.refl _ _).alloc (Nat.le_refl _) _⟩
  show Ending.returned (.bool (bits BinOp.and IntKind.u64 (((s.word (b / 64)).toNat : Int) / 2 ^ (b % 64)) 1 == 1)) = _
  rw [bit_test _ _ (by omega)]; rfl
end Go.Proofs.YtbimpenhmefpeaaGreatDoor
namespace Go.Proofs.YtbimpenhmefpeaaGreatDoor
open Go.RowKit
variable {H : Nat → Prop}

/-- a call that makes an expression -/
abbrev MakesRe (H : Nat → Prop) (f : Nat) (args : Array Value) (w : World) (r : Pv.R) : Prop :=
  Calls Tryz.prog f args w fun e w' => ∃ b, e = .returned (Ptr b) ∧ ReAt H w' r b ∧ Below w.heap.size w w'

theorem made_nothing (w : World) (hH : ∀ h, H h → h < w.heap.size) : MakesRe H 79 #[.int .i64 0, .agg #[.int .u64 0, .int .u64 0, .int .u64 0, .int .u64 0], .bool false, .slice none 0 0] w Pv.nothing :=
  made_any 0 (by omega) .zero (fun _ => rfl) [] (by simp) none 0 [] w (Sl.nil _) ResAt.nil hH (fun _ _ h => by cases h) (by decide)
theorem made_empty (w : World) (hH : ∀ h, H h → h < w.heap.size) : MakesRe H 79 #[.int .i64 1, .agg #[.int .u64 0, .int .u64 0, .int .u64 0, .int .u64 0], .bool true, .slice none 0 0] w Pv.empty :=
  made_any 1 (by omega) .zero (fun _ => rfl) [] (by simp) none 0 [] w (Sl.nil _) ResAt.nil hH (fun _ _ h => by cases h) (by decide)
theorem made_class (s : Pv.S4) (w : World) (hH : ∀ h, H h → h < w.heap.size) : MakesRe H 79 #[.int .i64 2, S4V s, .bool false, .slice none 0 0] w (.mk 2 s []) :=
  made_any 2 (by omega) s (fun h => absurd rfl h) [] (by simp) none 0 [] w (Sl.nil _) ResAt.nil hH (fun _ _ h => by cases h) (by simp [Pv.size, Pv.sizes])

set_option maxHeartbeats 400000 in
theorem nothing_any (w : World) (hH : ∀ h, H h → h < w.heap.size) : MakesRe H 81 #[] w Pv.nothing := by
  go_enter Tryz.func81, Tryz.ntmps81
  go_wp2_with fail
  refine (made_nothing _ hH).mono ?_
  rintro e w' ⟨b, rfl, h, hb⟩
  go_wp2_with fail
  go_ret
  exact ⟨b, rfl, h, hb⟩
set_option maxHeartbeats 400000 in
theorem empty_re (w : World) (hH : ∀ h, H h → h < w.heap.size) : MakesRe H 51 #[] w Pv.empty := by
  go_enter Tryz.func51, Tryz.ntmps51
  go_wp2_with fail
  refine (made_empty _ hH).mono ?_
  rintro e w' ⟨b, rfl, h, hb⟩
  go_wp2_with fail
  go_ret
  exact ⟨b, rfl, h, hb⟩
set_option maxHeartbeats 400000 in
theorem one_any (s : Pv.S4) (w : World) (hH : ∀ h, H h → h < w.heap.size) : MakesRe H 44 #[S4V s] w (Pv.one s) := by
  go_enter Tryz.func44, Tryz.ntmps44
  go_wp2_with fail
  refine (empty_any s _).mono ?_
  rintro e w1 ⟨rfl, hb⟩
  obtain ⟨hc, hf⟩ := bcell hb
  have hz : w.heap.size < w1.heap.size := by have := hb.size; simp at this; omega
  have HB := Lib.hid hb
  clear hb
  have Hone := Lib.hid (show Pv.one s = if s.isEmpty then Pv.nothing else .mk 2 s [] from rfl)
  cases hs : s.isEmpty
  · have Hs := Lib.hid hs
    clear hs
    go_wp2_with fail
    refine (made_class s _ (fun h hh => by have := hH h hh; omega)).mono ?_
    rintro e w' ⟨b, rfl, h, hb⟩
    go_wp2_with fail
    go_ret
    refine ⟨b, rfl, ?_, (((Below.refl _ _).alloc (Nat.le_refl _) _).trans (HB.out.mono (by simp))).trans (hb.mono (by omega))⟩
    rw [Hone.out, Hs.out]; exact h
  · have Hs := Lib.hid hs
    clear hs
    go_wp2_with fail
    refine (nothing_any _ (fun h hh => by have := hH h hh; omega)).mono ?_
    rintro e w' ⟨b, rfl, h, hb⟩
    go_wp2_with fail
    go_ret
    refine ⟨b, rfl, ?_, (((Below.refl _ _).alloc (Nat.le_refl _) _).trans (HB.out.mono (by simp))).trans (hb.mono (by omega))⟩
    rw [Hone.out, Hs.out]; exact h
set_option maxHeartbeats 400000 in
theorem null_any (r : Pv.R) (b : Nat) (w : World) (h : ReAt H w r b) : Pure 64 #[Ptr b] w (.bool (Pv.null r)) := by
  obtain ⟨a, c, bs, _, _, _, _, _, _, h6, _⟩ := h.cells
  go_enter Tryz.func64, Tryz.ntmps64
  go_wp2_with fail
  go_ret
  exact ⟨rfl, rfl⟩
set_option maxHeartbeats 400000 in
theorem key_any (r : Pv.R) (b : Nat) (w : World) (h : ReAt H w r b) : Pure 72 #[Ptr b] w (Str (Pv.key r)) := by
  obtain ⟨a, c, bs, _, _, _, _, _, _, _, h7, _⟩ := h.cells
  go_enter Tryz.func72, Tryz.ntmps72
  go_wp2_with fail
  go_ret
  exact ⟨rfl, rfl⟩
set_option maxHeartbeats 400000 in
theorem size_any (r : Pv.R) (b : Nat) (w : World) (h : ReAt H w r b) : Pure 123 #[Ptr b] w (.int .i64 (Pv.size r : Int)) := by
  obtain ⟨a, c, bs, _, _, _, _, _, _, _, _, h8, _⟩ := h.cells
  go_enter Tryz.func123, Tryz.ntmps123
  go_wp2_with fail
  go_ret
  exact ⟨rfl, rfl⟩
set_option maxHeartbeats 400000 in
theorem same_any (r q : Pv.R) (b d : Nat) (w : World) (h : ReAt H w r b) (h2 : ReAt H w q d) : Pure 32 #[Ptr b, Ptr d] w (.bool (Pv.same r q)) := by
  go_enter Tryz.func32, Tryz.ntmps32
  go_wp2_with fail
  refine (key_any r b _ h).mono ?_
  rintro e w' ⟨rfl, rfl⟩
  go_wp2_with fail
  refine (key_any q d _ h2).mono ?_
  rintro e w' ⟨rfl, rfl⟩
  go_wp2_with fail
  go_ret
  exact ⟨rfl, rfl⟩
end Go.Proofs.YtbimpenhmefpeaaGreatDoor
namespace Go.Proofs.YtbimpenhmefpeaaGreatDoor
open Go.RowKit
variable {H : Nat → Prop}

theorem info_re : (Tryz.prog.info? 23).map (fun i => (i.zero, i.size, i.bytes)) = some (some (.pointer none), 1, 8) := by kernel_rfl
/-- a row of the call's own that holds expressions -/
def ReRow (H : Nat → Prop) (base : Nat) (w : World) (v : Value) (rs : List Pv.R) : Prop := ∃ bs : List Nat, Row base 23 w v (bs.map Ptr) ∧ ResAt H w rs bs
theorem ReRow.nil (base : Nat) (w : World) : ReRow H base w (.slice none 0 0) [] := ⟨[], Row.nil _ _ _, ResAt.nil⟩
/-- a slice that holds expressions -/
def ReSl (H : Nat → Prop) (w : World) (v : Value) (rs : List Pv.R) : Prop := ∃ (a : Option Addr) (c : Nat) (bs : List Nat), v = .slice a bs.length c ∧ Sl w a c (bs.map Ptr) ∧ ResAt H w rs bs
theorem ReRow.sl {base : Nat} {w : World} {v : Value} {rs : List Pv.R} (h : ReRow H base w v rs) : ReSl H w v rs := by
  obtain ⟨bs, h1, h2⟩ := h
  obtain ⟨a, c, e, hs, _⟩ := h1.form
  exact ⟨a, c, bs, by rw [e]; simp, hs, h2⟩

theorem flat_take (op : Nat) (l : List Pv.R) (k : Nat) (h : k < l.length) : Pv.flat op (l.take (k + 1)) = Pv.flat op (l.take k) ++ (if l[k].op = op then l[k].kids else [l[k]]) := by
  rw [List.take_succ_eq_append_getElem h]; unfold Pv.flat; rw [List.flatMap_append]; simp

theorem size_kids (r : Pv.R) : Pv.size r = 1 + Pv.sizes r.kids := by cases r; rfl
theorem flat_len (op : Nat) : ∀ l : List Pv.R, (Pv.flat op l).length ≤ Pv.sizes l
  | [] => Nat.le_refl _
  | r :: l => by
    have h := flat_len op l
    have h1 := sizes_len r.kids
    have h2 := size_kids r
    unfold Pv.flat at *
    rw [List.flatMap_cons, List.length_append]
    unfold Pv.sizes
    split
    · omega
    · have := size_pos r; rw [List.length_singleton]; omega

set_option maxRecDepth 20000 in
set_option maxHeartbeats 1000000 in
theorem flat_any (op : Nat) (l : List Pv.R) (a : Option Addr) (c : Nat) (bs : List Nat) (w : World) (hs : Sl w a c (bs.map Ptr)) (hk : ResAt H w l bs)
    (hsz : Pv.sizes l < 549755813888) :
    Calls Tryz.prog 84 #[.int .i64 (op : Int), .slice a bs.length c] w fun e w' => ∃ v bk, e = .returned v ∧ Row w.heap.size 23 w' v (bk.map Ptr) ∧ ResAt H w (Pv.flat op l) bk ∧ Below w.heap.size w w' := by
  obtain ⟨i0, hi, hz0, hz1, hz2⟩ := info_parts info_re
  have Hlen := Lib.hid hk.length
  have Hhs := Lib.hid hs
  have Hhk := Lib.hid hk
  have hl40 := sizes_len l
  clear hs hk
  go_enter Tryz.func84, Tryz.ntmps84
  go_wp2_with fail
  go_loopw [5, 10] (fun v i wr => ∃ (k : Nat) (bk : List Nat), k ≤ l.length ∧ i = .int .i64 k ∧ Row w.heap.size 23 wr v (bk.map Ptr) ∧ ResAt H w (Pv.flat op (l.take k)) bk ∧ Below w.heap.size w wr) (fun _ i _ => (bs.length - intOf i).toNat)
  case atStart => exact ⟨0, [], by omega, rfl, Row.nil _ _ _, ResAt.nil, Below.refl _ _⟩
  case round =>
    obtain ⟨k, bk, hk, rfl, hrow, hres, hB⟩ := hrel
    have HB := Lib.hid hB
    have Hrow := Lib.hid hrow
    have Hres := Lib.hid hres
    by_cases hkn : k < l.length
    · obtain ⟨hkb, hat⟩ := Hhk.out.get k hkn
      obtain ⟨blk, off, rfl, hbl, hcs⟩ := Hhs.out.at_ (by have := Hlen.out; simp; omega)
      obtain ⟨a2, c2, bs2, h0, _, _, _, _, h5, _, _, _, hsl2, hres2, hlt⟩ := hat.cells
      have h0' := later hB h0
      have h5' := later hB h5
      have hsl2' := hsl2.later hB
      have hc0 := later hB (hcs k (by simpa using hkb))
      rw [List.getElem_map] at hc0
      generalize bs[k] = bk' at *
      have hkn' : (k : Int) < bs.length := by have := Hlen.out; omega
      have hk40 : (k : Int) < 1099511627776 := by omega
      have Hft := Lib.hid (flat_take op l k hkn)
      have hfl : (Pv.flat op (l.take k)).length + (if l[k].op = op then l[k].kids else [l[k]]).length < 1099511627776 := by
        rw [← List.length_append, ← flat_take op l k hkn]
        have h1 := flat_len op (l.take (k + 1))
        have h2 := sizes_take_le l (k + 1)
        omega
      have hbl2 := Lib.hid hres.length
      have hbl3 := Lib.hid hres2.length
      have Hhat := Lib.hid hat
      have Hsl2 := Lib.hid hsl2'
      have Hres2 := Lib.hid hres2
      clear hB hrow hres hat hcs hsl2 hres2 h0 h5 hsl2'
      by_cases hop : l[k].op = op
      · have hop' : ((l[k].op : Int) == (op : Int)) = true := by rw [beq_iff_eq]; omega
        have HOP := Lib.hid hop
        clear hop
        go_wp2_with (at_builtin; refine appS _ _ i0 _ 8 Tryz.underlying94 hi hz0 hz1 hz2 rfl (by omega) rfl _ _ rfl w.heap.size _ _ rfl Hrow.out _ _ _ (bs2.map Ptr) (by simp) rfl Hsl2.out ?c0 ?c1 (by have := HB.out.size; omega) ?c2)
        case c0 => intro u hu; obtain ⟨x, _, rfl⟩ := List.mem_map.1 hu; rfl
        case c1 => have := hbl2.out; have := hbl3.out; rw [if_pos HOP.out] at hfl; simp; omega
        case c2 =>
          intro v1 w1 hr1 hb1 _
          have A1 := Lib.hid (HB.out.trans hb1)
          have A2 := Lib.hid hr1
          have A3 : Hid (ResAt H w (Pv.flat op (l.take (k + 1))) (bk ++ bs2)) := by
            rw [Hft.out, if_pos HOP.out]
            exact ResAt.append Hres.out Hres2.out
          clear hr1 hb1
          go_wp2_with fail
          go_roundw
          case rel => exact ⟨k + 1, bk ++ bs2, by omega, by go_num, by simpa using A2.out, A3.out, A1.out⟩
          case measure => have := Hlen.out; simp [intOf]; omega
      · have hop' : ((l[k].op : Int) == (op : Int)) = false := by rw [beq_eq_false_iff_ne]; omega
        have HOP := Lib.hid hop
        clear hop
        go_wp2_with (at_builtin; refine app1 _ _ i0 _ 8 Tryz.underlying94 hi hz0 hz1 hz2 rfl (by omega) rfl _ _ rfl w.heap.size _ _ rfl (Hrow.out.alloc _) wr.heap.size _ rfl (blk_new rfl) rfl ?c1 (by have := HB.out.size; simp; omega) ?c2)
        case c1 => have := hbl2.out; rw [if_neg HOP.out] at hfl; simp at hfl ⊢; omega
        case c2 =>
          intro v1 w1 hr1 hb1 _
          have A1 := Lib.hid ((HB.out.alloc HB.out.size (.cells #[Ptr bk'] 23)).trans hb1)
          have A2 := Lib.hid hr1
          have A3 : Hid (ResAt H w (Pv.flat op (l.take (k + 1))) (bk ++ [bk'])) := by
            rw [Hft.out, if_neg HOP.out]
            exact ResAt.append Hres.out (ResAt.one Hhat.out)
          clear hr1 hb1
          go_wp2_with fail
          go_roundw
          case rel => exact ⟨k + 1, bk ++ [bk'], by omega, by go_num, by simpa using A2.out, A3.out, A1.out⟩
          case measure => have := Hlen.out; simp [intOf]; omega
    · have e : k = l.length := by omega
      subst e
      have hge : ¬ ((l.length : Int) < bs.length) := by have := Hlen.out; omega
      clear hB hrow hres
      go_wp2_with fail
      go_ret
      refine ⟨_, rfl, bk, Hrow.out, ?_, HB.out⟩
      have := Hres.out
      rw [List.take_length] at this
      exact this
end Go.Proofs.YtbimpenhmefpeaaGreatDoor
namespace Go.Proofs.YtbimpenhmefpeaaGreatDoor
open Go.RowKit
variable {H : Nat → Prop}

/-- the world in which block g holds nothing -/
def hide (g : Nat) (w : World) : World := { w with heap := w.heap.setIfInBounds g (.cells #[] 0) }
def hideV (v : Value) (w : World) : World := match v.ownBlock with | some g => hide g w | none => w
/-- whatever holds a cell is as it was -/
structure Ext (W W' : World) : Prop where
  size : W.heap.size ≤ W'.heap.size
  blk : ∀ (b : Nat) (cs : Array Value) (t : TypeId) (fr : Nat × Nat), W.heap[b]? = some (Obj.cells cs t fr) → 0 < cs.size → W'.heap[b]? = some (Obj.cells cs t fr)

theorem Ext.refl (W : World) : Ext W W := ⟨Nat.le_refl _, fun _ _ _ _ h _ => h⟩
theorem Ext.drew_ {A B : World} (h : Ext A B) : Ext A B.drew := ⟨h.size, h.blk⟩
theorem Ext.trans {A B C : World} (h : Ext A B) (k : Ext B C) : Ext A C := ⟨Nat.le_trans h.size k.size, fun b cs t fr q p => k.blk b cs t fr (h.blk b cs t fr q p) p⟩
theorem Ext.of_below {W W' : World} (h : Below W.heap.size W W') : Ext W W' := ⟨h.size, fun _ _ _ _ q _ => later_blk h q⟩
theorem hide_size (g : Nat) (w : World) : (hide g w).heap.size = w.heap.size := by simp [hide]
theorem hideV_size (v : Value) (w : World) : (hideV v w).heap.size = w.heap.size := by unfold hideV; split; exact hide_size _ _; rfl
theorem hide_get (g : Nat) (w : World) (b : Nat) : (hide g w).heap[b]? = if b = g then (w.heap[b]?).map (fun _ => .cells #[] 0) else w.heap[b]? := by
  show (w.heap.setIfInBounds g _)[b]? = _
  rw [Array.getElem?_setIfInBounds]
  by_cases e : b = g
  · subst e
    rw [if_pos rfl, if_pos rfl]
    by_cases h : b < w.heap.size
    · rw [if_pos h, Array.getElem?_eq_getElem h]; rfl
    · rw [if_neg h, Array.getElem?_eq_none (by omega)]; rfl
  · rw [if_neg (Ne.symm e), if_neg e]
theorem hide_ne {g b : Nat} {w : World} (h : b ≠ g) : (hide g w).heap[b]? = w.heap[b]? := by rw [hide_get, if_neg h]
theorem hide_cells {g b : Nat} {w : World} {cs : Array Value} {t : TypeId} {fr : Nat × Nat} (h : (hide g w).heap[b]? = some (.cells cs t fr)) (hp : 0 < cs.size) : b ≠ g ∧ w.heap[b]? = some (.cells cs t fr) := by
  rw [hide_get] at h
  split at h
  · cases hq : w.heap[b]? with
    | none => rw [hq] at h; cases h
    | some o => rw [hq] at h; simp at h; obtain ⟨rfl, _⟩ := h; cases hp
  · exact ⟨by assumption, h⟩
theorem Ext.unhide (g : Nat) (w : World) : Ext (hide g w) w := ⟨Nat.le_of_eq (hide_size _ _), fun b cs t fr h hp => (hide_cells h hp).2⟩
theorem Ext.unhideV (v : Value) (w : World) : Ext (hideV v w) w := by
  unfold hideV; split
  · exact Ext.unhide _ _
  · exact Ext.refl _
theorem Ext.hide_ {g : Nat} {W W' : World} (h : Ext (hide g W) W') : Ext (hide g W) (hide g W') := ⟨by rw [hide_size g W']; exact h.size, fun b cs t fr q hp => by
  rw [hide_ne (hide_cells q hp).1]; exact h.blk b cs t fr q hp⟩
theorem Ext.set {g o : Nat} {v : Value} {W W' : World} (h : Ext (hide g W) W') : Ext (hide g W) (W'.setCell ⟨g, o, none⟩ v) := ⟨by simpa using h.size, fun b cs t fr q hp => by
  rw [blk_set_ne (hide_cells q hp).1]; exact h.blk b cs t fr q hp⟩
/-- blocks of old, with a new one hidden -/
theorem Ext.below_hide {g : Nat} {W W' : World} (h : Below W.heap.size W W') (hg : W.heap.size ≤ g) : Ext W (hide g W') := ⟨by rw [hide_size]; exact h.size, fun b cs t fr q _ => by
  rw [hide_ne (by have := blk_lt q; omega)]; exact later_blk h q⟩
theorem Ext.below_hideV {v : Value} {W W' : World} (h : Below W.heap.size W W') (hg : ∀ g, v.ownBlock = some g → W.heap.size ≤ g) : Ext W (hideV v W') := by
  unfold hideV; split
  · exact Ext.below_hide h (hg _ (by assumption))
  · exact Ext.of_below h

theorem cell_blk {W : World} {b o : Nat} {v : Value} (h : W.cell? ⟨b, o, none⟩ = some v) : ∃ cs t fr, W.heap[b]? = some (.cells cs t fr) ∧ cs[o]? = some v := by
  simp only [World.cell?] at h
  revert h
  cases W.heap[b]? with
  | none => intro h; simp at h
  | some x =>
    cases x with
    | cells cs t fr => intro h; exact ⟨cs, t, fr, rfl, by simpa using h⟩
    | _ => intro h; simp at h
theorem Ext.cell {W W' : World} (h : Ext W W') {b o : Nat} {v : Value} (hc : W.cell? ⟨b, o, none⟩ = some v) : W'.cell? ⟨b, o, none⟩ = some v := by
  obtain ⟨cs, t, fr, h1, h2⟩ := cell_blk hc
  exact cell_of_blk (h.blk b cs t fr h1 (by have := (Array.getElem?_eq_some_iff.1 h2).1; omega)) h2
theorem Sl.ext {W W' : World} (h : Ext W W') {a : Option Addr} {c : Nat} {vs : List Value} (hs : Sl W a c vs) : Sl W' a c vs :=
  ⟨hs.1, hs.2, fun i hi => let ⟨b, o, e, hc⟩ := hs.3 i hi; ⟨b, o, e, h.cell hc⟩⟩
mutual
theorem ReAt.ext {w w' : World} (hb : Ext w w') : ∀ {r : Pv.R} {b : Nat}, ReAt H w r b → ReAt H w' r b
  | .mk op s ks, b, h => by
    unfold ReAt at *
    obtain ⟨hw, h0, a, c, bs, ha, h1, h2, h3⟩ := h
    exact ⟨hw, h0, a, c, bs, fun x y e => ⟨(ha x y e).1, Nat.lt_of_lt_of_le (ha x y e).2 hb.size⟩, hb.blk _ _ _ _ h1 (by simp), h2.ext hb, ResAt.ext hb h3⟩
theorem ResAt.ext {w w' : World} (hb : Ext w w') : ∀ {rs : List Pv.R} {bs : List Nat}, ResAt H w rs bs → ResAt H w' rs bs
  | [], _, h => by unfold ResAt at *; exact h
  | r :: rs, _, h => by
    unfold ResAt at *
    obtain ⟨b, bs', e, h1, h2⟩ := h
    exact ⟨b, bs', e, ReAt.ext hb h1, ResAt.ext hb h2⟩
end
mutual
/-- with a block hidden that isn't of it -/
theorem ReAt.hide_ {w : World} {g : Nat} (hg : H g) : ∀ {r : Pv.R} {b : Nat}, ReAt H w r b → ReAt H (hide g w) r b
  | .mk op s ks, b, h => by
    unfold ReAt at *
    obtain ⟨hw, h0, a, c, bs, ha, h1, h2, h3⟩ := h
    refine ⟨hw, h0, a, c, bs, fun x y e => ⟨(ha x y e).1, by rw [hide_size]; exact (ha x y e).2⟩, ?_, ⟨h2.1, h2.2, fun i hi => ?_⟩, ResAt.hide_ hg h3⟩
    · rw [hide_ne (fun e => by subst e; exact h0 hg)]; exact h1
    · obtain ⟨blk, off, e, hc⟩ := h2.3 i hi
      refine ⟨blk, off, e, ?_⟩
      have hne : blk ≠ g := fun e2 => by subst e2; exact (ha _ _ e).1 hg
      obtain ⟨cs, t, fr, q1, q2⟩ := cell_blk hc
      exact cell_of_blk ((hide_ne hne).trans q1) q2
theorem ResAt.hide_ {w : World} {g : Nat} (hg : H g) : ∀ {rs : List Pv.R} {bs : List Nat}, ResAt H w rs bs → ResAt H (hide g w) rs bs
  | [], _, h => by unfold ResAt at *; exact h
  | r :: rs, _, h => by
    unfold ResAt at *
    obtain ⟨b, bs', e, h1, h2⟩ := h
    exact ⟨b, bs', e, ReAt.hide_ hg h1, ResAt.hide_ hg h2⟩
end
/-! ### Pairs -/
def Prs (H : Nat → Prop) (w : World) (ps : List (Nat × Pv.R)) : Prop := ∀ x ∈ ps, ReAt H w x.2 x.1
theorem Prs.ext {w w' : World} (h : Ext w w') {ps : List (Nat × Pv.R)} (hp : Prs H w ps) : Prs H w' ps := fun x hx => (hp x hx).ext h
theorem Prs.res {w : World} : ∀ {ps : List (Nat × Pv.R)}, Prs H w ps → ResAt H w (ps.map (·.2)) (ps.map (·.1))
  | [], _ => ResAt.nil
  | x :: ps, h => by
    simp only [List.map_cons]
    unfold ResAt
    exact ⟨_, _, rfl, h x (by simp), Prs.res fun y hy => h y (by simp [hy])⟩
theorem ResAt.prs {w : World} : ∀ {rs : List Pv.R} {bs : List Nat}, ResAt H w rs bs → ∃ ps : List (Nat × Pv.R), rs = ps.map (·.2) ∧ bs = ps.map (·.1) ∧ Prs H w ps
  | [], bs, h => by unfold ResAt at h; subst h; exact ⟨[], rfl, rfl, fun _ h => by cases h⟩
  | r :: rs, bs, h => by
    unfold ResAt at h
    obtain ⟨b, bs', rfl, h1, h2⟩ := h
    obtain ⟨ps, rfl, rfl, h3⟩ := ResAt.prs h2
    exact ⟨(b, r) :: ps, rfl, rfl, fun x hx => by rcases List.mem_cons.1 hx with rfl | hx; exact h1; exact h3 x hx⟩
abbrev vals (ps : List (Nat × Pv.R)) : List Value := ps.map fun x => Ptr x.1

/-- a row of expressions of the call's own, which may be turned: none of them lies in it -/
def ReRowX (H : Nat → Prop) (base : Nat) (w : World) (v : Value) (ps : List (Nat × Pv.R)) : Prop := Row base 23 w v (vals ps) ∧ Prs H (hideV v w) ps
theorem Row.blk {base e : Nat} {w : World} {v : Value} {xs : List Value} (h : Row base e w v xs) : (v = .slice none 0 0 ∧ xs = []) ∨
    ∃ g cap cur, v = .slice (some ⟨g, 0, none⟩) xs.length cap ∧ base ≤ g ∧ w.heap[g]? = some (.cells cur e) ∧ xs.length ≤ cap ∧ cap ≤ maxLen ∧ cur.size = cap ∧ cur.toList.take xs.length = xs := by
  obtain ⟨h1, h2⟩ := h
  rcases h2 with ⟨rfl, h0⟩ | ⟨g, cap, cur, h⟩
  · exact .inl ⟨rfl, List.length_eq_zero_iff.1 h0⟩
  · exact .inr ⟨g, cap, cur, by simpa using h⟩
theorem Row.own {base e : Nat} {w : World} {v : Value} {xs : List Value} (h : Row base e w v xs) (g : Nat) (hg : v.ownBlock = some g) : base ≤ g := by
  rcases h.blk with ⟨rfl, _⟩ | ⟨g', cap, cur, rfl, h1, _⟩
  · cases hg
  · cases hg; exact h1
theorem Row.of_cells {base e g cap : Nat} {w : World} {cur : Array Value} {xs : List Value} (hg : base ≤ g) (hh : w.heap[g]? = some (.cells cur e)) (h1 : xs.length ≤ cap) (h2 : cap ≤ maxLen) (h3 : cur.size = cap) (h4 : cur.toList.take xs.length = xs) :
    Row base e w (.slice (some ⟨g, 0, none⟩) xs.length cap) xs := ⟨by simp, .inr ⟨g, cap, cur, rfl, hg, hh, h1, h2, by simpa using h3, by simpa using h4⟩⟩
theorem setCells_blk {t : TypeId} {fr : Nat × Nat} {g : Nat} : ∀ (vs : List Value) (o : Nat) (w : World) (cur : Array Value), w.heap[g]? = some (.cells cur t fr) → ∃ cur', (w.setCells g o vs).heap[g]? = some (.cells cur' t fr) ∧ cur'.size = cur.size ∧ ∀ k, k < o → cur'[k]? = cur[k]?
  | [], o, w, cur, h => ⟨cur, h, rfl, fun _ _ => rfl⟩
  | v :: vs, o, w, cur, h => by
    rw [World.setCells]
    obtain ⟨cur', h1, h2, h3⟩ := setCells_blk vs (o + 1) (w.setCell ⟨g, o, none⟩ v) _ (blk_set h)
    exact ⟨cur', h1, by simpa using h2, fun k hk => by rw [h3 k (by omega), Array.getElem?_setIfInBounds_ne (by omega)]⟩
theorem setCells_ne {g b : Nat} (hb : b ≠ g) : ∀ (vs : List Value) (o : Nat) (w : World), (w.setCells g o vs).heap[b]? = w.heap[b]?
  | [], o, w => rfl
  | v :: vs, o, w => by rw [World.setCells, setCells_ne hb vs]; exact blk_set_ne hb
theorem setCells_below {g base : Nat} (hb : base ≤ g) : ∀ (vs : List Value) (o : Nat) (w0 w : World), Below base w0 w → Below base w0 (w.setCells g o vs)
  | [], o, _, w, h => h
  | v :: vs, o, w0, w, h => by rw [World.setCells]; exact setCells_below hb vs (o + 1) w0 _ (h.setCell hb v)

theorem ext_setCells {g o : Nat} {vs : List Value} {W W' : World} (h : Ext (hide g W) W') : Ext (hide g W) (W'.setCells g o vs) :=
  ⟨Nat.le_trans h.size (setCells_below (base := 0) (Nat.zero_le _) vs o W' W' (Below.refl _ _)).size, fun b cs t fr q hp => by rw [setCells_ne (hide_cells q hp).1]; exact h.blk b cs t fr q hp⟩

/-! ### What is kept -/
def keptGo {α : Type} (keep : Option α → α → Bool) : Option α → List α → List α
  | _, [] => []
  | o, x :: l => (if keep o x then [x] else []) ++ keptGo keep (some x) l
theorem keptGo_snoc {α : Type} (keep : Option α → α → Bool) (x : α) : ∀ (l : List α) (o : Option α), keptGo keep o (l ++ [x]) = keptGo keep o l ++ (if keep (l.getLast?.or o) x then [x] else [])
  | [], o => by simp [keptGo]; rfl
  | y :: l, o => by
    simp only [List.cons_append, keptGo, keptGo_snoc keep x l]
    rw [List.append_assoc]
    congr 2
    cases l with
    | nil => rfl
    | cons z l => simp [List.getLast?_cons]
theorem keptGo_take {α : Type} (keep : Option α → α → Bool) (l : List α) (k : Nat) (h : k < l.length) : keptGo keep none (l.take (k + 1)) = keptGo keep none (l.take k) ++ (if keep (if k = 0 then none else l[k - 1]?) l[k] then [l[k]] else []) := by
  rw [List.take_succ_eq_append_getElem h, keptGo_snoc]
  congr 3
  cases k with
  | zero => rfl
  | succ k => rw [List.take_succ_eq_append_getElem (by omega : k < l.length), if_neg (by omega), Nat.add_sub_cancel, List.getElem?_eq_getElem (by omega : k < l.length), List.getLast?_append]; rfl
theorem keptGo_filter {α : Type} (p : α → Bool) : ∀ (l : List α) (o : Option α), keptGo (fun _ x => p x) o l = l.filter p
  | [], _ => rfl
  | x :: l, o => by rw [keptGo, keptGo_filter p l, List.filter_cons]; split <;> simp
theorem keptGo_sub {α : Type} (keep : Option α → α → Bool) : ∀ (l : List α) (o : Option α), ∀ x ∈ keptGo keep o l, x ∈ l
  | [], _, x, h => by cases h
  | y :: l, o, x, h => by
    unfold keptGo at h
    rcases List.mem_append.1 h with h | h
    · split at h
      · simp at h; simp [h]
      · cases h
    · exact List.mem_cons_of_mem _ (keptGo_sub keep l _ x h)
/-- a row's cells while what isn't kept is left out: j looked at, i kept -/
structure Inp (keep : Option (Nat × Pv.R) → Nat × Pv.R → Bool) (ps : List (Nat × Pv.R)) (cap : Nat) (cur : Array Value) (i j : Nat) : Prop where
  size : cur.size = cap
  le : i ≤ j
  jn : j ≤ ps.length
  low : cur.toList.take i = vals (keptGo keep none (ps.take j))
  len : (keptGo keep none (ps.take j)).length = i
  high : ∀ k, j ≤ k → (h : k < ps.length) → cur[k]? = some (Ptr ps[k].1)
theorem Inp.keep {keep : Option (Nat × Pv.R) → Nat × Pv.R → Bool} {ps : List (Nat × Pv.R)} {cap : Nat} {cur : Array Value} {i j : Nat} (h : Inp keep ps cap cur i j) (hc : ps.length ≤ cap) (hj : j < ps.length)
    (hk : keep (if j = 0 then none else ps[j - 1]?) ps[j] = true) : Inp keep ps cap (cur.setIfInBounds i (Ptr ps[j].1)) (i + 1) (j + 1) where
  size := by simpa using h.size
  le := by have := h.le; omega
  jn := by omega
  low := by
    have := h.le; have := h.size
    rw [keptGo_take keep ps j hj, hk, if_pos rfl, vals, List.map_append, ← vals, ← h.low, Array.toList_setIfInBounds, List.take_succ_eq_append_getElem (by simp; omega)]
    simp
    rw [List.take_set, List.set_eq_of_length_le (by simp; omega)]
  len := by rw [keptGo_take keep ps j hj, hk, if_pos rfl, List.length_append, h.len]; rfl
  high := fun k hk' h' => by have := h.le; rw [Array.getElem?_setIfInBounds_ne (by omega)]; exact h.high k (by omega) h'
theorem Inp.skip {keep : Option (Nat × Pv.R) → Nat × Pv.R → Bool} {ps : List (Nat × Pv.R)} {cap : Nat} {cur : Array Value} {i j : Nat} (h : Inp keep ps cap cur i j) (hj : j < ps.length)
    (hk : keep (if j = 0 then none else ps[j - 1]?) ps[j] = false) : Inp keep ps cap cur i (j + 1) where
  size := h.size
  le := by have := h.le; omega
  jn := by omega
  low := by rw [keptGo_take keep ps j hj, hk]; simpa using h.low
  len := by rw [keptGo_take keep ps j hj, hk]; simpa using h.len
  high := fun k hk' h' => h.high k (by omega) h'
/-- all kept yet -/
theorem Inp.start {keep : Option (Nat × Pv.R) → Nat × Pv.R → Bool} {ps : List (Nat × Pv.R)} {cap : Nat} {cur : Array Value} {j : Nat} (hs : cur.size = cap) (hc : ps.length ≤ cap) (ht : cur.toList.take ps.length = vals ps) (hj : j ≤ ps.length)
    (hk : keptGo keep none (ps.take j) = ps.take j) : Inp keep ps cap cur j j where
  size := hs
  le := Nat.le_refl _
  jn := hj
  low := by
    rw [hk, vals, List.map_take, ← vals, ← ht, List.take_take, Nat.min_eq_left hj]
  len := by rw [hk]; simp; omega
  high := fun k _ h' => by
    have : (cur.toList.take ps.length)[k]? = some (Ptr ps[k].1) := by rw [ht]; simp [h']
    rw [List.getElem?_take, if_pos h'] at this
    simpa using this
end Go.Proofs.YtbimpenhmefpeaaGreatDoor
