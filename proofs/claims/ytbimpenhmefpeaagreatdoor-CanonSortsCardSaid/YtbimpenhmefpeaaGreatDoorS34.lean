/- Terms: Weight, and the law's walk. -/
import Derived.Test.YtbimpenhmefpeaaGreatDoorS26
import Derived.Test.YtbimpenhmefpeaaGreatDoorS21
set_option linter.all false
namespace Go.Proofs.YtbimpenhmefpeaaGreatDoor
open Go.RowKit Go.Maps
variable {H : Nat → Prop}

def wgtI (r : Nat) (s : Nat) (w : World) : Prop := w.heap[r]? = some (.cells #[.int .i64 (wrap64 (s : Int))] 3)
def wgtS (s : Nat) (t : Pv.T) : Nat := s + (1 + t.text.length + t.back.length)
theorem wrap_sum (s q : Nat) : IntKind.i64.wrap (wrap64 (s : Int) + (q : Int)) = wrap64 ((s + q : Nat) : Int) := by
  rw [IntWalk.i64_left]
  unfold wrap64
  omega
set_option maxRecDepth 20000 in
theorem wgt_step (r : Nat) (t : Pv.T) (tb s : Nat) (w : World) (hg : Pv.TGood t) (hat : TAt (· = r) w t tb) (hI : wgtI r s w) :
    Calls Tryz.prog 78 #[Ptr tb, Ptr r] w fun e w' => e = .returned (.bool true) ∧ wgtI r (wgtS s t) w' ∧ Keep (· = r) w w' := by
  obtain ⟨a, c, bs, t0, t4, t5, t6, _, _, _⟩ := hat.cells
  have hgo := hg.open_
  have ht4 : t.text.length ≤ 9 := hgo.2.2.2.1
  have ht5 : t.back.length ≤ 9 := hgo.2.2.2.2.1
  have hI' : w.heap[r]? = some (.cells #[.int .i64 (wrap64 (s : Int))] 3) := hI
  have hsum := wrap_sum s (1 + t.text.length + t.back.length)
  generalize hz : wrap64 (s : Int) = z at *
  have x0 : w.cell? ⟨r, 0, none⟩ = some (.int .i64 z) := cell_of_blk (o := 0) hI' rfl
  have fr : ∀ o, w.frozen? ⟨r, o, none⟩ = false := fun o => frozen_of_blk hI'
  have hs1 : IntKind.i64.wrap (1 + (t.text.length : Int)) = 1 + (t.text.length : Int) := by rw [IntKind.wrap_i64] <;> omega
  have hs2 : IntKind.i64.wrap (1 + (t.text.length : Int) + (t.back.length : Int)) = 1 + (t.text.length : Int) + (t.back.length : Int) := by rw [IntKind.wrap_i64] <;> omega
  have HI := Lib.hid hI'
  have HSum := Lib.hid hsum
  clear hI hI' hsum hz hat hg hgo t0 t6
  go_enter Tryz.func78, Tryz.ntmps78
  go_wp2_with fail
  refine Eag.region (.mov 0 (.mov 1 (.mov 2 (.mov 3 (.mov 4 (.mov 5 (.mov 6 (.mov 7 (.mov 8 (.mov 9 (.mov 10 (.mov 11 (.mov 12 (.mov 13 (.anc 14 Eag.Sch.fin))))))))))))))) [14] (by kernel_rfl) (by kernel_rfl) (fun K ops hops hK => ?_)
  iterate 14
    refine Eag.mov hops rfl rfl (fun w' hb => ?_) ?_
    · have q0 := later hb t4; have q1 := later hb t5; have q2 := later hb x0; clear hb; go_simp
    go_simp
  refine Eag.anc hops rfl rfl ?_
  go_wp2_with fail
  refine Eag.fin (hK _ _ ?_)
  clear hK hops
  go_simp
  go_wp2_with fail
  go_ret
  refine ⟨rfl, ?_, (Keep.set (H := (· = r)) rfl).trans (Keep.drew _)⟩
  unfold wgtI wgtS
  have h1 := HSum.out
  rw [IntWalk.i64_left, show ((1 + t.text.length + t.back.length : Nat) : Int) = 1 + (t.text.length : Int) + (t.back.length : Int) by omega] at h1
  rw [← h1]
  exact blk_set HI.out
/-- canonizers' parts alone -/
def rgtI (r : Nat) (s : Bool) (w : World) : Prop := w.heap[r]? = some (.cells #[.bool s] 4)
def rgtS (s : Bool) (t : Pv.T) : Bool := s && Pv.isCanonOp t.op
set_option maxRecDepth 20000 in
theorem rgt_16 (r tb : Nat) (w : World) (h0 : w.cell? ⟨tb, 0, none⟩ = some (.int .i64 16)) (hI : rgtI r true w) :
    Calls Tryz.prog 42 #[Ptr tb, Ptr r] w fun e w' => e = .returned (.bool true) ∧ rgtI r true w' ∧ Keep (· = r) w w' := by
  have hI' : w.heap[r]? = some (.cells #[.bool true] 4) := hI
  have x0 : w.cell? ⟨r, 0, none⟩ = some (.bool true) := cell_of_blk (o := 0) hI' rfl
  have fr : ∀ o, w.frozen? ⟨r, o, none⟩ = false := fun o => frozen_of_blk hI'
  have HI := Lib.hid hI'
  clear hI hI'
  go_enter Tryz.func42, Tryz.ntmps42
  go_wp2_with fail
  go_ret
  exact ⟨rfl, by unfold rgtI; rw [blk_set HI.out]; rfl, Keep.set rfl⟩
set_option maxRecDepth 20000 in
theorem rgt_17 (r tb : Nat) (w : World) (h0 : w.cell? ⟨tb, 0, none⟩ = some (.int .i64 17)) (hI : rgtI r true w) :
    Calls Tryz.prog 42 #[Ptr tb, Ptr r] w fun e w' => e = .returned (.bool true) ∧ rgtI r true w' ∧ Keep (· = r) w w' := by
  have hI' : w.heap[r]? = some (.cells #[.bool true] 4) := hI
  have x0 : w.cell? ⟨r, 0, none⟩ = some (.bool true) := cell_of_blk (o := 0) hI' rfl
  have fr : ∀ o, w.frozen? ⟨r, o, none⟩ = false := fun o => frozen_of_blk hI'
  have HI := Lib.hid hI'
  clear hI hI'
  go_enter Tryz.func42, Tryz.ntmps42
  go_wp2_with fail
  go_ret
  exact ⟨rfl, by unfold rgtI; rw [blk_set HI.out]; rfl, Keep.set rfl⟩
set_option maxRecDepth 20000 in
theorem rgt_7 (r tb : Nat) (w : World) (h0 : w.cell? ⟨tb, 0, none⟩ = some (.int .i64 7)) (hI : rgtI r true w) :
    Calls Tryz.prog 42 #[Ptr tb, Ptr r] w fun e w' => e = .returned (.bool true) ∧ rgtI r true w' ∧ Keep (· = r) w w' := by
  have hI' : w.heap[r]? = some (.cells #[.bool true] 4) := hI
  have x0 : w.cell? ⟨r, 0, none⟩ = some (.bool true) := cell_of_blk (o := 0) hI' rfl
  have fr : ∀ o, w.frozen? ⟨r, o, none⟩ = false := fun o => frozen_of_blk hI'
  have HI := Lib.hid hI'
  clear hI hI'
  go_enter Tryz.func42, Tryz.ntmps42
  go_wp2_with fail
  go_ret
  exact ⟨rfl, by unfold rgtI; rw [blk_set HI.out]; rfl, Keep.set rfl⟩
set_option maxRecDepth 20000 in
theorem rgt_8 (r tb : Nat) (w : World) (h0 : w.cell? ⟨tb, 0, none⟩ = some (.int .i64 8)) (hI : rgtI r true w) :
    Calls Tryz.prog 42 #[Ptr tb, Ptr r] w fun e w' => e = .returned (.bool true) ∧ rgtI r true w' ∧ Keep (· = r) w w' := by
  have hI' : w.heap[r]? = some (.cells #[.bool true] 4) := hI
  have x0 : w.cell? ⟨r, 0, none⟩ = some (.bool true) := cell_of_blk (o := 0) hI' rfl
  have fr : ∀ o, w.frozen? ⟨r, o, none⟩ = false := fun o => frozen_of_blk hI'
  have HI := Lib.hid hI'
  clear hI hI'
  go_enter Tryz.func42, Tryz.ntmps42
  go_wp2_with fail
  go_ret
  exact ⟨rfl, by unfold rgtI; rw [blk_set HI.out]; rfl, Keep.set rfl⟩
set_option maxRecDepth 20000 in
theorem rgt_9 (r tb : Nat) (w : World) (h0 : w.cell? ⟨tb, 0, none⟩ = some (.int .i64 9)) (hI : rgtI r true w) :
    Calls Tryz.prog 42 #[Ptr tb, Ptr r] w fun e w' => e = .returned (.bool true) ∧ rgtI r true w' ∧ Keep (· = r) w w' := by
  have hI' : w.heap[r]? = some (.cells #[.bool true] 4) := hI
  have x0 : w.cell? ⟨r, 0, none⟩ = some (.bool true) := cell_of_blk (o := 0) hI' rfl
  have fr : ∀ o, w.frozen? ⟨r, o, none⟩ = false := fun o => frozen_of_blk hI'
  have HI := Lib.hid hI'
  clear hI hI'
  go_enter Tryz.func42, Tryz.ntmps42
  go_wp2_with fail
  go_ret
  exact ⟨rfl, by unfold rgtI; rw [blk_set HI.out]; rfl, Keep.set rfl⟩
set_option maxRecDepth 20000 in
theorem rgt_2 (r tb : Nat) (w : World) (h0 : w.cell? ⟨tb, 0, none⟩ = some (.int .i64 2)) (hI : rgtI r true w) :
    Calls Tryz.prog 42 #[Ptr tb, Ptr r] w fun e w' => e = .returned (.bool true) ∧ rgtI r false w' ∧ Keep (· = r) w w' := by
  have hI' : w.heap[r]? = some (.cells #[.bool true] 4) := hI
  have x0 : w.cell? ⟨r, 0, none⟩ = some (.bool true) := cell_of_blk (o := 0) hI' rfl
  have fr : ∀ o, w.frozen? ⟨r, o, none⟩ = false := fun o => frozen_of_blk hI'
  have HI := Lib.hid hI'
  clear hI hI'
  go_enter Tryz.func42, Tryz.ntmps42
  go_wp2_with fail
  go_ret
  exact ⟨rfl, by unfold rgtI; rw [blk_set HI.out]; rfl, Keep.set rfl⟩
set_option maxRecDepth 20000 in
theorem rgt_3 (r tb : Nat) (w : World) (h0 : w.cell? ⟨tb, 0, none⟩ = some (.int .i64 3)) (hI : rgtI r true w) :
    Calls Tryz.prog 42 #[Ptr tb, Ptr r] w fun e w' => e = .returned (.bool true) ∧ rgtI r false w' ∧ Keep (· = r) w w' := by
  have hI' : w.heap[r]? = some (.cells #[.bool true] 4) := hI
  have x0 : w.cell? ⟨r, 0, none⟩ = some (.bool true) := cell_of_blk (o := 0) hI' rfl
  have fr : ∀ o, w.frozen? ⟨r, o, none⟩ = false := fun o => frozen_of_blk hI'
  have HI := Lib.hid hI'
  clear hI hI'
  go_enter Tryz.func42, Tryz.ntmps42
  go_wp2_with fail
  go_ret
  exact ⟨rfl, by unfold rgtI; rw [blk_set HI.out]; rfl, Keep.set rfl⟩
set_option maxRecDepth 20000 in
theorem rgt_4 (r tb : Nat) (w : World) (h0 : w.cell? ⟨tb, 0, none⟩ = some (.int .i64 4)) (hI : rgtI r true w) :
    Calls Tryz.prog 42 #[Ptr tb, Ptr r] w fun e w' => e = .returned (.bool true) ∧ rgtI r false w' ∧ Keep (· = r) w w' := by
  have hI' : w.heap[r]? = some (.cells #[.bool true] 4) := hI
  have x0 : w.cell? ⟨r, 0, none⟩ = some (.bool true) := cell_of_blk (o := 0) hI' rfl
  have fr : ∀ o, w.frozen? ⟨r, o, none⟩ = false := fun o => frozen_of_blk hI'
  have HI := Lib.hid hI'
  clear hI hI'
  go_enter Tryz.func42, Tryz.ntmps42
  go_wp2_with fail
  go_ret
  exact ⟨rfl, by unfold rgtI; rw [blk_set HI.out]; rfl, Keep.set rfl⟩
set_option maxRecDepth 20000 in
theorem rgt_5 (r tb : Nat) (w : World) (h0 : w.cell? ⟨tb, 0, none⟩ = some (.int .i64 5)) (hI : rgtI r true w) :
    Calls Tryz.prog 42 #[Ptr tb, Ptr r] w fun e w' => e = .returned (.bool true) ∧ rgtI r false w' ∧ Keep (· = r) w w' := by
  have hI' : w.heap[r]? = some (.cells #[.bool true] 4) := hI
  have x0 : w.cell? ⟨r, 0, none⟩ = some (.bool true) := cell_of_blk (o := 0) hI' rfl
  have fr : ∀ o, w.frozen? ⟨r, o, none⟩ = false := fun o => frozen_of_blk hI'
  have HI := Lib.hid hI'
  clear hI hI'
  go_enter Tryz.func42, Tryz.ntmps42
  go_wp2_with fail
  go_ret
  exact ⟨rfl, by unfold rgtI; rw [blk_set HI.out]; rfl, Keep.set rfl⟩
set_option maxRecDepth 20000 in
theorem rgt_6 (r tb : Nat) (w : World) (h0 : w.cell? ⟨tb, 0, none⟩ = some (.int .i64 6)) (hI : rgtI r true w) :
    Calls Tryz.prog 42 #[Ptr tb, Ptr r] w fun e w' => e = .returned (.bool true) ∧ rgtI r false w' ∧ Keep (· = r) w w' := by
  have hI' : w.heap[r]? = some (.cells #[.bool true] 4) := hI
  have x0 : w.cell? ⟨r, 0, none⟩ = some (.bool true) := cell_of_blk (o := 0) hI' rfl
  have fr : ∀ o, w.frozen? ⟨r, o, none⟩ = false := fun o => frozen_of_blk hI'
  have HI := Lib.hid hI'
  clear hI hI'
  go_enter Tryz.func42, Tryz.ntmps42
  go_wp2_with fail
  go_ret
  exact ⟨rfl, by unfold rgtI; rw [blk_set HI.out]; rfl, Keep.set rfl⟩
set_option maxRecDepth 20000 in
theorem rgt_10 (r tb : Nat) (w : World) (h0 : w.cell? ⟨tb, 0, none⟩ = some (.int .i64 10)) (hI : rgtI r true w) :
    Calls Tryz.prog 42 #[Ptr tb, Ptr r] w fun e w' => e = .returned (.bool true) ∧ rgtI r false w' ∧ Keep (· = r) w w' := by
  have hI' : w.heap[r]? = some (.cells #[.bool true] 4) := hI
  have x0 : w.cell? ⟨r, 0, none⟩ = some (.bool true) := cell_of_blk (o := 0) hI' rfl
  have fr : ∀ o, w.frozen? ⟨r, o, none⟩ = false := fun o => frozen_of_blk hI'
  have HI := Lib.hid hI'
  clear hI hI'
  go_enter Tryz.func42, Tryz.ntmps42
  go_wp2_with fail
  go_ret
  exact ⟨rfl, by unfold rgtI; rw [blk_set HI.out]; rfl, Keep.set rfl⟩
set_option maxRecDepth 20000 in
theorem rgt_11 (r tb : Nat) (w : World) (h0 : w.cell? ⟨tb, 0, none⟩ = some (.int .i64 11)) (hI : rgtI r true w) :
    Calls Tryz.prog 42 #[Ptr tb, Ptr r] w fun e w' => e = .returned (.bool true) ∧ rgtI r false w' ∧ Keep (· = r) w w' := by
  have hI' : w.heap[r]? = some (.cells #[.bool true] 4) := hI
  have x0 : w.cell? ⟨r, 0, none⟩ = some (.bool true) := cell_of_blk (o := 0) hI' rfl
  have fr : ∀ o, w.frozen? ⟨r, o, none⟩ = false := fun o => frozen_of_blk hI'
  have HI := Lib.hid hI'
  clear hI hI'
  go_enter Tryz.func42, Tryz.ntmps42
  go_wp2_with fail
  go_ret
  exact ⟨rfl, by unfold rgtI; rw [blk_set HI.out]; rfl, Keep.set rfl⟩
set_option maxRecDepth 20000 in
theorem rgt_12 (r tb : Nat) (w : World) (h0 : w.cell? ⟨tb, 0, none⟩ = some (.int .i64 12)) (hI : rgtI r true w) :
    Calls Tryz.prog 42 #[Ptr tb, Ptr r] w fun e w' => e = .returned (.bool true) ∧ rgtI r false w' ∧ Keep (· = r) w w' := by
  have hI' : w.heap[r]? = some (.cells #[.bool true] 4) := hI
  have x0 : w.cell? ⟨r, 0, none⟩ = some (.bool true) := cell_of_blk (o := 0) hI' rfl
  have fr : ∀ o, w.frozen? ⟨r, o, none⟩ = false := fun o => frozen_of_blk hI'
  have HI := Lib.hid hI'
  clear hI hI'
  go_enter Tryz.func42, Tryz.ntmps42
  go_wp2_with fail
  go_ret
  exact ⟨rfl, by unfold rgtI; rw [blk_set HI.out]; rfl, Keep.set rfl⟩
set_option maxRecDepth 20000 in
theorem rgt_13 (r tb : Nat) (w : World) (h0 : w.cell? ⟨tb, 0, none⟩ = some (.int .i64 13)) (hI : rgtI r true w) :
    Calls Tryz.prog 42 #[Ptr tb, Ptr r] w fun e w' => e = .returned (.bool true) ∧ rgtI r false w' ∧ Keep (· = r) w w' := by
  have hI' : w.heap[r]? = some (.cells #[.bool true] 4) := hI
  have x0 : w.cell? ⟨r, 0, none⟩ = some (.bool true) := cell_of_blk (o := 0) hI' rfl
  have fr : ∀ o, w.frozen? ⟨r, o, none⟩ = false := fun o => frozen_of_blk hI'
  have HI := Lib.hid hI'
  clear hI hI'
  go_enter Tryz.func42, Tryz.ntmps42
  go_wp2_with fail
  go_ret
  exact ⟨rfl, by unfold rgtI; rw [blk_set HI.out]; rfl, Keep.set rfl⟩
set_option maxRecDepth 20000 in
theorem rgt_14 (r tb : Nat) (w : World) (h0 : w.cell? ⟨tb, 0, none⟩ = some (.int .i64 14)) (hI : rgtI r true w) :
    Calls Tryz.prog 42 #[Ptr tb, Ptr r] w fun e w' => e = .returned (.bool true) ∧ rgtI r false w' ∧ Keep (· = r) w w' := by
  have hI' : w.heap[r]? = some (.cells #[.bool true] 4) := hI
  have x0 : w.cell? ⟨r, 0, none⟩ = some (.bool true) := cell_of_blk (o := 0) hI' rfl
  have fr : ∀ o, w.frozen? ⟨r, o, none⟩ = false := fun o => frozen_of_blk hI'
  have HI := Lib.hid hI'
  clear hI hI'
  go_enter Tryz.func42, Tryz.ntmps42
  go_wp2_with fail
  go_ret
  exact ⟨rfl, by unfold rgtI; rw [blk_set HI.out]; rfl, Keep.set rfl⟩
set_option maxRecDepth 20000 in
theorem rgt_15 (r tb : Nat) (w : World) (h0 : w.cell? ⟨tb, 0, none⟩ = some (.int .i64 15)) (hI : rgtI r true w) :
    Calls Tryz.prog 42 #[Ptr tb, Ptr r] w fun e w' => e = .returned (.bool true) ∧ rgtI r false w' ∧ Keep (· = r) w w' := by
  have hI' : w.heap[r]? = some (.cells #[.bool true] 4) := hI
  have x0 : w.cell? ⟨r, 0, none⟩ = some (.bool true) := cell_of_blk (o := 0) hI' rfl
  have fr : ∀ o, w.frozen? ⟨r, o, none⟩ = false := fun o => frozen_of_blk hI'
  have HI := Lib.hid hI'
  clear hI hI'
  go_enter Tryz.func42, Tryz.ntmps42
  go_wp2_with fail
  go_ret
  exact ⟨rfl, by unfold rgtI; rw [blk_set HI.out]; rfl, Keep.set rfl⟩
theorem rgt_no (r tb : Nat) (w : World) (hI : rgtI r false w) :
    Calls Tryz.prog 42 #[Ptr tb, Ptr r] w fun e w' => e = .returned (.bool true) ∧ rgtI r false w' ∧ Keep (· = r) w w' := by
  have hI' : w.heap[r]? = some (.cells #[.bool false] 4) := hI
  have x0 : w.cell? ⟨r, 0, none⟩ = some (.bool false) := cell_of_blk (o := 0) hI' rfl
  have fr : ∀ o, w.frozen? ⟨r, o, none⟩ = false := fun o => frozen_of_blk hI'
  have HI := Lib.hid hI'
  clear hI hI'
  go_enter Tryz.func42, Tryz.ntmps42
  go_wp2_with fail
  go_ret
  exact ⟨rfl, by unfold rgtI; rw [blk_set HI.out]; rfl, Keep.set rfl⟩
theorem rgt_step (r : Nat) (t : Pv.T) (tb : Nat) (s : Bool) (w : World) (hg : Pv.TGood t) (hat : TAt (· = r) w t tb) (hI : rgtI r s w) :
    Calls Tryz.prog 42 #[Ptr tb, Ptr r] w fun e w' => e = .returned (.bool true) ∧ rgtI r (rgtS s t) w' ∧ Keep (· = r) w w' := by
  obtain ⟨a, c, bs, t0, _⟩ := hat.cells
  have hgo := hg.open_
  cases s with
  | false => exact rgt_no r tb w hI
  | true =>
    have hop : t.op = 2 ∨ t.op = 3 ∨ t.op = 4 ∨ t.op = 5 ∨ t.op = 6 ∨ t.op = 10 ∨ t.op = 11 ∨ t.op = 12 ∨ t.op = 13 ∨ t.op = 14 ∨ t.op = 15 ∨ t.op = 16 ∨ t.op = 17 ∨ t.op = 7 ∨ t.op = 8 ∨ t.op = 9 := by have h1 := hgo.1; have h2 := hgo.2.1; omega
    rcases hop with e | e | e | e | e | e | e | e | e | e | e | e | e | e | e | e <;> rw [e] at t0 <;> (have hr : rgtS true t = Pv.isCanonOp t.op := rfl) <;> rw [hr, e]
    · exact rgt_2 r tb w t0 hI
    · exact rgt_3 r tb w t0 hI
    · exact rgt_4 r tb w t0 hI
    · exact rgt_5 r tb w t0 hI
    · exact rgt_6 r tb w t0 hI
    · exact rgt_10 r tb w t0 hI
    · exact rgt_11 r tb w t0 hI
    · exact rgt_12 r tb w t0 hI
    · exact rgt_13 r tb w t0 hI
    · exact rgt_14 r tb w t0 hI
    · exact rgt_15 r tb w t0 hI
    · exact rgt_16 r tb w t0 hI
    · exact rgt_17 r tb w t0 hI
    · exact rgt_7 r tb w t0 hI
    · exact rgt_8 r tb w t0 hI
    · exact rgt_9 r tb w t0 hI
mutual
theorem foldT_rgt : ∀ (t : Pv.T) (s : Bool), foldT rgtS s t = (s && Pv.canonAll t)
  | .mk op a n r tx bk ks, s => by
    unfold foldT Pv.canonAll
    rw [foldTs_rgt ks]
    simp only [rgtS, Pv.T.op, Bool.and_assoc]
theorem foldTs_rgt : ∀ (ts : List Pv.T) (s : Bool), foldTs rgtS s ts = (s && Pv.canonAlls ts)
  | [], s => by simp [foldTs, Pv.canonAlls]
  | t :: ts, s => by
    unfold foldTs Pv.canonAlls
    rw [foldTs_rgt ts, foldT_rgt t, Bool.and_assoc]
end
mutual
theorem foldT_wgt : ∀ (t : Pv.T) (s : Nat), foldT wgtS s t = s + Pv.weight t
  | .mk op a n r tx bk ks, s => by
    unfold foldT Pv.weight
    rw [foldTs_wgt ks]
    simp only [wgtS, Pv.T.text, Pv.T.back]
    omega
theorem foldTs_wgt : ∀ (ts : List Pv.T) (s : Nat), foldTs wgtS s ts = s + Pv.weights ts
  | [], s => by simp [foldTs, Pv.weights]
  | t :: ts, s => by
    unfold foldTs Pv.weights
    rw [foldTs_wgt ts, foldT_wgt t]
    omega
end
theorem good_kids {t : Pv.T} (hg : Pv.TGood t) : t.kids.length < 1099511627776 ∧ ∀ k ∈ t.kids, Pv.TGood k := by
  have h := hg.open_
  exact ⟨Nat.lt_of_le_of_lt (shaped_len h.2.2.1) (by decide), fun k hk => h.2.2.2.2.2.2.mem k hk⟩
theorem cweight_any (t : Pv.T) (tb : Nat) (w : World) (hg : Pv.TGood t) (hat : TAt (fun _ => False) w t tb) (hwt : Pv.weight t < 1099511627776) :
    Calls Tryz.prog 39 #[Ptr tb] w fun e w' => e = .returned (.int .i64 (Pv.weight t : Int)) ∧ Below w.heap.size w w' := by
  obtain ⟨r, hr⟩ : ∃ r, w.heap.size = r := ⟨_, rfl⟩
  have hwk := walk_any Pv.TGood (fun _ h => good_kids h) 78 r (enters_of Tryz.func78 (by kernel_rfl) rfl) (wgtI r) wgtS (fun t tb s w hp ha hi => wgt_step r t tb s w hp ha hi)
  have HWk := Lib.hid hwk
  have HAt := Lib.hid hat
  have HG := Lib.hid hg
  clear hwk hat hg
  go_enter Tryz.func39, Tryz.ntmps39
  go_wp2_with fail
  obtain ⟨w1, hw1⟩ : ∃ w1, w.alloc (.cells #[.int .i64 0] 3) = w1 := ⟨_, rfl⟩
  have hb1 : Below w.heap.size w w1 := by rw [← hw1]; exact (Below.refl _ _).alloc (Nat.le_refl _) _
  have hx1 : w1.heap[r]? = some (.cells #[.int .i64 0] 3) := by rw [← hw1]; exact blk_new hr
  rw [hw1]
  clear hw1
  refine (HWk.out _ t tb 0 w1 (Nat.le_refl _) HG.out ((HAt.out.widen fun x e => .inr (by rw [e]; omega)).later hb1) (show w1.heap[r]? = some (.cells #[.int .i64 (wrap64 ((0 : Nat) : Int))] 3) by rw [show wrap64 ((0 : Nat) : Int) = 0 by unfold wrap64; rfl]; exact hx1)).mono ?_
  rintro e w2 ⟨rfl, hi2, hk2⟩
  rw [foldT_wgt] at hi2
  have hv : wrap64 ((0 + Pv.weight t : Nat) : Int) = (Pv.weight t : Int) := by unfold wrap64; omega
  have hi2' : w2.heap[r]? = some (.cells #[.int .i64 (wrap64 ((0 + Pv.weight t : Nat) : Int))] 3) := hi2
  rw [hv] at hi2'
  have x0 : w2.cell? ⟨r, 0, none⟩ = some (.int .i64 (Pv.weight t : Int)) := cell_of_blk (o := 0) hi2' rfl
  have hB := Lib.hid (hb1.trans (hk2.below hb1.size fun x e => by rw [e]; omega))
  clear hi2 hi2' hk2 hb1 hx1 hv HWk
  go_wp2_with fail
  go_ret
  exact ⟨rfl, hB.out⟩
theorem cweight_nil (w : World) : Calls Tryz.prog 39 #[.pointer none] w fun e w' => e = .returned (.int .i64 0) ∧ Below w.heap.size w w' := by
  have hwk : ∀ (r : Nat) (W : World), Pure 41 #[.pointer none, .func (.func 78) #[] #[Ptr r]] W (.bool true) := fun r W => by
    go_enter Tryz.func41, Tryz.ntmps41
    go_wp2_with fail
    go_ret
    exact ⟨rfl, rfl⟩
  have HWk := Lib.hid hwk
  clear hwk
  go_enter Tryz.func39, Tryz.ntmps39
  go_wp2_with fail
  refine (HWk.out _ _).mono ?_
  rintro e w' ⟨rfl, rfl⟩
  go_wp2_with fail
  go_ret
  exact ⟨rfl, (Below.refl _ _).alloc (Nat.le_refl _) _⟩
end Go.Proofs.YtbimpenhmefpeaaGreatDoor
namespace Go.Eaq
open Go Go.RowKit
open Go.Eag (Sch runVal)
open Go.Eak
section
variable {P : Program} {ops : Array Oper} {Q : Exit → Act → World → Prop}
variable {Rl : World → World → Prop} [hPre : Pre Rl]
end
end Go.Eaq
