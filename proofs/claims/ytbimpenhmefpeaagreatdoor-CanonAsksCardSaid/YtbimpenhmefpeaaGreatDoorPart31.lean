/- The law's twelve expressions, made. -/
import Derived.Test.YtbimpenhmefpeaaGreatDoorPart30
import Derived.Test.YtbimpenhmefpeaaGreatDoorPart04
import Derived.Test.YtbimpenhmefpeaaGreatDoorPart12
import Derived.Test.YtbimpenhmefpeaaGreatDoorPart29
import Derived.Test.YtbimpenhmefpeaaGreatDoorPart26
import Derived.Test.YtbimpenhmefpeaaGreatDoorPart23
set_option linter.all false
namespace Go.Proofs.YtbimpenhmefpeaaGreatDoor
open Go.RowKit Go.Maps
variable {H : Nat → Prop}

theorem res2 {w : World} {r1 r2 : Pv.R} {x y : Nat} (h1 : ReAt H w r1 x) (h2 : ReAt H w r2 y) : ResAt H w [r1, r2] [x, y] := by
  unfold ResAt
  refine ⟨x, [y], rfl, h1, ?_⟩
  unfold ResAt
  refine ⟨y, [], rfl, h2, ?_⟩
  exact ResAt.nil
theorem ex_ix (n : Int) : wrap64 ((IntKind.u64.wrap n).tmod 12) = (Pv.exIx n : Int) := by
  have h1 : IntKind.u64.wrap n = n % 18446744073709551616 := by simp [IntKind.wrap, IntKind.bits, IntKind.signed]
  rw [h1, Int.tmod_eq_emod_of_nonneg (by omega)]
  unfold Pv.exIx
  have h2 : wrap64 (n % 18446744073709551616 % 12) = n % 18446744073709551616 % 12 := by
    unfold wrap64
    omega
  rw [h2]
  omega
set_option maxRecDepth 20000 in
set_option maxHeartbeats 1000000 in
theorem expr_any (n : Int) (w : World) : Calls Tryz.prog 7 #[.int .i64 n] w fun e w' => ∃ b, e = .returned (Ptr b) ∧ ReAt (fun _ => False) w' (Pv.exOf n) b ∧ Below w.heap.size w w' := by
  have HB := Lib.hid (Below.refl w.heap.size w)
  go_enter Tryz.func7, Tryz.ntmps7
  go_wp2_with fail
  refine (word_any (H := fun _ => False) [97] w (fun _ h => h.elim) (by decide)).mono ?_
  rintro e w1 ⟨a, rfl, hr, hb⟩
  have HB := Lib.hid (HB.out.trans (hb.mono HB.out.size))
  have Ra := Lib.hid hr
  clear hr hb
  go_wp2_with fail
  refine (word_any (H := fun _ => False) [98] w1 (fun _ h => h.elim) (by decide)).mono ?_
  rintro e w2 ⟨b, rfl, hr, hb⟩
  have Ra := Lib.hid (Ra.out.later hb)
  have HB := Lib.hid (HB.out.trans (hb.mono HB.out.size))
  have Rb := Lib.hid hr
  clear hr hb
  go_wp2_with fail
  obtain ⟨g3, hg3⟩ : ∃ n, w2.heap.size = n := ⟨_, rfl⟩
  obtain ⟨w3, hw⟩ : ∃ w1, w2.alloc (.cells #[.int .u8 97, .int .u8 98] 5) = w1 := ⟨_, rfl⟩
  have hb : Below w2.heap.size w2 w3 := by rw [← hw]; exact (Below.refl _ _).alloc (Nat.le_refl _) _
  have hx : w3.heap[g3]? = some (.cells #[.int .u8 97, .int .u8 98] 5) := by rw [← hw]; exact blk_new hg3
  rw [hg3, hw]
  clear hw
  have Ra := Lib.hid (Ra.out.later hb)
  have Rb := Lib.hid (Rb.out.later hb)
  have HB := Lib.hid (HB.out.trans (hb.mono HB.out.size))
  have HX := Lib.hid hx
  clear hb hx
  refine (ab_any g3 w3 HX.out).mono ?_
  rintro e w4 ⟨rfl, hb⟩
  have Ra := Lib.hid (Ra.out.later hb)
  have Rb := Lib.hid (Rb.out.later hb)
  have HB := Lib.hid (HB.out.trans (hb.mono HB.out.size))
  clear hb
  go_wp2_with fail
  refine (one_any (H := fun _ => False) (Pv.S4.of [97, 98]) w4 (fun _ h => h.elim)).mono ?_
  rintro e w5 ⟨o, rfl, hr, hb⟩
  have Ra := Lib.hid (Ra.out.later hb)
  have Rb := Lib.hid (Rb.out.later hb)
  have HB := Lib.hid (HB.out.trans (hb.mono HB.out.size))
  have Ro := Lib.hid hr
  clear hr hb
  go_wp2_with fail
  refine (word_any (H := fun _ => False) [99] w5 (fun _ h => h.elim) (by decide)).mono ?_
  rintro e w6 ⟨c, rfl, hr, hb⟩
  have Ra := Lib.hid (Ra.out.later hb)
  have Rb := Lib.hid (Rb.out.later hb)
  have Ro := Lib.hid (Ro.out.later hb)
  have HB := Lib.hid (HB.out.trans (hb.mono HB.out.size))
  have Rc := Lib.hid hr
  clear hr hb
  go_wp2_with fail
  refine (word_any (H := fun _ => False) [59] w6 (fun _ h => h.elim) (by decide)).mono ?_
  rintro e w7 ⟨s, rfl, hr, hb⟩
  have Ra := Lib.hid (Ra.out.later hb)
  have Rb := Lib.hid (Rb.out.later hb)
  have Ro := Lib.hid (Ro.out.later hb)
  have Rc := Lib.hid (Rc.out.later hb)
  have HB := Lib.hid (HB.out.trans (hb.mono HB.out.size))
  have Rs := Lib.hid hr
  clear hr hb
  go_wp2_with fail
  refine (many_any (H := fun _ => False) (Pv.word [97]) a w7 Ra.out (fun _ h => h.elim) (by decide +kernel)).mono ?_
  rintro e w8 ⟨ma, rfl, hr, hb⟩
  have Ra := Lib.hid (Ra.out.later hb)
  have Rb := Lib.hid (Rb.out.later hb)
  have Ro := Lib.hid (Ro.out.later hb)
  have Rc := Lib.hid (Rc.out.later hb)
  have Rs := Lib.hid (Rs.out.later hb)
  have HB := Lib.hid (HB.out.trans (hb.mono HB.out.size))
  have Rma := Lib.hid hr
  clear hr hb
  go_wp2_with fail
  refine (many_any (H := fun _ => False) (Pv.one (Pv.S4.of [97, 98])) o w8 Ro.out (fun _ h => h.elim) (by decide +kernel)).mono ?_
  rintro e w9 ⟨mo, rfl, hr, hb⟩
  have Ra := Lib.hid (Ra.out.later hb)
  have Rb := Lib.hid (Rb.out.later hb)
  have Ro := Lib.hid (Ro.out.later hb)
  have Rc := Lib.hid (Rc.out.later hb)
  have Rs := Lib.hid (Rs.out.later hb)
  have Rma := Lib.hid (Rma.out.later hb)
  have HB := Lib.hid (HB.out.trans (hb.mono HB.out.size))
  have Rmo := Lib.hid hr
  clear hr hb
  go_wp2_with fail
  refine (many_any (H := fun _ => False) (Pv.word [98]) b w9 Rb.out (fun _ h => h.elim) (by decide +kernel)).mono ?_
  rintro e w10 ⟨mb, rfl, hr, hb⟩
  have Ra := Lib.hid (Ra.out.later hb)
  have Rb := Lib.hid (Rb.out.later hb)
  have Ro := Lib.hid (Ro.out.later hb)
  have Rc := Lib.hid (Rc.out.later hb)
  have Rs := Lib.hid (Rs.out.later hb)
  have Rma := Lib.hid (Rma.out.later hb)
  have Rmo := Lib.hid (Rmo.out.later hb)
  have HB := Lib.hid (HB.out.trans (hb.mono HB.out.size))
  have Rmb := Lib.hid hr
  clear hr hb
  go_wp2_with fail
  obtain ⟨g11, hg11⟩ : ∃ n, w10.heap.size = n := ⟨_, rfl⟩
  obtain ⟨w11, hw⟩ : ∃ w1, w10.alloc (.cells #[Ptr a, Ptr mb] 23) = w1 := ⟨_, rfl⟩
  have hb : Below w10.heap.size w10 w11 := by rw [← hw]; exact (Below.refl _ _).alloc (Nat.le_refl _) _
  have hx : w11.heap[g11]? = some (.cells #[Ptr a, Ptr mb] 23) := by rw [← hw]; exact blk_new hg11
  rw [hg11, hw]
  clear hw
  have Ra := Lib.hid (Ra.out.later hb)
  have Rb := Lib.hid (Rb.out.later hb)
  have Ro := Lib.hid (Ro.out.later hb)
  have Rc := Lib.hid (Rc.out.later hb)
  have Rs := Lib.hid (Rs.out.later hb)
  have Rma := Lib.hid (Rma.out.later hb)
  have Rmo := Lib.hid (Rmo.out.later hb)
  have Rmb := Lib.hid (Rmb.out.later hb)
  have HB := Lib.hid (HB.out.trans (hb.mono HB.out.size))
  have HX := Lib.hid hx
  clear hb hx
  refine (cat_any (H := fun _ => False) [(Pv.word [97]), (Pv.many (Pv.word [98]))] (some ⟨g11, 0, none⟩) 2 [a, mb] w11 (Sl.of_blk2 HX.out) (res2 Ra.out Rmb.out) (fun _ h => h.elim) (by decide +kernel)).mono ?_
  rintro e w12 ⟨ab, rfl, hr, hb⟩
  have Ra := Lib.hid (Ra.out.later hb)
  have Rb := Lib.hid (Rb.out.later hb)
  have Ro := Lib.hid (Ro.out.later hb)
  have Rc := Lib.hid (Rc.out.later hb)
  have Rs := Lib.hid (Rs.out.later hb)
  have Rma := Lib.hid (Rma.out.later hb)
  have Rmo := Lib.hid (Rmo.out.later hb)
  have Rmb := Lib.hid (Rmb.out.later hb)
  have HB := Lib.hid (HB.out.trans (hb.mono HB.out.size))
  have Rab := Lib.hid hr
  clear hr hb
  go_wp2_with fail
  refine (many_any (H := fun _ => False) (Pv.one (Pv.S4.of [97, 98])) o w12 Ro.out (fun _ h => h.elim) (by decide +kernel)).mono ?_
  rintro e w13 ⟨mo2, rfl, hr, hb⟩
  have Ra := Lib.hid (Ra.out.later hb)
  have Rb := Lib.hid (Rb.out.later hb)
  have Ro := Lib.hid (Ro.out.later hb)
  have Rc := Lib.hid (Rc.out.later hb)
  have Rs := Lib.hid (Rs.out.later hb)
  have Rma := Lib.hid (Rma.out.later hb)
  have Rmo := Lib.hid (Rmo.out.later hb)
  have Rmb := Lib.hid (Rmb.out.later hb)
  have Rab := Lib.hid (Rab.out.later hb)
  have HB := Lib.hid (HB.out.trans (hb.mono HB.out.size))
  have Rmo2 := Lib.hid hr
  clear hr hb
  go_wp2_with fail
  obtain ⟨g14, hg14⟩ : ∃ n, w13.heap.size = n := ⟨_, rfl⟩
  obtain ⟨w14, hw⟩ : ∃ w1, w13.alloc (.cells #[Ptr o, Ptr mo2] 23) = w1 := ⟨_, rfl⟩
  have hb : Below w13.heap.size w13 w14 := by rw [← hw]; exact (Below.refl _ _).alloc (Nat.le_refl _) _
  have hx : w14.heap[g14]? = some (.cells #[Ptr o, Ptr mo2] 23) := by rw [← hw]; exact blk_new hg14
  rw [hg14, hw]
  clear hw
  have Ra := Lib.hid (Ra.out.later hb)
  have Rb := Lib.hid (Rb.out.later hb)
  have Ro := Lib.hid (Ro.out.later hb)
  have Rc := Lib.hid (Rc.out.later hb)
  have Rs := Lib.hid (Rs.out.later hb)
  have Rma := Lib.hid (Rma.out.later hb)
  have Rmo := Lib.hid (Rmo.out.later hb)
  have Rmb := Lib.hid (Rmb.out.later hb)
  have Rab := Lib.hid (Rab.out.later hb)
  have Rmo2 := Lib.hid (Rmo2.out.later hb)
  have HB := Lib.hid (HB.out.trans (hb.mono HB.out.size))
  have HX := Lib.hid hx
  clear hb hx
  refine (cat_any (H := fun _ => False) [(Pv.one (Pv.S4.of [97, 98])), (Pv.many (Pv.one (Pv.S4.of [97, 98])))] (some ⟨g14, 0, none⟩) 2 [o, mo2] w14 (Sl.of_blk2 HX.out) (res2 Ro.out Rmo2.out) (fun _ h => h.elim) (by decide +kernel)).mono ?_
  rintro e w15 ⟨oo, rfl, hr, hb⟩
  have Ra := Lib.hid (Ra.out.later hb)
  have Rb := Lib.hid (Rb.out.later hb)
  have Ro := Lib.hid (Ro.out.later hb)
  have Rc := Lib.hid (Rc.out.later hb)
  have Rs := Lib.hid (Rs.out.later hb)
  have Rma := Lib.hid (Rma.out.later hb)
  have Rmo := Lib.hid (Rmo.out.later hb)
  have Rmb := Lib.hid (Rmb.out.later hb)
  have Rab := Lib.hid (Rab.out.later hb)
  have Rmo2 := Lib.hid (Rmo2.out.later hb)
  have HB := Lib.hid (HB.out.trans (hb.mono HB.out.size))
  have Roo := Lib.hid hr
  clear hr hb
  go_wp2_with fail
  refine (word_any (H := fun _ => False) [99, 99] w15 (fun _ h => h.elim) (by decide)).mono ?_
  rintro e w16 ⟨cc, rfl, hr, hb⟩
  have Ra := Lib.hid (Ra.out.later hb)
  have Rb := Lib.hid (Rb.out.later hb)
  have Ro := Lib.hid (Ro.out.later hb)
  have Rc := Lib.hid (Rc.out.later hb)
  have Rs := Lib.hid (Rs.out.later hb)
  have Rma := Lib.hid (Rma.out.later hb)
  have Rmo := Lib.hid (Rmo.out.later hb)
  have Rmb := Lib.hid (Rmb.out.later hb)
  have Rab := Lib.hid (Rab.out.later hb)
  have Rmo2 := Lib.hid (Rmo2.out.later hb)
  have Roo := Lib.hid (Roo.out.later hb)
  have HB := Lib.hid (HB.out.trans (hb.mono HB.out.size))
  have Rcc := Lib.hid hr
  clear hr hb
  go_wp2_with fail
  obtain ⟨g17, hg17⟩ : ∃ n, w16.heap.size = n := ⟨_, rfl⟩
  obtain ⟨w17, hw⟩ : ∃ w1, w16.alloc (.cells #[Ptr a, Ptr cc] 23) = w1 := ⟨_, rfl⟩
  have hb : Below w16.heap.size w16 w17 := by rw [← hw]; exact (Below.refl _ _).alloc (Nat.le_refl _) _
  have hx : w17.heap[g17]? = some (.cells #[Ptr a, Ptr cc] 23) := by rw [← hw]; exact blk_new hg17
  rw [hg17, hw]
  clear hw
  have Ra := Lib.hid (Ra.out.later hb)
  have Rb := Lib.hid (Rb.out.later hb)
  have Ro := Lib.hid (Ro.out.later hb)
  have Rc := Lib.hid (Rc.out.later hb)
  have Rs := Lib.hid (Rs.out.later hb)
  have Rma := Lib.hid (Rma.out.later hb)
  have Rmo := Lib.hid (Rmo.out.later hb)
  have Rmb := Lib.hid (Rmb.out.later hb)
  have Rab := Lib.hid (Rab.out.later hb)
  have Rmo2 := Lib.hid (Rmo2.out.later hb)
  have Roo := Lib.hid (Roo.out.later hb)
  have Rcc := Lib.hid (Rcc.out.later hb)
  have HB := Lib.hid (HB.out.trans (hb.mono HB.out.size))
  have HX := Lib.hid hx
  clear hb hx
  refine (any_any (H := fun _ => False) [(Pv.word [97]), (Pv.word [99, 99])] (some ⟨g17, 0, none⟩) 2 [a, cc] w17 (Sl.of_blk2 HX.out) (res2 Ra.out Rcc.out) (fun _ h => h.elim) (by decide +kernel)).mono ?_
  rintro e w18 ⟨ac, rfl, hr, hb⟩
  have Ra := Lib.hid (Ra.out.later hb)
  have Rb := Lib.hid (Rb.out.later hb)
  have Ro := Lib.hid (Ro.out.later hb)
  have Rc := Lib.hid (Rc.out.later hb)
  have Rs := Lib.hid (Rs.out.later hb)
  have Rma := Lib.hid (Rma.out.later hb)
  have Rmo := Lib.hid (Rmo.out.later hb)
  have Rmb := Lib.hid (Rmb.out.later hb)
  have Rab := Lib.hid (Rab.out.later hb)
  have Rmo2 := Lib.hid (Rmo2.out.later hb)
  have Roo := Lib.hid (Roo.out.later hb)
  have Rcc := Lib.hid (Rcc.out.later hb)
  have HB := Lib.hid (HB.out.trans (hb.mono HB.out.size))
  have Rac := Lib.hid hr
  clear hr hb
  go_wp2_with fail
  refine (empty_re (H := fun _ => False) w18 (fun _ h => h.elim)).mono ?_
  rintro e w19 ⟨em, rfl, hr, hb⟩
  have Ra := Lib.hid (Ra.out.later hb)
  have Rb := Lib.hid (Rb.out.later hb)
  have Ro := Lib.hid (Ro.out.later hb)
  have Rc := Lib.hid (Rc.out.later hb)
  have Rs := Lib.hid (Rs.out.later hb)
  have Rma := Lib.hid (Rma.out.later hb)
  have Rmo := Lib.hid (Rmo.out.later hb)
  have Rmb := Lib.hid (Rmb.out.later hb)
  have Rab := Lib.hid (Rab.out.later hb)
  have Rmo2 := Lib.hid (Rmo2.out.later hb)
  have Roo := Lib.hid (Roo.out.later hb)
  have Rcc := Lib.hid (Rcc.out.later hb)
  have Rac := Lib.hid (Rac.out.later hb)
  have HB := Lib.hid (HB.out.trans (hb.mono HB.out.size))
  have Rem := Lib.hid hr
  clear hr hb
  go_wp2_with fail
  refine (many_any (H := fun _ => False) (Pv.one (Pv.S4.of [97, 98])) o w19 Ro.out (fun _ h => h.elim) (by decide +kernel)).mono ?_
  rintro e w20 ⟨mo3, rfl, hr, hb⟩
  have Ra := Lib.hid (Ra.out.later hb)
  have Rb := Lib.hid (Rb.out.later hb)
  have Ro := Lib.hid (Ro.out.later hb)
  have Rc := Lib.hid (Rc.out.later hb)
  have Rs := Lib.hid (Rs.out.later hb)
  have Rma := Lib.hid (Rma.out.later hb)
  have Rmo := Lib.hid (Rmo.out.later hb)
  have Rmb := Lib.hid (Rmb.out.later hb)
  have Rab := Lib.hid (Rab.out.later hb)
  have Rmo2 := Lib.hid (Rmo2.out.later hb)
  have Roo := Lib.hid (Roo.out.later hb)
  have Rcc := Lib.hid (Rcc.out.later hb)
  have Rac := Lib.hid (Rac.out.later hb)
  have Rem := Lib.hid (Rem.out.later hb)
  have HB := Lib.hid (HB.out.trans (hb.mono HB.out.size))
  have Rmo3 := Lib.hid hr
  clear hr hb
  go_wp2_with fail
  refine (word_any (H := fun _ => False) [59] w20 (fun _ h => h.elim) (by decide)).mono ?_
  rintro e w21 ⟨s2, rfl, hr, hb⟩
  have Ra := Lib.hid (Ra.out.later hb)
  have Rb := Lib.hid (Rb.out.later hb)
  have Ro := Lib.hid (Ro.out.later hb)
  have Rc := Lib.hid (Rc.out.later hb)
  have Rs := Lib.hid (Rs.out.later hb)
  have Rma := Lib.hid (Rma.out.later hb)
  have Rmo := Lib.hid (Rmo.out.later hb)
  have Rmb := Lib.hid (Rmb.out.later hb)
  have Rab := Lib.hid (Rab.out.later hb)
  have Rmo2 := Lib.hid (Rmo2.out.later hb)
  have Roo := Lib.hid (Roo.out.later hb)
  have Rcc := Lib.hid (Rcc.out.later hb)
  have Rac := Lib.hid (Rac.out.later hb)
  have Rem := Lib.hid (Rem.out.later hb)
  have Rmo3 := Lib.hid (Rmo3.out.later hb)
  have HB := Lib.hid (HB.out.trans (hb.mono HB.out.size))
  have Rs2 := Lib.hid hr
  clear hr hb
  go_wp2_with fail
  obtain ⟨g22, hg22⟩ : ∃ n, w21.heap.size = n := ⟨_, rfl⟩
  obtain ⟨w22, hw⟩ : ∃ w1, w21.alloc (.cells #[Ptr mo3, Ptr s2] 23) = w1 := ⟨_, rfl⟩
  have hb : Below w21.heap.size w21 w22 := by rw [← hw]; exact (Below.refl _ _).alloc (Nat.le_refl _) _
  have hx : w22.heap[g22]? = some (.cells #[Ptr mo3, Ptr s2] 23) := by rw [← hw]; exact blk_new hg22
  rw [hg22, hw]
  clear hw
  have Ra := Lib.hid (Ra.out.later hb)
  have Rb := Lib.hid (Rb.out.later hb)
  have Ro := Lib.hid (Ro.out.later hb)
  have Rc := Lib.hid (Rc.out.later hb)
  have Rs := Lib.hid (Rs.out.later hb)
  have Rma := Lib.hid (Rma.out.later hb)
  have Rmo := Lib.hid (Rmo.out.later hb)
  have Rmb := Lib.hid (Rmb.out.later hb)
  have Rab := Lib.hid (Rab.out.later hb)
  have Rmo2 := Lib.hid (Rmo2.out.later hb)
  have Roo := Lib.hid (Roo.out.later hb)
  have Rcc := Lib.hid (Rcc.out.later hb)
  have Rac := Lib.hid (Rac.out.later hb)
  have Rem := Lib.hid (Rem.out.later hb)
  have Rmo3 := Lib.hid (Rmo3.out.later hb)
  have Rs2 := Lib.hid (Rs2.out.later hb)
  have HB := Lib.hid (HB.out.trans (hb.mono HB.out.size))
  have HX := Lib.hid hx
  clear hb hx
  refine (cat_any (H := fun _ => False) [(Pv.many (Pv.one (Pv.S4.of [97, 98]))), (Pv.word [59])] (some ⟨g22, 0, none⟩) 2 [mo3, s2] w22 (Sl.of_blk2 HX.out) (res2 Rmo3.out Rs2.out) (fun _ h => h.elim) (by decide +kernel)).mono ?_
  rintro e w23 ⟨os, rfl, hr, hb⟩
  have Ra := Lib.hid (Ra.out.later hb)
  have Rb := Lib.hid (Rb.out.later hb)
  have Ro := Lib.hid (Ro.out.later hb)
  have Rc := Lib.hid (Rc.out.later hb)
  have Rs := Lib.hid (Rs.out.later hb)
  have Rma := Lib.hid (Rma.out.later hb)
  have Rmo := Lib.hid (Rmo.out.later hb)
  have Rmb := Lib.hid (Rmb.out.later hb)
  have Rab := Lib.hid (Rab.out.later hb)
  have Rmo2 := Lib.hid (Rmo2.out.later hb)
  have Roo := Lib.hid (Roo.out.later hb)
  have Rcc := Lib.hid (Rcc.out.later hb)
  have Rac := Lib.hid (Rac.out.later hb)
  have Rem := Lib.hid (Rem.out.later hb)
  have Rmo3 := Lib.hid (Rmo3.out.later hb)
  have Rs2 := Lib.hid (Rs2.out.later hb)
  have HB := Lib.hid (HB.out.trans (hb.mono HB.out.size))
  have Ros := Lib.hid hr
  clear hr hb
  have hix := ex_ix n
  have hlt := Pv.exIx_lt n
  have hsel : ∃ x, (w23.alloc (.cells #[Ptr a, Ptr b, Ptr c, Ptr s, Ptr o, Ptr ma, Ptr mo, Ptr ab, Ptr oo, Ptr ac, Ptr em, Ptr os] 23)).cell? ⟨w23.heap.size, Pv.exIx n, none⟩ = some (Ptr x) ∧ ReAt (fun _ => False) w23 (Pv.exOf n) x := by
    unfold Pv.exOf
    generalize Pv.exIx n = k at hlt ⊢
    match k, hlt with
    | 0, _ => exact ⟨a, cell_of_blk (o := 0) (blk_new rfl) rfl, Ra.out⟩
    | 1, _ => exact ⟨b, cell_of_blk (o := 1) (blk_new rfl) rfl, Rb.out⟩
    | 2, _ => exact ⟨c, cell_of_blk (o := 2) (blk_new rfl) rfl, Rc.out⟩
    | 3, _ => exact ⟨s, cell_of_blk (o := 3) (blk_new rfl) rfl, Rs.out⟩
    | 4, _ => exact ⟨o, cell_of_blk (o := 4) (blk_new rfl) rfl, Ro.out⟩
    | 5, _ => exact ⟨ma, cell_of_blk (o := 5) (blk_new rfl) rfl, Rma.out⟩
    | 6, _ => exact ⟨mo, cell_of_blk (o := 6) (blk_new rfl) rfl, Rmo.out⟩
    | 7, _ => exact ⟨ab, cell_of_blk (o := 7) (blk_new rfl) rfl, Rab.out⟩
    | 8, _ => exact ⟨oo, cell_of_blk (o := 8) (blk_new rfl) rfl, Roo.out⟩
    | 9, _ => exact ⟨ac, cell_of_blk (o := 9) (blk_new rfl) rfl, Rac.out⟩
    | 10, _ => exact ⟨em, cell_of_blk (o := 10) (blk_new rfl) rfl, Rem.out⟩
    | 11, _ => exact ⟨os, cell_of_blk (o := 11) (blk_new rfl) rfl, Ros.out⟩
    | k + 12, h => omega
  obtain ⟨x, hx, hr⟩ := hsel
  have HR := Lib.hid hr
  generalize Pv.exIx n = k at *
  have hk0 : (0:Int) ≤ k := by omega
  have hk1 : (k:Int) < 12 := by omega
  clear hr HX Ra Rb Ro Rc Rs Rma Rmo Rmb Rab Rmo2 Roo Rcc Rac Rem Rmo3 Rs2 Ros
  go_wp2_with fail
  have hb : Below w23.heap.size w23 (w23.alloc (.cells #[Ptr a, Ptr b, Ptr c, Ptr s, Ptr o, Ptr ma, Ptr mo, Ptr ab, Ptr oo, Ptr ac, Ptr em, Ptr os] 23)) := (Below.refl _ _).alloc (Nat.le_refl _) _
  refine bodyPost_ret (v := Ptr x) ?_ rfl ⟨x, rfl, HR.out.later hb, HB.out.trans (hb.mono HB.out.size)⟩
  simp [results, Tryz.results7, go_sem]
end Go.Proofs.YtbimpenhmefpeaaGreatDoor
namespace Go.Proofs.YtbimpenhmefpeaaGreatDoor
open Pv
def ones (s : List UInt8) : List R := s.map fun b => Pv.one (S4.of [b])
theorem of_nonempty (b : UInt8) : (S4.of [b]).isEmpty = false := by
  have h : ∀ n : Fin 256, (S4.of [UInt8.ofNat n.val]).isEmpty = false := by decide +kernel
  have := h ⟨b.toNat, b.toNat_lt⟩
  simpa using this
theorem one_mk (b : UInt8) : Pv.one (S4.of [b]) = .mk 2 (S4.of [b]) [] := by unfold Pv.one; rw [of_nonempty]; rfl
theorem ones_op {s : List UInt8} {r : R} (h : r ∈ ones s) : r.op = 2 := by
  obtain ⟨b, _, rfl⟩ := List.mem_map.1 h
  rw [one_mk]; rfl
theorem flat_ones : ∀ (s : List UInt8), flat 3 (ones s) = ones s
  | [] => rfl
  | b :: s => by
    have := flat_ones s
    unfold flat ones at *
    rw [List.map_cons, List.flatMap_cons, this, one_mk]
    rfl
theorem filt_ones (s : List UInt8) : (ones s).filter (fun r => !(r.op == 1)) = ones s :=
  List.filter_eq_self.2 fun r hr => by rw [ones_op hr]; rfl
theorem any_ones (s : List UInt8) : (ones s).any (fun r => r.op == 0) = false := by
  rw [List.any_eq_false]
  intro r hr
  rw [ones_op hr]; decide
theorem word_nil : word [] = empty := rfl
theorem word_one (b : UInt8) : word [b] = .mk 2 (S4.of [b]) [] := by
  show thenOf ((flat 3 (ones [b])).filter _) = _
  rw [flat_ones, filt_ones]
  show thenOf [Pv.one (S4.of [b])] = _
  rw [one_mk]; rfl
theorem word_more (b b' : UInt8) (s : List UInt8) : word (b :: b' :: s) = .mk 3 .zero (ones (b :: b' :: s)) := by
  show thenOf ((flat 3 (ones (b :: b' :: s))).filter _) = _
  rw [flat_ones, filt_ones]
  unfold thenOf
  rw [any_ones]
  rfl
theorem cat_ones (s : List UInt8) : cat (ones s) = word s := rfl
theorem cat_empty_word (b : UInt8) (s : List UInt8) : cat [empty, word (b :: s)] = word (b :: s) := by
  cases s with
  | nil => rw [word_one]; rfl
  | cons b' s =>
    rw [word_more]
    show thenOf ((flat 3 [empty, .mk 3 .zero (ones (b :: b' :: s))]).filter _) = _
    have : flat 3 [empty, .mk 3 .zero (ones (b :: b' :: s))] = empty :: ones (b :: b' :: s) := by
      show [empty] ++ ((ones (b :: b' :: s)) ++ []) = _
      rw [List.append_nil]; rfl
    rw [this, List.filter_cons_of_neg (by decide), filt_ones]
    unfold thenOf
    rw [any_ones]
    rfl
theorem cat_nothing (x : R) : cat [nothing, x] = nothing := by
  unfold cat
  have : flat 3 [nothing, x] = nothing :: flat 3 [x] := rfl
  rw [this, List.filter_cons_of_pos (by decide)]
  unfold thenOf
  rw [List.any_cons]
  rfl
theorem by_nothing (c : UInt8) : by_ c nothing = nothing := by_else c nothing (by decide)
theorem by_word (c : UInt8) : ∀ s : List UInt8, by_ c (word s) = nothing ∨ by_ c (word s) = word s.tail
  | [] => .inl (by_else c _ (by decide))
  | [b] => by
    rw [word_one, by_class c _ rfl]
    split
    · exact .inr rfl
    · exact .inl rfl
  | b :: b' :: s => by
    rw [word_more, by_cat c _ (Pv.one (S4.of [b])) (ones (b' :: s)) rfl rfl]
    have h0 : null (Pv.one (S4.of [b])) = false := by rw [one_mk]; rfl
    rw [h0, if_neg (by decide), one_mk, by_class c _ rfl, cat_ones]
    by_cases hc : (R.mk 2 (S4.of [b]) []).set.has c.toNat = true
    · rw [if_pos hc]; exact .inr (cat_empty_word b' s)
    · rw [if_neg hc]; exact .inl (cat_nothing _)
theorem by_but (c : UInt8) (a b : R) : by_ c (but a b) = nothing ∨ by_ c (but a b) = empty ∨ by_ c (but a b) = by_ c a ∨ by_ c (but a b) = but (by_ c a) (by_ c b) := by
  unfold but
  split
  · exact .inl (by_nothing c)
  · split
    · exact .inr (.inr (.inl rfl))
    · split
      · unfold Pv.one
        split
        · exact .inl (by_nothing c)
        · rw [by_class c _ rfl]
          split
          · exact .inr (.inl rfl)
          · exact .inl rfl
      · right; right; right
        rw [by_kids c _ (.inr (.inr rfl))]
        rfl
def sfx : List UInt8 → List (List UInt8)
  | [] => [[]]
  | b :: s => (b :: s) :: sfx s
theorem sfx_len : ∀ s : List UInt8, (sfx s).length = s.length + 1
  | [] => rfl
  | b :: s => by simp [sfx, sfx_len s]
theorem sfx_self : ∀ s : List UInt8, s ∈ sfx s
  | [] => List.mem_singleton.2 rfl
  | b :: s => List.mem_cons_self ..
theorem sfx_tail : ∀ {s x : List UInt8}, x ∈ sfx s → x.tail ∈ sfx s
  | [], x, h => by
    rw [List.mem_singleton.1 h]
    exact List.mem_singleton.2 rfl
  | b :: s, x, h => by
    rcases List.mem_cons.1 h with rfl | h
    · exact List.mem_cons_of_mem _ (sfx_self s)
    · exact List.mem_cons_of_mem _ (sfx_tail h)
theorem sfx_le : ∀ {s x : List UInt8}, x ∈ sfx s → x.length ≤ s.length
  | [], x, h => by rw [List.mem_singleton.1 h]; exact Nat.le_refl _
  | b :: s, x, h => by
    rcases List.mem_cons.1 h with rfl | h
    · exact Nat.le_refl _
    · have := sfx_le h
      simp only [List.length_cons]; omega
/-- what is behind bytes of a text -/
def sufs (t : List UInt8) : List R := nothing :: (sfx t).map word
theorem sufs_by {t : List UInt8} {d : R} (c : UInt8) (h : d ∈ sufs t) : by_ c d ∈ sufs t := by
  rcases List.mem_cons.1 h with rfl | h
  · rw [by_nothing]; exact List.mem_cons_self ..
  · obtain ⟨s, hs, rfl⟩ := List.mem_map.1 h
    rcases by_word c s with e | e
    · rw [e]; exact List.mem_cons_self ..
    · rw [e]; exact List.mem_cons_of_mem _ (List.mem_map.2 ⟨_, sfx_tail hs, rfl⟩)
theorem size_wordl (s : List UInt8) : size (word s) ≤ 1 + s.length := by
  unfold word
  have := size_cat (s.map fun b => Pv.one (S4.of [b]))
  rw [sizes_ones] at this
  exact this
theorem sufs_size {t : List UInt8} {d : R} (h : d ∈ sufs t) : size d ≤ 1 + t.length := by
  rcases List.mem_cons.1 h with rfl | h
  · exact Nat.le_add_right 1 t.length
  · obtain ⟨s, hs, rfl⟩ := List.mem_map.1 h
    have := size_wordl s
    have := sfx_le hs
    omega
/-- what is behind bytes of an expression without a text -/
def outS (C : List R) (t : List UInt8) : List R := nothing :: empty :: (C ++ C.flatMap fun x => (sufs t).map fun d => but x d)
theorem flatMap_len (C : List R) (D : List R) (f : R → R → R) : (C.flatMap fun x => D.map fun d => f x d).length = C.length * D.length := by
  induction C with
  | nil => simp
  | cons x C ih => rw [List.flatMap_cons, List.length_append, ih, List.length_map, List.length_cons, Nat.add_mul, Nat.one_mul, Nat.add_comm]
theorem outS_few {C : List R} (hC : closedL C = true) (hs : ∀ r ∈ C, size r ≤ 100) (t : List UInt8) (ht : t.length ≤ 1000) : Few (· ∈ outS C t) ((outS C t).map key) := by
  refine ⟨?_, fun r hr => List.mem_map.2 ⟨r, hr, rfl⟩, ?_⟩
  · intro r c hr
    have h0 : nothing ∈ outS C t := List.mem_cons_self ..
    have h1 : empty ∈ outS C t := List.mem_cons_of_mem _ (List.mem_cons_self ..)
    have h2 : ∀ x ∈ C, x ∈ outS C t := fun x hx => List.mem_cons_of_mem _ (List.mem_cons_of_mem _ (List.mem_append_left _ hx))
    have h3 : ∀ x ∈ C, ∀ d ∈ sufs t, but x d ∈ outS C t := fun x hx d hd => List.mem_cons_of_mem _ (List.mem_cons_of_mem _ (List.mem_append_right _ (List.mem_flatMap.2 ⟨x, hx, List.mem_map.2 ⟨d, hd, rfl⟩⟩)))
    rcases List.mem_cons.1 hr with rfl | hr
    · rw [by_nothing]; exact h0
    rcases List.mem_cons.1 hr with rfl | hr
    · rw [by_else c empty (by decide)]; exact h0
    rcases List.mem_append.1 hr with hr | hr
    · exact h2 _ (closedL_by hC c hr)
    obtain ⟨x, hx, hr⟩ := List.mem_flatMap.1 hr
    obtain ⟨d, hd, rfl⟩ := List.mem_map.1 hr
    rcases by_but c x d with e | e | e | e <;> rw [e]
    · exact h0
    · exact h1
    · exact h2 _ (closedL_by hC c hx)
    · exact h3 _ (closedL_by hC c hx) _ (sufs_by c hd)
  · intro r hr
    show size r ≤ 20000
    rcases List.mem_cons.1 hr with rfl | hr
    · exact (by decide : size nothing ≤ 20000)
    rcases List.mem_cons.1 hr with rfl | hr
    · exact (by decide : size empty ≤ 20000)
    rcases List.mem_append.1 hr with hr | hr
    · have := hs r hr; omega
    obtain ⟨x, hx, hr⟩ := List.mem_flatMap.1 hr
    obtain ⟨d, hd, rfl⟩ := List.mem_map.1 hr
    have h1 := size_but x d
    have h2 := hs x hx
    have h3 := sufs_size hd
    omega
/-- the expressions behind bytes of the law's -/
def clos : Nat → List R → List R → List R
  | 0, _, acc => acc
  | n + 1, todo, acc => match todo with
    | [] => acc
    | r :: rest => if inL acc r then clos n rest acc else clos n (rest ++ ([97, 98, 99, 59, 120].map fun c => by_ c r)) (acc ++ [r])
def exC : List R := clos 300 exL []
theorem exC_closed : closedL exC = true := by decide +kernel
theorem exC_len : exC.length = 14 := by decide +kernel
theorem exC_size' : (exC.all fun r => decide (size r ≤ 100)) = true := by decide +kernel
theorem exC_size : ∀ r ∈ exC, size r ≤ 100 := fun r hr => by simpa using List.all_eq_true.1 exC_size' r hr
theorem exL_sub' : (exL.all fun r => inL exC r) = true := by decide +kernel
theorem exL_sub : ∀ r ∈ exL, r ∈ exC := fun r hr => inL_mem (List.all_eq_true.1 exL_sub' r hr)
theorem exL_outside {x : R} (hx : x ∈ exL) (t : List UInt8) (ht : t.length ≤ 20) : ∃ r, (outside x (word t) 1000).2 = some r := by
  have hf := outS_few exC_closed exC_size t (by omega)
  refine witness_few hf (r := but x (word t)) ?_ ?_
  · exact List.mem_cons_of_mem _ (List.mem_cons_of_mem _ (List.mem_append_right _ (List.mem_flatMap.2 ⟨x, exL_sub x hx, List.mem_map.2 ⟨word t, List.mem_cons_of_mem _ (List.mem_map.2 ⟨t, sfx_self t, rfl⟩), rfl⟩⟩)))
  · rw [List.length_map]
    unfold outS
    rw [List.length_cons, List.length_cons, List.length_append, flatMap_len, exC_len]
    unfold sufs
    rw [List.length_cons, List.length_map, sfx_len]
    omega
theorem exL_shared' : (exL.all fun x => exL.all fun y => (shared x y 1000).2.isSome) = true := by decide +kernel
theorem exL_unlike' : (exL.all fun x => exL.all fun y => (unlike x y 1000).2.isSome) = true := by decide +kernel
theorem exL_shared {x y : R} (hx : x ∈ exL) (hy : y ∈ exL) : ∃ r, (shared x y 1000).2 = some r := Option.isSome_iff_exists.1 (List.all_eq_true.1 (List.all_eq_true.1 exL_shared' x hx) y hy)
theorem exL_unlike {x y : R} (hx : x ∈ exL) (hy : y ∈ exL) : ∃ r, (unlike x y 1000).2 = some r := Option.isSome_iff_exists.1 (List.all_eq_true.1 (List.all_eq_true.1 exL_unlike' x hx) y hy)
end Go.Proofs.YtbimpenhmefpeaaGreatDoor
namespace Go.Proofs.YtbimpenhmefpeaaGreatDoor
open Go.RowKit Go.Maps
variable {H : Nat → Prop}

set_option maxRecDepth 20000 in
theorem canon_not (c bb tb : Nat) (at_ : Int) (name text back : List UInt8) (kids : Value) (f : Pv.Fault) (w : World) (h : CkAt w c bb f) (hf : f.e ≠ 0) (ht : TermAt w tb 5 at_ name (.pointer none) text back kids) :
    Pure 21 #[Ptr c, Ptr tb] w (.pointer none) := by
  have hs := shaped_del tb at_ name text back w kids ht
  have hfl := fail_not c bb f w h hf 8 (Ptr tb) false []
  have HS := Lib.hid hs
  have HF := Lib.hid hfl
  clear h ht hs hfl
  go_enter Tryz.func21, Tryz.ntmps21
  go_wp2_with fail
  refine HS.out.mono ?_
  rintro e w' ⟨rfl, rfl⟩
  go_wp2_with fail
  refine HF.out.mono ?_
  rintro e w' ⟨rfl, rfl⟩
  go_wp2_with fail
  go_ret
  exact ⟨rfl, rfl⟩
end Go.Proofs.YtbimpenhmefpeaaGreatDoor
namespace Go.Eaq
open Go Go.RowKit
open Go.Eag (Sch runVal)
open Go.Eak
section
variable {P : Program} {ops : Array Oper} {Q : Exit → Act → World → Prop}
variable {Rl : World → World → Prop} [hPre : Pre Rl]
theorem movS {l : List Oper} (hops : Hid (ops = l.toArray)) {K : Act → World → Prop} {i : Nat} {s : Sch} {ex an : Nat → Bool} {a : Act} {w : World} {o : Oper} (hi : l.toArray[i]? = some o) (hg : Region.wanted o (yielded l.toArray a.tmps) = false)
    (h : wpSch Rl P ops K ex an s (a.put o.dst undef) w) : wpSch Rl P ops K ex an (.mov i s) a w :=
  ⟨o, _, (congrArg (fun q : Array Oper => q[i]?) hops.out).trans hi, .inr ⟨by rw [hops.out]; exact hg, rfl⟩, h⟩
theorem ancS {l : List Oper} (hops : Hid (ops = l.toArray)) {K : Act → World → Prop} {i : Nat} {s : Sch} {ex an : Nat → Bool} {a : Act} {w : World} {o : Oper} (hi : l.toArray[i]? = some o) (hg : Region.wanted o (yielded l.toArray a.tmps) = false)
    (h : wpSch Rl P ops K ex an s (a.put o.dst undef) w) : wpSch Rl P ops K ex an (.anc i s) a w := by
  show wpOp P ops noEnd i _ a w
  have hi' : ops[i]? = some o := (congrArg (fun q : Array Oper => q[i]?) hops.out).trans hi
  unfold wpOp; simp only [hi']; rw [if_neg (by rw [hops.out, hg]; decide)]; exact ⟨.inr (hPre.rf w), h⟩
end
end Go.Eaq
namespace Go.Proofs.YtbimpenhmefpeaaGreatDoor
open Go.RowKit Go.Maps
variable {H : Nat → Prop}

theorem exl_size {x : Pv.R} (hx : x ∈ Pv.exL) : Pv.size x ≤ 100 := exC_size x (exL_sub x hx)
theorem re_at {w3 W : World} {x : Pv.R} {bx : Nat} (h : ReAt (fun _ => False) w3 x bx) (hb : Below w3.heap.size w3 W) (bb : Nat) (h0 : w3.heap.size ≤ bb) : ReAt (· = bb) W x bx :=
  (h.widen fun z e => .inr (by rw [e]; exact h0)).later hb
theorem wit_none : witV (some none) = .tuple #[Str [], .bool false, .int .i64 0] := rfl
theorem wit_some (t : List UInt8) : witV (some (some t)) = .tuple #[Str t, .bool true, .int .i64 0] := rfl
/-- a Checker's cells -/
structure CkC (w : World) (c bb : Nat) (f : Pv.Fault) : Prop where
  c0 : w.cell? ⟨c, 0, none⟩ = some (Ptr bb)
  c1 : w.cell? ⟨c, 1, none⟩ = some (.int .i64 (f.e : Int))
  c2 : w.cell? ⟨c, 2, none⟩ = some (.int .i64 (f.op : Int))
  c3 : w.cell? ⟨c, 3, none⟩ = some (.int .i64 f.at_)
  c4 : w.cell? ⟨c, 4, none⟩ = some (.bool f.view)
  c5 : w.cell? ⟨c, 5, none⟩ = some (Str f.text)
  c6 : w.cell? ⟨c, 6, none⟩ = some (.int .i64 f.i)
  c7 : w.cell? ⟨c, 7, none⟩ = some (.int .i64 f.j)
theorem CkAt.cs {w : World} {c bb : Nat} {f : Pv.Fault} (h : CkAt w c bb f) : CkC w c bb f :=
  ⟨cell_of_blk (o := 0) h rfl, cell_of_blk (o := 1) h rfl, cell_of_blk (o := 2) h rfl, cell_of_blk (o := 3) h rfl, cell_of_blk (o := 4) h rfl, cell_of_blk (o := 5) h rfl, cell_of_blk (o := 6) h rfl, cell_of_blk (o := 7) h rfl⟩
/-- a Checker is made -/
theorem ck_new {w w' : World} {bb c l u : Nat} (hb : BudAt w bb l u) (hw : w.alloc (.cells #[Ptr bb, .int .i64 0, .int .i64 0, .int .i64 0, .bool false, Str [], .int .i64 0, .int .i64 0] 38) = w') (hc : w.heap.size = c) :
    CkAt w' c bb {} ∧ BudAt w' bb l u ∧ Below w.heap.size w w' ∧ c < w'.heap.size := by
  subst hw
  exact ⟨blk_new hc, hb.later ((Below.refl _ _).alloc (Nat.le_refl _) _), (Below.refl _ _).alloc (Nat.le_refl _) _, by simp; omega⟩
theorem wit_form (r : Option (List UInt8)) : ∃ (t : List UInt8) (ok : Bool), witV (some r) = .tuple #[Str t, .bool ok, .int .i64 0] ∧ r.isSome = ok ∧ ∀ (e op : Nat) (at_ : Int) (v : Bool), askF r e op at_ v = if ok then { e := e, op := op, at_ := at_, view := v, text := t } else {} := by
  cases r with
  | none => exact ⟨[], false, rfl, rfl, fun _ _ _ _ => rfl⟩
  | some t => exact ⟨t, true, rfl, rfl, fun _ _ _ _ => rfl⟩
end Go.Proofs.YtbimpenhmefpeaaGreatDoor
