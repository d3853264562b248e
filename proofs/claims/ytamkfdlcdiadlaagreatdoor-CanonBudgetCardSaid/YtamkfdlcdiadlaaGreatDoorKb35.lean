/- The law's twelve expressions, made. -/
import Derived.Test.YtamkfdlcdiadlaaGreatDoorKb05
import Derived.Test.YtamkfdlcdiadlaaGreatDoorKb34
import Derived.Test.YtamkfdlcdiadlaaGreatDoorKb01
import Derived.Test.YtamkfdlcdiadlaaGreatDoorKb30
set_option linter.all false
namespace Go.Proofs.YtamkfdlcdiadlaaGreatDoor
open Go.RowKit Go.Maps
variable {H:Nat→Prop}
theorem res2 {w:World}{r1 r2:Pv.R}{x y:Nat}(h1:ReAt H w r1 x)(h2:ReAt H w r2 y):ResAt H w [r1,r2] [x,y]:=by unfold ResAt;refine⟨x,[y],rfl,h1,?_⟩;unfold ResAt;refine⟨y,[],rfl,h2,?_⟩;exact ResAt.nil
theorem ex_ix (n:Int):wrap64 ((IntKind.u64.wrap n).tmod 12)=(Pv.exIx n:Int):=by
 have h1:IntKind.u64.wrap n=n % 18446744073709551616:=by simp[IntKind.wrap,IntKind.bits,IntKind.signed]
 rw[h1,Int.tmod_eq_emod_of_nonneg (by omega)];unfold Pv.exIx;have h2:wrap64 (n % 18446744073709551616 % 12)=n % 18446744073709551616 % 12:=by unfold wrap64;omega
 rw[h2];omega
set_option maxRecDepth 20000 in
set_option maxHeartbeats 1000000 in
theorem exprH_any (n:Int)(w:World)(hH:∀h,H h→h<w.heap.size):Calls Tryz.prog 48 #[.int .i64 n] w fun e w'=>∃b,e = .returned (Ptr b)∧ReAt H w' (Pv.exOf n) b∧Below w.heap.size w w':=by
 have HB:=Hy (Below.refl w.heap.size w);have HH:=Hy hH;clear hH;go_enter Tryz.func48,Tryz.ntmps48;go_wp2_with fail;refine(word_any (H:=H) [97] w (fun h hh=>by have h1:=HH.out h hh;have h2:=HB.out.size;omega) (by decide)).mono ?_;rintro e w1 ⟨a,rfl,hr,hb⟩;have HB:=Hy (HB.out.trans (hb.mono HB.out.size));have Ra:=Hy hr;clear hr hb;go_wp2_with fail
 refine(word_any (H:=H) [98] w1 (fun h hh=>by have h1:=HH.out h hh;have h2:=HB.out.size;omega) (by decide)).mono ?_;rintro e w2 ⟨b,rfl,hr,hb⟩;have Ra:=Hy (Ra.out.later hb);have HB:=Hy (HB.out.trans (hb.mono HB.out.size));have Rb:=Hy hr;clear hr hb;go_wp2_with fail;obtain⟨g3,hg3⟩:∃n,w2.heap.size=n:=⟨_,rfl⟩
 obtain⟨w3,hw⟩:∃w1,w2.alloc (.cells #[.int .u8 97,.int .u8 98] 5)=w1:=⟨_,rfl⟩
 have hb:Below w2.heap.size w2 w3:=by rw[←hw];exact(Below.refl _ _).alloc (Nat.le_refl _) _
 have hx:w3.heap[g3]?=some (.cells #[.int .u8 97,.int .u8 98] 5):=by rw[←hw];exact blk_new hg3
 rw[hg3,hw];clear hw;have Ra:=Hy (Ra.out.later hb);have Rb:=Hy (Rb.out.later hb);have HB:=Hy (HB.out.trans (hb.mono HB.out.size));have HX:=Hy hx;clear hb hx;refine(ab_any g3 w3 HX.out).mono ?_;rintro e w4 ⟨rfl,hb⟩;have Ra:=Hy (Ra.out.later hb);have Rb:=Hy (Rb.out.later hb);have HB:=Hy (HB.out.trans (hb.mono HB.out.size));clear hb;go_wp2_with fail
 refine(one_any (H:=H) (Pv.S4.of [97,98]) w4 (fun h hh=>by have h1:=HH.out h hh;have h2:=HB.out.size;omega)).mono ?_;rintro e w5 ⟨o,rfl,hr,hb⟩;have Ra:=Hy (Ra.out.later hb);have Rb:=Hy (Rb.out.later hb);have HB:=Hy (HB.out.trans (hb.mono HB.out.size));have Ro:=Hy hr;clear hr hb;go_wp2_with fail
 refine(word_any (H:=H) [99] w5 (fun h hh=>by have h1:=HH.out h hh;have h2:=HB.out.size;omega) (by decide)).mono ?_;rintro e w6 ⟨c,rfl,hr,hb⟩;have Ra:=Hy (Ra.out.later hb);have Rb:=Hy (Rb.out.later hb);have Ro:=Hy (Ro.out.later hb);have HB:=Hy (HB.out.trans (hb.mono HB.out.size));have Rc:=Hy hr;clear hr hb;go_wp2_with fail
 refine(word_any (H:=H) [59] w6 (fun h hh=>by have h1:=HH.out h hh;have h2:=HB.out.size;omega) (by decide)).mono ?_;rintro e w7 ⟨s,rfl,hr,hb⟩;have Ra:=Hy (Ra.out.later hb);have Rb:=Hy (Rb.out.later hb);have Ro:=Hy (Ro.out.later hb);have Rc:=Hy (Rc.out.later hb);have HB:=Hy (HB.out.trans (hb.mono HB.out.size));have Rs:=Hy hr;clear hr hb;go_wp2_with fail
 refine(many_any (H:=H) (Pv.word [97]) a w7 Ra.out (fun h hh=>by have h1:=HH.out h hh;have h2:=HB.out.size;omega) (by decide +kernel)).mono ?_;rintro e w8 ⟨ma,rfl,hr,hb⟩;have Ra:=Hy (Ra.out.later hb);have Rb:=Hy (Rb.out.later hb);have Ro:=Hy (Ro.out.later hb);have Rc:=Hy (Rc.out.later hb);have Rs:=Hy (Rs.out.later hb);have HB:=Hy (HB.out.trans (hb.mono HB.out.size));have Rma:=Hy hr;clear hr hb
 go_wp2_with fail;refine(many_any (H:=H) (Pv.one (Pv.S4.of [97,98])) o w8 Ro.out (fun h hh=>by have h1:=HH.out h hh;have h2:=HB.out.size;omega) (by decide +kernel)).mono ?_;rintro e w9 ⟨mo,rfl,hr,hb⟩;have Ra:=Hy (Ra.out.later hb);have Rb:=Hy (Rb.out.later hb);have Ro:=Hy (Ro.out.later hb);have Rc:=Hy (Rc.out.later hb);have Rs:=Hy (Rs.out.later hb);have Rma:=Hy (Rma.out.later hb)
 have HB:=Hy (HB.out.trans (hb.mono HB.out.size));have Rmo:=Hy hr;clear hr hb;go_wp2_with fail;refine(many_any (H:=H) (Pv.word [98]) b w9 Rb.out (fun h hh=>by have h1:=HH.out h hh;have h2:=HB.out.size;omega) (by decide +kernel)).mono ?_;rintro e w10 ⟨mb,rfl,hr,hb⟩;have Ra:=Hy (Ra.out.later hb);have Rb:=Hy (Rb.out.later hb);have Ro:=Hy (Ro.out.later hb);have Rc:=Hy (Rc.out.later hb)
 have Rs:=Hy (Rs.out.later hb);have Rma:=Hy (Rma.out.later hb);have Rmo:=Hy (Rmo.out.later hb);have HB:=Hy (HB.out.trans (hb.mono HB.out.size));have Rmb:=Hy hr;clear hr hb;go_wp2_with fail;obtain⟨g11,hg11⟩:∃n,w10.heap.size=n:=⟨_,rfl⟩
 obtain⟨w11,hw⟩:∃w1,w10.alloc (.cells #[Ptr a,Ptr mb] 59)=w1:=⟨_,rfl⟩
 have hb:Below w10.heap.size w10 w11:=by rw[←hw];exact(Below.refl _ _).alloc (Nat.le_refl _) _
 have hx:w11.heap[g11]?=some (.cells #[Ptr a,Ptr mb] 59):=by rw[←hw];exact blk_new hg11
 rw[hg11,hw];clear hw;have Ra:=Hy (Ra.out.later hb);have Rb:=Hy (Rb.out.later hb);have Ro:=Hy (Ro.out.later hb);have Rc:=Hy (Rc.out.later hb);have Rs:=Hy (Rs.out.later hb);have Rma:=Hy (Rma.out.later hb);have Rmo:=Hy (Rmo.out.later hb);have Rmb:=Hy (Rmb.out.later hb);have HB:=Hy (HB.out.trans (hb.mono HB.out.size));have HX:=Hy hx;clear hb hx
 refine(cat_any (H:=H) [(Pv.word [97]),(Pv.many (Pv.word [98]))] (some ⟨g11,0,none⟩) 2 [a,mb] w11 (Sl.of_blk2 HX.out) (res2 Ra.out Rmb.out) (fun h hh=>by have h1:=HH.out h hh;have h2:=HB.out.size;omega) (by decide +kernel)).mono ?_;rintro e w12 ⟨ab,rfl,hr,hb⟩;have Ra:=Hy (Ra.out.later hb);have Rb:=Hy (Rb.out.later hb);have Ro:=Hy (Ro.out.later hb);have Rc:=Hy (Rc.out.later hb)
 have Rs:=Hy (Rs.out.later hb);have Rma:=Hy (Rma.out.later hb);have Rmo:=Hy (Rmo.out.later hb);have Rmb:=Hy (Rmb.out.later hb);have HB:=Hy (HB.out.trans (hb.mono HB.out.size));have Rab:=Hy hr;clear hr hb;go_wp2_with fail;refine(many_any (H:=H) (Pv.one (Pv.S4.of [97,98])) o w12 Ro.out (fun h hh=>by have h1:=HH.out h hh;have h2:=HB.out.size;omega) (by decide +kernel)).mono ?_
 rintro e w13 ⟨mo2,rfl,hr,hb⟩;have Ra:=Hy (Ra.out.later hb);have Rb:=Hy (Rb.out.later hb);have Ro:=Hy (Ro.out.later hb);have Rc:=Hy (Rc.out.later hb);have Rs:=Hy (Rs.out.later hb);have Rma:=Hy (Rma.out.later hb);have Rmo:=Hy (Rmo.out.later hb);have Rmb:=Hy (Rmb.out.later hb);have Rab:=Hy (Rab.out.later hb);have HB:=Hy (HB.out.trans (hb.mono HB.out.size));have Rmo2:=Hy hr;clear hr hb
 go_wp2_with fail;obtain⟨g14,hg14⟩:∃n,w13.heap.size=n:=⟨_,rfl⟩
 obtain⟨w14,hw⟩:∃w1,w13.alloc (.cells #[Ptr o,Ptr mo2] 59)=w1:=⟨_,rfl⟩
 have hb:Below w13.heap.size w13 w14:=by rw[←hw];exact(Below.refl _ _).alloc (Nat.le_refl _) _
 have hx:w14.heap[g14]?=some (.cells #[Ptr o,Ptr mo2] 59):=by rw[←hw];exact blk_new hg14
 rw[hg14,hw];clear hw;have Ra:=Hy (Ra.out.later hb);have Rb:=Hy (Rb.out.later hb);have Ro:=Hy (Ro.out.later hb);have Rc:=Hy (Rc.out.later hb);have Rs:=Hy (Rs.out.later hb);have Rma:=Hy (Rma.out.later hb);have Rmo:=Hy (Rmo.out.later hb);have Rmb:=Hy (Rmb.out.later hb);have Rab:=Hy (Rab.out.later hb);have Rmo2:=Hy (Rmo2.out.later hb);have HB:=Hy (HB.out.trans (hb.mono HB.out.size));have HX:=Hy hx
 clear hb hx;refine(cat_any (H:=H) [(Pv.one (Pv.S4.of [97,98])),(Pv.many (Pv.one (Pv.S4.of [97,98])))] (some ⟨g14,0,none⟩) 2 [o,mo2] w14 (Sl.of_blk2 HX.out) (res2 Ro.out Rmo2.out) (fun h hh=>by have h1:=HH.out h hh;have h2:=HB.out.size;omega) (by decide +kernel)).mono ?_;rintro e w15 ⟨oo,rfl,hr,hb⟩;have Ra:=Hy (Ra.out.later hb);have Rb:=Hy (Rb.out.later hb);have Ro:=Hy (Ro.out.later hb)
 have Rc:=Hy (Rc.out.later hb);have Rs:=Hy (Rs.out.later hb);have Rma:=Hy (Rma.out.later hb);have Rmo:=Hy (Rmo.out.later hb);have Rmb:=Hy (Rmb.out.later hb);have Rab:=Hy (Rab.out.later hb);have Rmo2:=Hy (Rmo2.out.later hb);have HB:=Hy (HB.out.trans (hb.mono HB.out.size));have Roo:=Hy hr;clear hr hb;go_wp2_with fail
 refine(word_any (H:=H) [99,99] w15 (fun h hh=>by have h1:=HH.out h hh;have h2:=HB.out.size;omega) (by decide)).mono ?_;rintro e w16 ⟨cc,rfl,hr,hb⟩;have Ra:=Hy (Ra.out.later hb);have Rb:=Hy (Rb.out.later hb);have Ro:=Hy (Ro.out.later hb);have Rc:=Hy (Rc.out.later hb);have Rs:=Hy (Rs.out.later hb);have Rma:=Hy (Rma.out.later hb);have Rmo:=Hy (Rmo.out.later hb);have Rmb:=Hy (Rmb.out.later hb)
 have Rab:=Hy (Rab.out.later hb);have Rmo2:=Hy (Rmo2.out.later hb);have Roo:=Hy (Roo.out.later hb);have HB:=Hy (HB.out.trans (hb.mono HB.out.size));have Rcc:=Hy hr;clear hr hb;go_wp2_with fail;obtain⟨g17,hg17⟩:∃n,w16.heap.size=n:=⟨_,rfl⟩
 obtain⟨w17,hw⟩:∃w1,w16.alloc (.cells #[Ptr a,Ptr cc] 59)=w1:=⟨_,rfl⟩
 have hb:Below w16.heap.size w16 w17:=by rw[←hw];exact(Below.refl _ _).alloc (Nat.le_refl _) _
 have hx:w17.heap[g17]?=some (.cells #[Ptr a,Ptr cc] 59):=by rw[←hw];exact blk_new hg17
 rw[hg17,hw];clear hw;have Ra:=Hy (Ra.out.later hb);have Rb:=Hy (Rb.out.later hb);have Ro:=Hy (Ro.out.later hb);have Rc:=Hy (Rc.out.later hb);have Rs:=Hy (Rs.out.later hb);have Rma:=Hy (Rma.out.later hb);have Rmo:=Hy (Rmo.out.later hb);have Rmb:=Hy (Rmb.out.later hb);have Rab:=Hy (Rab.out.later hb);have Rmo2:=Hy (Rmo2.out.later hb);have Roo:=Hy (Roo.out.later hb);have Rcc:=Hy (Rcc.out.later hb)
 have HB:=Hy (HB.out.trans (hb.mono HB.out.size));have HX:=Hy hx;clear hb hx;refine(any_any (H:=H) [(Pv.word [97]),(Pv.word [99,99])] (some ⟨g17,0,none⟩) 2 [a,cc] w17 (Sl.of_blk2 HX.out) (res2 Ra.out Rcc.out) (fun h hh=>by have h1:=HH.out h hh;have h2:=HB.out.size;omega) (by decide +kernel)).mono ?_;rintro e w18 ⟨ac,rfl,hr,hb⟩;have Ra:=Hy (Ra.out.later hb);have Rb:=Hy (Rb.out.later hb)
 have Ro:=Hy (Ro.out.later hb);have Rc:=Hy (Rc.out.later hb);have Rs:=Hy (Rs.out.later hb);have Rma:=Hy (Rma.out.later hb);have Rmo:=Hy (Rmo.out.later hb);have Rmb:=Hy (Rmb.out.later hb);have Rab:=Hy (Rab.out.later hb);have Rmo2:=Hy (Rmo2.out.later hb);have Roo:=Hy (Roo.out.later hb);have Rcc:=Hy (Rcc.out.later hb);have HB:=Hy (HB.out.trans (hb.mono HB.out.size));have Rac:=Hy hr;clear hr hb
 go_wp2_with fail;refine(empty_re (H:=H) w18 (fun h hh=>by have h1:=HH.out h hh;have h2:=HB.out.size;omega)).mono ?_;rintro e w19 ⟨em,rfl,hr,hb⟩;have Ra:=Hy (Ra.out.later hb);have Rb:=Hy (Rb.out.later hb);have Ro:=Hy (Ro.out.later hb);have Rc:=Hy (Rc.out.later hb);have Rs:=Hy (Rs.out.later hb);have Rma:=Hy (Rma.out.later hb);have Rmo:=Hy (Rmo.out.later hb);have Rmb:=Hy (Rmb.out.later hb)
 have Rab:=Hy (Rab.out.later hb);have Rmo2:=Hy (Rmo2.out.later hb);have Roo:=Hy (Roo.out.later hb);have Rcc:=Hy (Rcc.out.later hb);have Rac:=Hy (Rac.out.later hb);have HB:=Hy (HB.out.trans (hb.mono HB.out.size));have Rem:=Hy hr;clear hr hb;go_wp2_with fail
 refine(many_any (H:=H) (Pv.one (Pv.S4.of [97,98])) o w19 Ro.out (fun h hh=>by have h1:=HH.out h hh;have h2:=HB.out.size;omega) (by decide +kernel)).mono ?_;rintro e w20 ⟨mo3,rfl,hr,hb⟩;have Ra:=Hy (Ra.out.later hb);have Rb:=Hy (Rb.out.later hb);have Ro:=Hy (Ro.out.later hb);have Rc:=Hy (Rc.out.later hb);have Rs:=Hy (Rs.out.later hb);have Rma:=Hy (Rma.out.later hb);have Rmo:=Hy (Rmo.out.later hb)
 have Rmb:=Hy (Rmb.out.later hb);have Rab:=Hy (Rab.out.later hb);have Rmo2:=Hy (Rmo2.out.later hb);have Roo:=Hy (Roo.out.later hb);have Rcc:=Hy (Rcc.out.later hb);have Rac:=Hy (Rac.out.later hb);have Rem:=Hy (Rem.out.later hb);have HB:=Hy (HB.out.trans (hb.mono HB.out.size));have Rmo3:=Hy hr;clear hr hb;go_wp2_with fail
 refine(word_any (H:=H) [59] w20 (fun h hh=>by have h1:=HH.out h hh;have h2:=HB.out.size;omega) (by decide)).mono ?_;rintro e w21 ⟨s2,rfl,hr,hb⟩;have Ra:=Hy (Ra.out.later hb);have Rb:=Hy (Rb.out.later hb);have Ro:=Hy (Ro.out.later hb);have Rc:=Hy (Rc.out.later hb);have Rs:=Hy (Rs.out.later hb);have Rma:=Hy (Rma.out.later hb);have Rmo:=Hy (Rmo.out.later hb);have Rmb:=Hy (Rmb.out.later hb)
 have Rab:=Hy (Rab.out.later hb);have Rmo2:=Hy (Rmo2.out.later hb);have Roo:=Hy (Roo.out.later hb);have Rcc:=Hy (Rcc.out.later hb);have Rac:=Hy (Rac.out.later hb);have Rem:=Hy (Rem.out.later hb);have Rmo3:=Hy (Rmo3.out.later hb);have HB:=Hy (HB.out.trans (hb.mono HB.out.size));have Rs2:=Hy hr;clear hr hb;go_wp2_with fail;obtain⟨g22,hg22⟩:∃n,w21.heap.size=n:=⟨_,rfl⟩
 obtain⟨w22,hw⟩:∃w1,w21.alloc (.cells #[Ptr mo3,Ptr s2] 59)=w1:=⟨_,rfl⟩
 have hb:Below w21.heap.size w21 w22:=by rw[←hw];exact(Below.refl _ _).alloc (Nat.le_refl _) _
 have hx:w22.heap[g22]?=some (.cells #[Ptr mo3,Ptr s2] 59):=by rw[←hw];exact blk_new hg22
 rw[hg22,hw];clear hw;have Ra:=Hy (Ra.out.later hb);have Rb:=Hy (Rb.out.later hb);have Ro:=Hy (Ro.out.later hb);have Rc:=Hy (Rc.out.later hb);have Rs:=Hy (Rs.out.later hb);have Rma:=Hy (Rma.out.later hb);have Rmo:=Hy (Rmo.out.later hb);have Rmb:=Hy (Rmb.out.later hb);have Rab:=Hy (Rab.out.later hb);have Rmo2:=Hy (Rmo2.out.later hb);have Roo:=Hy (Roo.out.later hb);have Rcc:=Hy (Rcc.out.later hb)
 have Rac:=Hy (Rac.out.later hb);have Rem:=Hy (Rem.out.later hb);have Rmo3:=Hy (Rmo3.out.later hb);have Rs2:=Hy (Rs2.out.later hb);have HB:=Hy (HB.out.trans (hb.mono HB.out.size));have HX:=Hy hx;clear hb hx
 refine(cat_any (H:=H) [(Pv.many (Pv.one (Pv.S4.of [97,98]))),(Pv.word [59])] (some ⟨g22,0,none⟩) 2 [mo3,s2] w22 (Sl.of_blk2 HX.out) (res2 Rmo3.out Rs2.out) (fun h hh=>by have h1:=HH.out h hh;have h2:=HB.out.size;omega) (by decide +kernel)).mono ?_;rintro e w23 ⟨os,rfl,hr,hb⟩;have Ra:=Hy (Ra.out.later hb);have Rb:=Hy (Rb.out.later hb);have Ro:=Hy (Ro.out.later hb);have Rc:=Hy (Rc.out.later hb)
 have Rs:=Hy (Rs.out.later hb);have Rma:=Hy (Rma.out.later hb);have Rmo:=Hy (Rmo.out.later hb);have Rmb:=Hy (Rmb.out.later hb);have Rab:=Hy (Rab.out.later hb);have Rmo2:=Hy (Rmo2.out.later hb);have Roo:=Hy (Roo.out.later hb);have Rcc:=Hy (Rcc.out.later hb);have Rac:=Hy (Rac.out.later hb);have Rem:=Hy (Rem.out.later hb);have Rmo3:=Hy (Rmo3.out.later hb);have Rs2:=Hy (Rs2.out.later hb)
 have HB:=Hy (HB.out.trans (hb.mono HB.out.size));have Ros:=Hy hr;clear hr hb;have hix:=ex_ix n;have hlt:=Pv.exIx_lt n;have hsel:∃x,(w23.alloc (.cells #[Ptr a,Ptr b,Ptr c,Ptr s,Ptr o,Ptr ma,Ptr mo,Ptr ab,Ptr oo,Ptr ac,Ptr em,Ptr os] 59)).cell? ⟨w23.heap.size,Pv.exIx n,none⟩=some (Ptr x)∧ReAt H w23 (Pv.exOf n) x:=by
  unfold Pv.exOf;generalize Pv.exIx n=k at hlt ⊢
  match k,hlt with
  | 0,_=>exact⟨a,cB (o:=0) (blk_new rfl) rfl,Ra.out⟩
  | 1,_=>exact⟨b,cB (o:=1) (blk_new rfl) rfl,Rb.out⟩
  | 2,_=>exact⟨c,cB (o:=2) (blk_new rfl) rfl,Rc.out⟩
  | 3,_=>exact⟨s,cB (o:=3) (blk_new rfl) rfl,Rs.out⟩
  | 4,_=>exact⟨o,cB (o:=4) (blk_new rfl) rfl,Ro.out⟩
  | 5,_=>exact⟨ma,cB (o:=5) (blk_new rfl) rfl,Rma.out⟩
  | 6,_=>exact⟨mo,cB (o:=6) (blk_new rfl) rfl,Rmo.out⟩
  | 7,_=>exact⟨ab,cB (o:=7) (blk_new rfl) rfl,Rab.out⟩
  | 8,_=>exact⟨oo,cB (o:=8) (blk_new rfl) rfl,Roo.out⟩
  | 9,_=>exact⟨ac,cB (o:=9) (blk_new rfl) rfl,Rac.out⟩
  | 10,_=>exact⟨em,cB (o:=10) (blk_new rfl) rfl,Rem.out⟩
  | 11,_=>exact⟨os,cB (o:=11) (blk_new rfl) rfl,Ros.out⟩
  | k+12,h=>omega
 obtain⟨x,hx,hr⟩:=hsel;have HR:=Hy hr;generalize Pv.exIx n=k at *;have hk0:(0:Int)≤k:=by omega
 have hk1:(k:Int)<12:=by omega
 clear hr HX Ra Rb Ro Rc Rs Rma Rmo Rmb Rab Rmo2 Roo Rcc Rac Rem Rmo3 Rs2 Ros;go_wp2_with fail;have hb:Below w23.heap.size w23 (w23.alloc (.cells #[Ptr a,Ptr b,Ptr c,Ptr s,Ptr o,Ptr ma,Ptr mo,Ptr ab,Ptr oo,Ptr ac,Ptr em,Ptr os] 59)):=(Below.refl _ _).alloc (Nat.le_refl _) _;refine bodyPost_ret (v:=Ptr x) ?_ rfl ⟨x,rfl,HR.out.later hb,HB.out.trans (hb.mono HB.out.size)⟩
 simp[results,Tryz.results48,go_sem]
end Go.Proofs.YtamkfdlcdiadlaaGreatDoor
namespace Go.Proofs.YtamkfdlcdiadlaaGreatDoor
open Go.RowKit
open _root_.Pv (P10)
variable {H:Nat→Prop}
theorem and7 (n:Int):∃k:Nat,k<8∧bits BinOp.and IntKind.i64 n 7=(k:Int):=by
 have h:(BitVec.ofInt 64 n &&& 7).toNat<8:=by rw[BitVec.toNat_and];have h1:(7:BitVec 64).toNat=2 ^ 3-1:=rfl;rw[h1,Nat.and_two_pow_sub_one_eq_mod];omega
 refine⟨_,h,?_⟩;show IntKind.i64.wrap ((BitVec.ofInt 64 n &&& BitVec.ofInt 64 7).toNat:Int)=_;have e:BitVec.ofInt 64 7=7:=rfl;rw[e,IntKind.wrap_i64]<;>omega
abbrev t17C:Array Value:=#[Str [97],Str [98],Str [],Str [97,98],Str [59],Str [99],Str [97,97,59],Str [99,99]]
theorem text17_any (n:Int)(w:World):Calls Tryz.prog 49 #[.int .i64 n] w fun e w'=>(∃l:List UInt8,e = .returned (Str l)∧l∈Pv.txL)∧Below w.heap.size w w':=by
 obtain⟨k,hlt,hix⟩:=and7 n;have hsel:∃l:List UInt8,(w.alloc (.cells t17C 9)).cell? ⟨w.heap.size,k,none⟩=some (Str l)∧l∈Pv.txL:=by
  match k,hlt with
  | 0,_=>exact⟨_,cB (o:=0) (blk_new rfl) rfl,by decide⟩
  | 1,_=>exact⟨_,cB (o:=1) (blk_new rfl) rfl,by decide⟩
  | 2,_=>exact⟨_,cB (o:=2) (blk_new rfl) rfl,by decide⟩
  | 3,_=>exact⟨_,cB (o:=3) (blk_new rfl) rfl,by decide⟩
  | 4,_=>exact⟨_,cB (o:=4) (blk_new rfl) rfl,by decide⟩
  | 5,_=>exact⟨_,cB (o:=5) (blk_new rfl) rfl,by decide⟩
  | 6,_=>exact⟨_,cB (o:=6) (blk_new rfl) rfl,by decide⟩
  | 7,_=>exact⟨_,cB (o:=7) (blk_new rfl) rfl,by decide⟩
  | k+8,h=>omega
 obtain⟨l,hx,hl⟩:=hsel;have hk0:(0:Int)≤k:=by omega
 have hk1:(k:Int)<8:=by omega
 go_enter Tryz.func49,Tryz.ntmps49;go_wp2_with fail;go_ret;exact⟨⟨l,rfl,hl⟩,(Below.refl _ _).alloc (Nat.le_refl _) _⟩
def kidP (p:P10)(i:Nat):P10:=p.kids[i]?.getD (.mk 0 2 0 [])
theorem kid17_any (p:P10)(v:Value)(i:Nat)(hi:i<2)(w:World)(hv:PlV w p v):
  Calls Tryz.prog 50 #[v,.int .i64 (i:Int)] w fun e w'=>∃v',e = .returned v'∧PlV w' (kidP p i) v'∧Below w.heap.size w w':=by
 obtain⟨a,c,b',o',rfl,ha,hkl,hks⟩:=hv;have HKs:=Hy hks;have HA:=Hy ha;obtain⟨n,hn⟩:∃n,p.kids.length=n:=⟨_,rfl⟩
 have HL:=Hy hn;rw[hn]at hkl ⊢;clear hks ha hn;by_cases hin:i<n
 ·have hkk2:i<p.kids.length:=by rw[HL.out];exact hin
  have hne:p.kids≠[]:=fun e=>by rw[e]at hkk2;cases hkk2
  have hae:=HA.out hne;subst hae;have hbA:Below w.heap.size w ((w.alloc (.cells #[.int .i64 p.op,.int .i64 p.w,.int .i64 p.n,.slice (some ⟨b',o',none⟩) n c] 24)).alloc (.cells #[.int .i64 0,.int .i64 0,.int .i64 0,.slice none 0 0] 24)):=((Below.refl _ _).alloc (Nat.le_refl _) _).alloc (by simp) _;obtain⟨a',c',z0,z1,z2,z3,hv'⟩:=(HKs.out.get i hkk2).cells
  have hkp:kidP p i=p.kids[i]'hkk2:=by unfold kidP;rw[List.getElem?_eq_getElem hkk2];rfl
  rw[←hkp]at z0 z1 z2 z3 hv';generalize kidP p i=q at *;have c0:=later hbA z0;have c1:=later hbA z1;have c2:=later hbA z2;have c3:=later hbA z3;have HV:=Hy hv';have hin':(i:Int)<n:=by omega
  have hi2:(i:Int)<2:=by omega
  clear hv' hkp hne hbA HA z0 z1 z2 z3;go_enter Tryz.func50,Tryz.ntmps50;go_wp2_with fail;have hb:Below w.heap.size w ((w.alloc (.cells #[.int .i64 p.op,.int .i64 p.w,.int .i64 p.n,.slice (some ⟨b',o',none⟩) n c] 24)).alloc (.cells #[.int .i64 q.op,.int .i64 q.w,.int .i64 q.n,.slice a' q.kids.length c'] 24)):=((Below.refl _ _).alloc (Nat.le_refl _) _).alloc (by simp) _
  refine bodyPost_ret (v:= .agg #[.int .i64 q.op,.int .i64 q.w,.int .i64 q.n,.slice a' q.kids.length c']) ?_ rfl ⟨_,rfl,HV.out.later hb,hb⟩;simp[results,Tryz.results50,go_sem]
 ·have hin':¬(i:Int)<n:=by omega
  have hdn:decide ((i:Int)<n)=false:=decide_eq_false hin';have hkp:kidP p i = .mk 0 2 0 []:=by unfold kidP;rw[List.getElem?_eq_none (by rw[HL.out];omega)];rfl
  rw[hkp];clear hkp;go_enter Tryz.func50,Tryz.ntmps50;go_wp2_with fail;have hb:Below w.heap.size w ((w.alloc (.cells #[.int .i64 p.op,.int .i64 p.w,.int .i64 p.n,.slice a n c] 24)).alloc (.cells #[.int .i64 0,.int .i64 2,.int .i64 0,.slice none 0 0] 24)):=((Below.refl _ _).alloc (Nat.le_refl _) _).alloc (by simp) _
  refine bodyPost_ret (v:= .agg #[.int .i64 0,.int .i64 2,.int .i64 0,.slice none 0 0]) ?_ rfl ⟨_,rfl,⟨none,0,0,0,rfl,fun h=>absurd rfl h,by simp[P10.kids],by unfold PlsAt P10.kids;trivial⟩,hb⟩;simp[results,Tryz.results50,go_sem]
end Go.Proofs.YtamkfdlcdiadlaaGreatDoor
