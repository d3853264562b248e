/- What a Checker asks, whatever the layers answer: Apart, Alike, Alone, Within, Side. -/
import Derived.Test.YtamkfdlcdiadlaaGreatDoorKb05
import Derived.Test.YtamkfdlcdiadlaaGreatDoorKb41
import Derived.Test.YtamkfdlcdiadlaaGreatDoorKb24
import Derived.Test.YtamkfdlcdiadlaaGreatDoorKb29
import Derived.Test.YtamkfdlcdiadlaaGreatDoorKb25
import Derived.Test.YtamkfdlcdiadlaaGreatDoorKb33
import Derived.Test.YtamkfdlcdiadlaaGreatDoorKb04
set_option linter.all false
namespace Go.Proofs.YtamkfdlcdiadlaaGreatDoor
open Go.RowKit Go.Maps
variable {H:Nat→Prop}
def CkB (w w':World)(c bb l u:Nat)(q:Pv.Ck):Prop:=CkAt w' c bb q.fault∧(∃u',BudAt w' bb q.left u'∧q.left+u'=l+u)∧Keep (askT c bb) w w'
theorem CkB.mk {w w1 w2:World}{c bb l u r:Nat}{q:Pv.Ck}(hq:q.left=r)(hr:r≤l)(hne:c≠bb)(hb:BudAt w1 bb r (u+(l-r)))(hk:Keep (· = bb) w w1)(hc:CkAt w2 c bb q.fault)(hk2:Keep (· = c) w1 w2):CkB w w2 c bb l u q:=
 ⟨hc,⟨u+(l-r),by rw[hq];exact hb.keep hk2 (fun e=>hne e.symm),by omega⟩,(hk.wide fun k e=> .inl (.inr e)).trans (hk2.wide fun k e=> .inl (.inl e))⟩
set_option maxRecDepth 20000 in
theorem apart_all (x y:Pv.R)(bx by_ c bb l u:Nat)(w:World)(hT:Tab w)(hx:ReAt H w x bx)(hy:ReAt H w y by_)(hbud:BudAt w bb l u)(hbb:H bb)(hH:∀h,H h→h<w.heap.size)(hsz:Pv.size x+Pv.size y<68719476736)(hl:l<274877906944)
  (hc:CkAt w c bb {}) (tb:Nat) (T:Pv.T) (ht:HeadAt w tb T.op T.at_) (view:Bool):
  Calls Tryz.prog 136 #[Ptr c,Ptr tb,.bool view,Ptr bx,Ptr by_] w fun en w'=>en = .returned (.bool (({ left:=l }:Pv.Ck).apart T view x y).2)∧CkB w w' c bb l u (({ left:=l }:Pv.Ck).apart T view x y).1:=by
 have hok:=ok_any c bb {} w hc;have hsh:=shared_any (H:=H) x y bx by_ bb l u w hT hx hy hbud hbb hH (by omega) hl;have hq:({ left:=l }:Pv.Ck).apart T view x y=({ left:=l }:Pv.Ck).told 22 T view ((Pv.shared x y l).1,(Pv.shared x y l).2):=rfl;have hle:(Pv.shared x y l).1≤l:=Pv.witness_le _ l;rw[hq];obtain⟨l1,hl1⟩:∃l1,(Pv.shared x y l).1=l1:=⟨_,rfl⟩
 obtain⟨r,hr⟩:∃r,(Pv.shared x y l).2=r:=⟨_,rfl⟩
 rw[hr,hl1]at hsh;rw[hl1]at hle;rw[hr,hl1];clear hq hr hl1;have hne:=hc.ne_bud hbud;have htn:=ht.ne hbud.2 (by decide);obtain⟨t,ok,er,hv⟩:=witV_form r;rw[hv]at hsh;have x0:w.cell? ⟨c,0,none⟩=some (Ptr bb):=cB (o:=0) hc rfl;have HOk:=Hy hok;have HSh:=Hy hsh;have HC:=Hy hc;have HTm:=Hy ht;have HV:=Hy hv;clear hok hsh hc ht hT hx hy hbud hH hv;go_enter Tryz.func136,Tryz.ntmps136;go_wp2_with fail
 refine HOk.out.mono ?_;rintro e w' ⟨rfl,rfl⟩;go_wp2_with fail;refine HSh.out.mono ?_;rintro e w1 ⟨rfl,hb1,hk1⟩;have htold:=told_all r c bb l l1 w1 (HC.out.keep hk1 hne) 22 tb T (HTm.out.keep hk1 htn) view t ok er HV.out;have HTold:=Hy htold;have HB1:=Hy hb1;have HK1:=Hy hk1;clear htold hb1 hk1 HSh x0;go_wp2_with fail;refine HTold.out.mono ?_;rintro e w2 ⟨rfl,hc2,hk2⟩
 have HF:Hid (CkB w w2 c bb l u (({ left:=l }:Pv.Ck).told 22 T view (l1,r)).1):=CkB.mk (Pv.Ck.told_left _ _ _ _ _) hle hne HB1.out HK1.out hc2 hk2;clear hc2 hk2 HB1 HK1 HTold;go_wp2_with fail;go_ret;exact⟨rfl,HF.out⟩
set_option maxRecDepth 20000 in
theorem side_all (R:Ending→World→Prop)(r:Pv.R)(b c bb l u:Nat)(w:World)(hT:Tab w)(hat:ReAt H w r b)(hbud:BudAt w bb l u)(hbb:H bb)(hH:∀h,H h→h<w.heap.size)(hsz:Pv.size r<137438953472)(hl:l<274877906944)(hc:CkAt w c bb {})
  (r1:∀w',(({ left:=l }:Pv.Ck).side r).2=none→CkB w w' c bb l u (({ left:=l }:Pv.Ck).side r).1→R (.returned (.pointer none)) w')
  (r2:∀w' S s,(({ left:=l }:Pv.Ck).side r).2=some S→SideAt H w' S s→S.Ok→w.heap.size≤s→CkB w w' c bb l u (({ left:=l }:Pv.Ck).side r).1→R (.returned (Ptr s)) w'):
  Calls Tryz.prog 95 #[Ptr c,Ptr b] w R:=by
 have hok:=ok_any c bb {} w hc;have hne:=hc.ne_bud hbud;have hle:=Pv.side_le r l;have hq:({ left:=l }:Pv.Ck).side r=(match Pv.side r l with|(l,none)=>(({ left:=l,fault:={ e:=5 } }:Pv.Ck),none)|(l,some s)=>(({ left:=l }:Pv.Ck),some s)):=rfl;rw[hq]at r1 r2
 have hsb:=sbuild_any (H:=H) (fun e w'=>(e = .returned (.tuple #[.pointer none,.int .i64 5])∧(Pv.side r l).2=none∧BudAt w' bb (Pv.side r l).1 (u+(l-(Pv.side r l).1))∧Keep (· = bb) w w') ∨
   (∃S s,e = .returned (.tuple #[Ptr s,.int .i64 0])∧(Pv.side r l).2=some S∧SideAt H w' S s∧S.Ok∧w.heap.size≤s∧BudAt w' bb (Pv.side r l).1 (u+(l-(Pv.side r l).1))∧Keep (· = bb) w w')) r b bb l u w hT hat hbud hbb hH hsz hl
  (fun w' h h1 h2=> .inl ⟨rfl,h,h1,h2⟩) (fun w' S s h h1 h2 h3 h4 h5=> .inr ⟨S,s,rfl,h,h1,h2,h3,h4,h5⟩)
 generalize Pv.side r l=q at *;obtain⟨l1,o⟩:=q;have x0:w.cell? ⟨c,0,none⟩=some (Ptr bb):=cB (o:=0) hc rfl;have HOk:=Hy hok;have HSb:=Hy hsb;have HC:=Hy hc;have R1:=Hy r1;have R2:=Hy r2;clear hok hsb hc hT hat hbud hH hq r1 r2;simp only at hle;go_enter Tryz.func95,Tryz.ntmps95;go_wp2_with fail;refine HOk.out.mono ?_;rintro e w' ⟨rfl,rfl⟩;go_wp2_with fail;refine HSb.out.mono ?_
 rintro e w1 (⟨rfl,ho,hb1,hk1⟩|⟨S,s,rfl,ho,hs1,hs2,hs3,hb1,hk1⟩)
 ·try simp only at ho hb1
  subst ho;have HB1:=Hy hb1;have HK1:=Hy hk1;clear hb1 hk1 HSb x0;go_wp2_with fail;refine(told_errK c bb w1 (HC.out.keep HK1.out hne) _ _ _ [] false).mono ?_;rintro e w2 ⟨rfl,hc2,hk2⟩;have HF:=Hy (R1.out w2 trivial (CkB.mk rfl hle hne HB1.out HK1.out hc2 hk2));clear hc2 hk2 HB1 HK1 R1 R2;go_wp2_with fail;exact HF.out
 ·try simp only at ho hb1
  subst ho;have HF:=Hy (R2.out w1 S s rfl hs1 hs2 hs3 (CkB.mk rfl hle hne hb1 hk1 (HC.out.keep hk1 hne) (Keep.refl _ _)));clear hs1 hs2 hs3 hb1 hk1 HSb x0 R1 R2;go_wp2_with fail;refine(told_true c bb _ _ _ _ []).mono ?_;rintro e w' ⟨rfl,rfl⟩;go_wp2_with fail;exact HF.out
end Go.Proofs.YtamkfdlcdiadlaaGreatDoor
namespace Go.Proofs.YtamkfdlcdiadlaaGreatDoor
open Go.RowKit Go.Maps
variable {H:Nat→Prop}
set_option maxRecDepth 20000 in
theorem splits_all (x y:Pv.R)(bx by_ c bb l u:Nat)(w:World)(hT:Tab w)(hx:ReAt H w x bx)(hy:ReAt H w y by_)(hbud:BudAt w bb l u)(hbb:H bb)(hH:∀h,H h→h<w.heap.size)(hsx:Pv.size x<549755813888)(hsy:Pv.size y<549755813888)(hl:l<274877906944)
  (hhd:∀A B l1,Pv.build x l=(l1,some A)→(Pv.build y l1).2=some B→A.parts.length+B.parts.length≤12)
  (hc:CkAt w c bb {}) (tb:Nat) (T:Pv.T) (ht:HeadAt w tb T.op T.at_) (view:Bool):
  Calls Tryz.prog 137 #[Ptr c,Ptr tb,.bool view,Ptr bx,Ptr by_] w fun en w'=>en = .returned (.bool (({ left:=l }:Pv.Ck).splits T view x y).2)∧CkB w w' c bb l u (({ left:=l }:Pv.Ck).splits T view x y).1:=by
 have hsh:=acat_all (H:=H) x y bx by_ bb l u w hT hx hy hbud hbb hH hsx hsy hl hhd;have hq:({ left:=l }:Pv.Ck).splits T view x y=({ left:=l }:Pv.Ck).two 20 T view ((Pv.ambigCat x y l).1,(Pv.ambigCat x y l).2):=rfl;clear hy;have hok:=ok_any c bb {} w hc;have hle:(Pv.ambigCat x y l).1≤l:=Pv.ambigCat_le x y l;rw[hq];obtain⟨l1,hl1⟩:∃l1,(Pv.ambigCat x y l).1=l1:=⟨_,rfl⟩
 obtain⟨r,hr⟩:∃r,(Pv.ambigCat x y l).2=r:=⟨_,rfl⟩
 rw[hr,hl1]at hsh;rw[hl1]at hle;rw[hr,hl1];clear hq hr hl1;have hne:=hc.ne_bud hbud;have htn:=ht.ne hbud.2 (by decide);obtain⟨t,ok,er,hv,hv2⟩:=twoV_form r;rw[hv]at hsh;have x0:w.cell? ⟨c,0,none⟩=some (Ptr bb):=cB (o:=0) hc rfl;have HOk:=Hy hok;have HSh:=Hy hsh;have HC:=Hy hc;have HTm:=Hy ht;have HV:=Hy hv2;clear hok hsh hc ht hT hx hbud hH hv hv2 hhd;go_enter Tryz.func137,Tryz.ntmps137
 go_wp2_with fail;refine HOk.out.mono ?_;rintro e w' ⟨rfl,rfl⟩;go_wp2_with fail;refine HSh.out.mono ?_;rintro e w1 ⟨rfl,hb1,hk1⟩;have HB1:=Hy hb1;have HK1:=Hy hk1;clear hb1 hk1 HSh x0;go_wp2_with fail;have hA:Below w1.heap.size w1 (w1.alloc (.cells #[Str t.text,.int .i64 t.i,.int .i64 t.j] 223)):=(Below.refl _ _).alloc (Nat.le_refl _) _
 refine(two_all r c bb l l1 (w1.alloc (.cells #[Str t.text,.int .i64 t.i,.int .i64 t.j] 223)) ((HC.out.keep HK1.out hne).later hA) 20 (by decide) tb T ((HTm.out.keep HK1.out htn).later hA) view t ok er HV.out).mono ?_;rintro e w2 ⟨rfl,hc2,hk2⟩
 have HF:Hid (CkB w w2 c bb l u (({ left:=l }:Pv.Ck).two 20 T view (l1,r)).1):=CkB.mk (Pv.Ck.two_left _ _ _ _ _) hle hne (HB1.out.later hA) (HK1.out.trans (Keep.of_below hA)) hc2 hk2;clear hc2 hk2 HB1 HK1 hA;go_wp2_with fail;go_ret;exact⟨rfl,HF.out⟩
set_option maxRecDepth 20000 in
theorem iterates_all (x:Pv.R)(bx c bb l u:Nat)(w:World)(hT:Tab w)(hx:ReAt H w x bx)(hbud:BudAt w bb l u)(hbb:H bb)(hH:∀h,H h→h<w.heap.size)(hsx:Pv.size x<274877906944)(hl:l<274877906944)
  (hhd:Pv.null x=false→∀A B l1,Pv.build x l=(l1,some A)→(Pv.build (Pv.many x) l1).2=some B→A.parts.length+B.parts.length≤12)
  (hc:CkAt w c bb {}) (tb:Nat) (T:Pv.T) (ht:HeadAt w tb T.op T.at_) (view:Bool):
  Calls Tryz.prog 135 #[Ptr c,Ptr tb,.bool view,Ptr bx] w fun en w'=>en = .returned (.bool (({ left:=l }:Pv.Ck).iterates T view x).2)∧CkB w w' c bb l u (({ left:=l }:Pv.Ck).iterates T view x).1:=by
 have hsh:=iter_all (H:=H) x bx bb l u w hT hx hbud hbb hH hsx hl hhd;have hq:({ left:=l }:Pv.Ck).iterates T view x=({ left:=l }:Pv.Ck).two 21 T view ((Pv.ambigIter x l).1,(Pv.ambigIter x l).2):=rfl;have hok:=ok_any c bb {} w hc;have hle:(Pv.ambigIter x l).1≤l:=Pv.ambigIter_le x l;rw[hq];obtain⟨l1,hl1⟩:∃l1,(Pv.ambigIter x l).1=l1:=⟨_,rfl⟩
 obtain⟨r,hr⟩:∃r,(Pv.ambigIter x l).2=r:=⟨_,rfl⟩
 rw[hr,hl1]at hsh;rw[hl1]at hle;rw[hr,hl1];clear hq hr hl1;have hne:=hc.ne_bud hbud;have htn:=ht.ne hbud.2 (by decide);obtain⟨t,ok,er,hv,hv2⟩:=twoV_form r;rw[hv]at hsh;have x0:w.cell? ⟨c,0,none⟩=some (Ptr bb):=cB (o:=0) hc rfl;have HOk:=Hy hok;have HSh:=Hy hsh;have HC:=Hy hc;have HTm:=Hy ht;have HV:=Hy hv2;clear hok hsh hc ht hT hx hbud hH hv hv2 hhd;go_enter Tryz.func135,Tryz.ntmps135
 go_wp2_with fail;refine HOk.out.mono ?_;rintro e w' ⟨rfl,rfl⟩;go_wp2_with fail;refine HSh.out.mono ?_;rintro e w1 ⟨rfl,hb1,hk1⟩;have HB1:=Hy hb1;have HK1:=Hy hk1;clear hb1 hk1 HSh x0;go_wp2_with fail;have hA:Below w1.heap.size w1 (w1.alloc (.cells #[Str t.text,.int .i64 t.i,.int .i64 t.j] 223)):=(Below.refl _ _).alloc (Nat.le_refl _) _
 refine(two_all r c bb l l1 (w1.alloc (.cells #[Str t.text,.int .i64 t.i,.int .i64 t.j] 223)) ((HC.out.keep HK1.out hne).later hA) 21 (by decide) tb T ((HTm.out.keep HK1.out htn).later hA) view t ok er HV.out).mono ?_;rintro e w2 ⟨rfl,hc2,hk2⟩
 have HF:Hid (CkB w w2 c bb l u (({ left:=l }:Pv.Ck).two 21 T view (l1,r)).1):=CkB.mk (Pv.Ck.two_left _ _ _ _ _) hle hne (HB1.out.later hA) (HK1.out.trans (Keep.of_below hA)) hc2 hk2;clear hc2 hk2 HB1 HK1 hA;go_wp2_with fail;go_ret;exact⟨rfl,HF.out⟩
end Go.Proofs.YtamkfdlcdiadlaaGreatDoor
namespace Go.Eaq
open Go Go.RowKit
open Go.Eag (Sch runVal)
open Go.Eak
section
variable {P:Program}{ops:Array Oper}{Q:Exit→Act→World→Prop}
variable {Rl:World→World→Prop}[hPre:Pre Rl]
theorem movS {l:List Oper}(hops:Hid (ops=l.toArray)){K:Act→World→Prop}{i:Nat}{s:Sch}{ex an:Nat→Bool}{a:Act}{w:World}{o:Oper}(hi:l.toArray[i]?=some o)(hg:Region.wanted o (yielded l.toArray a.tmps)=false)
  (h:wpSch Rl P ops K ex an s (a.put o.dst undef) w):wpSch Rl P ops K ex an (.mov i s) a w:=
 ⟨o,_,(congrArg (fun q:Array Oper=>q[i]?) hops.out).trans hi,.inr ⟨by rw[hops.out];exact hg,rfl⟩,h⟩
theorem ancS {l:List Oper}(hops:Hid (ops=l.toArray)){K:Act→World→Prop}{i:Nat}{s:Sch}{ex an:Nat→Bool}{a:Act}{w:World}{o:Oper}(hi:l.toArray[i]?=some o)(hg:Region.wanted o (yielded l.toArray a.tmps)=false)
  (h:wpSch Rl P ops K ex an s (a.put o.dst undef) w):wpSch Rl P ops K ex an (.anc i s) a w:=by
 show wpOp P ops noEnd i _ a w;have hi':ops[i]?=some o:=(congrArg (fun q:Array Oper=>q[i]?) hops.out).trans hi;unfold wpOp;simp only[hi'];rw[if_neg (by rw[hops.out,hg];decide)];exact⟨.inr (hPre.rf w),h⟩
end
end Go.Eaq
namespace Go.Proofs.YtamkfdlcdiadlaaGreatDoor
open Go.RowKit Go.Maps
variable {H:Nat→Prop}
def TyR (H:Nat→Prop)(k tb:Nat)(kv:Value)(r1 r2:Pv.R)(w:World):Prop:=∃nb1 nb2,w.heap[k]?=some (.cells (CanC tb (Ptr nb1) (Ptr nb2) kv (.pointer none) (.pointer none)) 131)∧ReAt H w r1 nb1∧ReAt H w r2 nb2
def TyOut (H:Nat→Prop)(c bb k tb:Nat)(kv:Value)(l u:Nat)(q:Pv.Ck × Bool)(r1 r2:Pv.R)(w:World)(e:Ending)(w':World):Prop:=
 e = .returned (.bool q.2)∧TyR H k tb kv r1 r2 w'∧CkAt w' c bb q.1.fault∧(∃u',BudAt w' bb q.1.left u'∧q.1.left+u'=l+u)∧Keep (fun x=>x=k∨x=c∨x=bb) w w'
theorem TyR.keep {k tb:Nat}{kv:Value}{r1 r2:Pv.R}{w w':World}{G:Nat→Prop}(h:TyR H k tb kv r1 r2 w)(hk:Keep G w w')(hG:∀x,G x→H x)(hn:¬G k):TyR H k tb kv r1 r2 w':=by obtain⟨nb1,nb2,h1,h2,h3⟩:=h;exact⟨nb1,nb2,hk.blk hn h1,h2.keep (hk.wide fun x e=> .inl (hG x e)),h3.keep (hk.wide fun x e=> .inl (hG x e))⟩
theorem ty_meet {k tb nb1 nb2:Nat}{kv:Value}{r1 r2:Pv.R}{w W:World}(hx:W.heap[k]?=some (.cells (CanC tb (.pointer none) (.pointer none) kv (.pointer none) (.pointer none)) 131))(hB:Below w.heap.size w W)(h1:ReAt H W r1 nb1)(h2:ReAt H W r2 nb2)(hHk:H k):
  TyR H k tb kv r1 r2 ((W.setCell ⟨k,1,none⟩ (Ptr nb1)).setCell ⟨k,2,none⟩ (Ptr nb2))∧Keep (· = k) w ((W.setCell ⟨k,1,none⟩ (Ptr nb1)).setCell ⟨k,2,none⟩ (Ptr nb2)):=by
 have K:∀(W:World) (o:Nat) (v:Value),Keep (· = k) W (W.setCell ⟨k,o,none⟩ v):=fun W o v=>Keep.set rfl
 have hk2:=(K W 1 (Ptr nb1)).trans (K _ 2 (Ptr nb2));refine⟨⟨nb1,nb2,?_,h1.keep (hk2.wide fun x e=> .inl (by rw[e];exact hHk)),h2.keep (hk2.wide fun x e=> .inl (by rw[e];exact hHk))⟩,(Keep.of_below hB).trans hk2⟩;rw[blk_set (blk_set hx)];rfl
theorem ty_meetD {k tb:Nat}{kv:Value}{r1 r2:Pv.R}{w W:World}(h:TyR H k tb kv r1 r2 W∧Keep (· = k) w W):TyR H k tb kv r1 r2 W.drew∧Keep (· = k) w W.drew:=
 ⟨h.1.keep (G:=fun _=>False) (Keep.drew _) (fun _ h=>h.elim) (fun h=>h),h.2.trans (Keep.drew _)⟩
set_option maxRecDepth 20000 in
set_option maxHeartbeats 2000000 in
theorem types_or_all (T:Pv.T)(hop:T.op=7)(W1 W2 C1 C2:Pv.R)(wb1 wb2 cb1 cb2:Nat)(c bb k tb k1 k2 ka kc l u:Nat)(name text back:List UInt8)(re kids:Value)(w:World)(hT:Tab w)(hx:w.heap[k]?=some (.cells (CanC tb (.pointer none) (.pointer none) (.slice (some ⟨ka,0,none⟩) 2 kc) (.pointer none) (.pointer none)) 131))(ht:TermAt w tb 7 T.at_ name re text back kids)
  (hs0:w.cell? ⟨ka,0,none⟩=some (Ptr k1)) (hs1:w.cell? ⟨ka,1,none⟩=some (Ptr k2)) {t1 t2:Nat} {e1 e2 e3 e4 e5 e6:Value} (hk1:w.heap[k1]?=some (.cells (CanC t1 (Ptr wb1) (Ptr cb1) e1 e2 e3) 131)) (hk2:w.heap[k2]?=some (.cells (CanC t2 (Ptr wb2) (Ptr cb2) e4 e5 e6) 131))
  (hr1:ReAt H w W1 wb1) (hr2:ReAt H w W2 wb2) (hq1:ReAt H w C1 cb1) (hq2:ReAt H w C2 cb2) (hbud:BudAt w bb l u) (hbb:H bb) (hH:∀h,H h→h<w.heap.size) (hHk:H k) (hHc:H c) (hc:CkAt w c bb {}) (hl:l<274877906944)
  (z1:Pv.size W1+Pv.size W2+Pv.size C1+Pv.size C2<68719476736) (hk1k:k1≠k) (hk2k:k2≠k):
  Calls Tryz.prog 94 #[Ptr c,Ptr k] w (TyOut H c bb k tb (.slice (some ⟨ka,0,none⟩) 2 kc) l u (({ left:=l }:Pv.Ck).apart T false W1 W2) (Pv.any [W1,W2]) (Pv.any [C1,C2]) w):=by
 have x0:w.cell? ⟨k,0,none⟩=some (Ptr tb):=cB (o:=0) hx rfl;have x3:w.cell? ⟨k,3,none⟩=some (.slice (some ⟨ka,0,none⟩) 2 kc):=cB (o:=3) hx rfl;have t0:w.cell? ⟨tb,0,none⟩=some (.int .i64 7):=cB (o:=0) ht rfl;have p1:w.cell? ⟨k1,1,none⟩=some (Ptr wb1):=cB (o:=1) hk1 rfl;have p2:w.cell? ⟨k1,2,none⟩=some (Ptr cb1):=cB (o:=2) hk1 rfl;have r1:w.cell? ⟨k2,1,none⟩=some (Ptr wb2):=cB (o:=1) hk2 rfl
 have r2:w.cell? ⟨k2,2,none⟩=some (Ptr cb2):=cB (o:=2) hk2 rfl;have nft:∀x,¬(fun _:Nat=>False) x:=fun _ h=>h
 have n1:=nft k1;have n2:=nft k2;have hkt:tb≠k:=by rintro rfl;unfold TermAt at ht;rw[hx]at ht;cases ht
 have hkc:c≠k:=by rintro rfl;unfold CkAt at hc;rw[hx]at hc;cases hc
 have hkb:bb≠k:=by rintro rfl;have h2:=hbud.2;rw[hx]at h2;cases h2
 have HX:=Hy hx;have HTm:=Hy ht;have HT:=Hy hT;have HP1:=Hy hk1;have HP2:=Hy hk2;have HR1:=Hy hr1;have HR2:=Hy hr2;have HQ1:=Hy hq1;have HQ2:=Hy hq2;have HBud:=Hy hbud;have HH:=Hy hH;have HC:=Hy hc;clear hx ht hT hk1 hk2 hr1 hr2 hq1 hq2 hbud hH hc;go_enter Tryz.func94,Tryz.ntmps94;go_wp2_with fail
 refine Eag.region (.mov 0 (.mov 1 (.mov 2 (.mov 3 (.mov 4 (.mov 5 (.mov 6 (.mov 7 (.mov 8 (.mov 9 (.mov 10 (.mov 11 (.mov 12 (.mov 13 Eag.Sch.fin)))))))))))))) [] (by kernel_rfl) (by kernel_rfl) (fun K ops hops hK => ?_);iterate 14
  refine Eag.mov hops rfl rfl (fun w' hb => ?_) ?_
  ·have q0:=later hb x3;have q1:=later hb hs0;have q2:=later hb hs1;clear hb;go_simp
  go_simp
 refine Eag.fin (hK _ _ ?_);clear hK hops;go_simp;go_upto_region 15 with fail
 go_cut [] from 118 to 143 (fun wx=>TyR H k tb (.slice (some ⟨ka,0,none⟩) 2 kc) (Pv.any [W1,W2]) (Pv.any [C1,C2]) wx∧Keep (· = k) w wx)
 case first=>
  obtain⟨V,hV⟩:∃V,w.drew=V:=⟨_,rfl⟩
  have HB:Hid (Below w.heap.size w V.drew):=by rw[←hV];exact(Below.refl _ _).drew.drew
  replace p1:V.cell? ⟨k1,1,none⟩=some (Ptr wb1):=hV▸p1;replace p2:V.cell? ⟨k1,2,none⟩=some (Ptr cb1):=hV▸p2;replace r1:V.cell? ⟨k2,1,none⟩=some (Ptr wb2):=hV▸r1;replace r2:V.cell? ⟨k2,2,none⟩=some (Ptr cb2):=hV▸r2;rw[hV];clear hV t0 x0 x3 hs0 hs1
  refine Eaq.region (Keep fun _=>False) (.mov 0 (.mov 1 (.mov 2 (.mov 3 (.mov 4 (.mov 5 (.mov 6 (.mov 7 (.mov 8 (.mov 9 (.mov 12 (.mov 13 (.mov 14 (.mov 15 (.mov 16 (.mov 17 (.mov 18 (.mov 19 (.two 10 (.two 11 (.anc 20 (.anc 21 (.mov 22 (.mov 23 (.anc 24 (.mov 25 (.mov 26 (.anc 27 Eag.Sch.fin)))))))) 20 (.anc 11 (.anc 21 (.mov 22 (.mov 23 (.anc 24 (.mov 25 (.mov 26 (.anc 27 Eag.Sch.fin))))))))) 20 (.anc 10 (.anc 11 (.anc 21 (.mov 22 (.mov 23 (.anc 24 (.mov 25 (.mov 26 (.anc 27 Eag.Sch.fin)))))))))))))))))))))))))))) [24,27] [1] (by kernel_rfl) (by kernel_rfl) (fun K ops hops hK => ?_)
  iterate 18
   first
    | (refine Eaq.mov hops rfl rfl rfl (fun w' hb => ?_) ?_
       ·have q0:=Keep.cell hb n1 p1;have q1:=Keep.cell hb n1 p2;have q2:=Keep.cell hb n2 r1;have q3:=Keep.cell hb n2 r2;clear hb;go_simp)
    | (refine Eaq.movA hops rfl rfl (fun w' => ?_) ?_
       ·go_simp)
   go_simp
  clear p1 p2 r1 r2 n1 n2 nft;generalize V.drew=W at *;clear V;refine Eaq.two hops rfl rfl rfl rfl ?_ ?_
  ·
   go_wp2_with fail;refine⟨Keep.alloc _ _,?_⟩;have hy1:(W.alloc (.cells #[Ptr wb1,Ptr wb2] 59)).heap[W.heap.size]?=some (.cells #[Ptr wb1,Ptr wb2] 59):=blk_new rfl;have hbW:Below W.heap.size W (W.alloc (.cells #[Ptr wb1,Ptr wb2] 59)):=(Below.refl _ _).alloc (Nat.le_refl _) _;try replace HY2:=Hy (later_blk hbW HY2.out)
   have HY1:=Hy hy1;replace HB:=Hy (HB.out.trans (hbW.mono HB.out.size));clear hy1 hbW;generalize hw5:W.alloc (.cells #[Ptr wb1,Ptr wb2] 59)=V at *;clear hw5;generalize W.heap.size=g1 at *;clear W
   rename World=>W
   refine Eaq.two hops rfl rfl rfl rfl ?_ ?_
   ·
    go_wp2_with fail;refine(any_any (H:=H) [W1,W2] _ 2 [wb1,wb2] W (Sl.of_blk2 HY1.out) (ResAt.append (ResAt.one (HR1.out.later HB.out)) (ResAt.one (HR2.out.later HB.out))) (fun h hh=>by have h1:=HH.out h hh;have h2:=HB.out.size;exact Nat.lt_of_lt_of_le h1 h2) (by simp[Pv.sizes];omega)).mono ?_;rintro e V ⟨nb1,rfl,hat,hbW⟩;refine⟨Keep.of_below hbW,?_⟩;try replace HY2:=Hy (later_blk hbW HY2.out)
    have HA1:=Hy hat;replace HB:=Hy (HB.out.trans (hbW.mono HB.out.size));clear hat hbW HY1;clear W
    rename World=>W
    refine Eaq.anc hops rfl rfl ?_;go_wp2_with fail;refine⟨Keep.alloc _ _,?_⟩;have hy2:(W.alloc (.cells #[Ptr cb1,Ptr cb2] 59)).heap[W.heap.size]?=some (.cells #[Ptr cb1,Ptr cb2] 59):=blk_new rfl;have hbW:Below W.heap.size W (W.alloc (.cells #[Ptr cb1,Ptr cb2] 59)):=(Below.refl _ _).alloc (Nat.le_refl _) _;try replace HY1:=Hy (later_blk hbW HY1.out)
    try replace HA1:=Hy (HA1.out.later hbW)
    have HY2:=Hy hy2;replace HB:=Hy (HB.out.trans (hbW.mono HB.out.size));clear hy2 hbW;generalize hw5:W.alloc (.cells #[Ptr cb1,Ptr cb2] 59)=V at *;clear hw5;generalize W.heap.size=g2 at *;clear W
    rename World=>W
    refine Eaq.anc hops rfl rfl ?_;go_wp2_with fail;refine(any_any (H:=H) [C1,C2] _ 2 [cb1,cb2] W (Sl.of_blk2 HY2.out) (ResAt.append (ResAt.one (HQ1.out.later HB.out)) (ResAt.one (HQ2.out.later HB.out))) (fun h hh=>by have h1:=HH.out h hh;have h2:=HB.out.size;exact Nat.lt_of_lt_of_le h1 h2) (by simp[Pv.sizes];omega)).mono ?_;rintro e V ⟨nb2,rfl,hat,hbW⟩;refine⟨Keep.of_below hbW,?_⟩
    replace HA1:=Hy (HA1.out.later hbW);have HA2:=Hy hat;replace HB:=Hy (HB.out.trans (hbW.mono HB.out.size));clear hat hbW HY2;clear W
    rename World=>W
    have hx5:=later_blk HB.out HX.out;have fr:∀o,W.frozen? ⟨k,o,none⟩=false:=fun o=>fob hx5
    have c1:W.cell? ⟨k,1,none⟩=some (.pointer none):=cB (o:=1) hx5 rfl;have c2:W.cell? ⟨k,2,none⟩=some (.pointer none):=cB (o:=2) hx5 rfl;have HX5:=Hy hx5;clear hx5;go_simp;iterate 2
     first
      | (refine Eaq.mov hops rfl rfl rfl (fun w' hb => ?_) ?_
         ·clear hb;go_simp)
      | (refine Eaq.movA hops rfl rfl (fun w' => ?_) ?_
         ·go_simp)
     go_simp
    refine Eaq.anc hops rfl rfl ?_;go_wp2_with fail;iterate 2
     first
      | (refine Eaq.mov hops rfl rfl rfl (fun w' hb => ?_) ?_
         ·clear hb;go_simp)
      | (refine Eaq.movA hops rfl rfl (fun w' => ?_) ?_
         ·go_simp)
     go_simp
    refine Eaq.anc hops rfl rfl ?_;go_wp2_with fail;refine Eaq.fin (hK _ _ ?_);clear hK hops;go_simp;go_wp2_with fail;go_meet;first
     | exact ty_meet HX5.out HB.out HA1.out HA2.out hHk
     | exact ty_meetD (ty_meet HX5.out HB.out HA1.out HA2.out hHk)
   ·
    go_wp2_with fail;refine⟨Keep.alloc _ _,?_⟩;have hy2:(W.alloc (.cells #[Ptr cb1,Ptr cb2] 59)).heap[W.heap.size]?=some (.cells #[Ptr cb1,Ptr cb2] 59):=blk_new rfl;have hbW:Below W.heap.size W (W.alloc (.cells #[Ptr cb1,Ptr cb2] 59)):=(Below.refl _ _).alloc (Nat.le_refl _) _;try replace HY1:=Hy (later_blk hbW HY1.out)
    try replace HA1:=Hy (HA1.out.later hbW)
    have HY2:=Hy hy2;replace HB:=Hy (HB.out.trans (hbW.mono HB.out.size));clear hy2 hbW;generalize hw5:W.alloc (.cells #[Ptr cb1,Ptr cb2] 59)=V at *;clear hw5;generalize W.heap.size=g2 at *;clear W
    rename World=>W
    refine Eaq.anc hops rfl rfl ?_;go_wp2_with fail;refine(any_any (H:=H) [W1,W2] _ 2 [wb1,wb2] W (Sl.of_blk2 HY1.out) (ResAt.append (ResAt.one (HR1.out.later HB.out)) (ResAt.one (HR2.out.later HB.out))) (fun h hh=>by have h1:=HH.out h hh;have h2:=HB.out.size;exact Nat.lt_of_lt_of_le h1 h2) (by simp[Pv.sizes];omega)).mono ?_;rintro e V ⟨nb1,rfl,hat,hbW⟩;refine⟨Keep.of_below hbW,?_⟩
    try replace HY2:=Hy (later_blk hbW HY2.out)
    have HA1:=Hy hat;replace HB:=Hy (HB.out.trans (hbW.mono HB.out.size));clear hat hbW HY1;clear W
    rename World=>W
    refine Eaq.anc hops rfl rfl ?_;go_wp2_with fail;refine(any_any (H:=H) [C1,C2] _ 2 [cb1,cb2] W (Sl.of_blk2 HY2.out) (ResAt.append (ResAt.one (HQ1.out.later HB.out)) (ResAt.one (HQ2.out.later HB.out))) (fun h hh=>by have h1:=HH.out h hh;have h2:=HB.out.size;exact Nat.lt_of_lt_of_le h1 h2) (by simp[Pv.sizes];omega)).mono ?_;rintro e V ⟨nb2,rfl,hat,hbW⟩;refine⟨Keep.of_below hbW,?_⟩
    replace HA1:=Hy (HA1.out.later hbW);have HA2:=Hy hat;replace HB:=Hy (HB.out.trans (hbW.mono HB.out.size));clear hat hbW HY2;clear W
    rename World=>W
    have hx5:=later_blk HB.out HX.out;have fr:∀o,W.frozen? ⟨k,o,none⟩=false:=fun o=>fob hx5
    have c1:W.cell? ⟨k,1,none⟩=some (.pointer none):=cB (o:=1) hx5 rfl;have c2:W.cell? ⟨k,2,none⟩=some (.pointer none):=cB (o:=2) hx5 rfl;have HX5:=Hy hx5;clear hx5;go_simp;iterate 2
     first
      | (refine Eaq.mov hops rfl rfl rfl (fun w' hb => ?_) ?_
         ·clear hb;go_simp)
      | (refine Eaq.movA hops rfl rfl (fun w' => ?_) ?_
         ·go_simp)
     go_simp
    refine Eaq.anc hops rfl rfl ?_;go_wp2_with fail;iterate 2
     first
      | (refine Eaq.mov hops rfl rfl rfl (fun w' hb => ?_) ?_
         ·clear hb;go_simp)
      | (refine Eaq.movA hops rfl rfl (fun w' => ?_) ?_
         ·go_simp)
     go_simp
    refine Eaq.anc hops rfl rfl ?_;go_wp2_with fail;refine Eaq.fin (hK _ _ ?_);clear hK hops;go_simp;go_wp2_with fail;go_meet;first
     | exact ty_meet HX5.out HB.out HA1.out HA2.out hHk
     | exact ty_meetD (ty_meet HX5.out HB.out HA1.out HA2.out hHk)
  ·
   go_wp2_with fail;refine⟨Keep.alloc _ _,?_⟩;have hy2:(W.alloc (.cells #[Ptr cb1,Ptr cb2] 59)).heap[W.heap.size]?=some (.cells #[Ptr cb1,Ptr cb2] 59):=blk_new rfl;have hbW:Below W.heap.size W (W.alloc (.cells #[Ptr cb1,Ptr cb2] 59)):=(Below.refl _ _).alloc (Nat.le_refl _) _;try replace HY1:=Hy (later_blk hbW HY1.out)
   try replace HA1:=Hy (HA1.out.later hbW)
   have HY2:=Hy hy2;replace HB:=Hy (HB.out.trans (hbW.mono HB.out.size));clear hy2 hbW;generalize hw5:W.alloc (.cells #[Ptr cb1,Ptr cb2] 59)=V at *;clear hw5;generalize W.heap.size=g2 at *;clear W
   rename World=>W
   refine Eaq.anc hops rfl rfl ?_;go_wp2_with fail;refine⟨Keep.alloc _ _,?_⟩;have hy1:(W.alloc (.cells #[Ptr wb1,Ptr wb2] 59)).heap[W.heap.size]?=some (.cells #[Ptr wb1,Ptr wb2] 59):=blk_new rfl;have hbW:Below W.heap.size W (W.alloc (.cells #[Ptr wb1,Ptr wb2] 59)):=(Below.refl _ _).alloc (Nat.le_refl _) _;try replace HY2:=Hy (later_blk hbW HY2.out)
   have HY1:=Hy hy1;replace HB:=Hy (HB.out.trans (hbW.mono HB.out.size));clear hy1 hbW;generalize hw5:W.alloc (.cells #[Ptr wb1,Ptr wb2] 59)=V at *;clear hw5;generalize W.heap.size=g1 at *;clear W
   rename World=>W
   refine Eaq.anc hops rfl rfl ?_;go_wp2_with fail;refine(any_any (H:=H) [W1,W2] _ 2 [wb1,wb2] W (Sl.of_blk2 HY1.out) (ResAt.append (ResAt.one (HR1.out.later HB.out)) (ResAt.one (HR2.out.later HB.out))) (fun h hh=>by have h1:=HH.out h hh;have h2:=HB.out.size;exact Nat.lt_of_lt_of_le h1 h2) (by simp[Pv.sizes];omega)).mono ?_;rintro e V ⟨nb1,rfl,hat,hbW⟩;refine⟨Keep.of_below hbW,?_⟩
   try replace HY2:=Hy (later_blk hbW HY2.out)
   have HA1:=Hy hat;replace HB:=Hy (HB.out.trans (hbW.mono HB.out.size));clear hat hbW HY1;clear W
   rename World=>W
   refine Eaq.anc hops rfl rfl ?_;go_wp2_with fail;refine(any_any (H:=H) [C1,C2] _ 2 [cb1,cb2] W (Sl.of_blk2 HY2.out) (ResAt.append (ResAt.one (HQ1.out.later HB.out)) (ResAt.one (HQ2.out.later HB.out))) (fun h hh=>by have h1:=HH.out h hh;have h2:=HB.out.size;exact Nat.lt_of_lt_of_le h1 h2) (by simp[Pv.sizes];omega)).mono ?_;rintro e V ⟨nb2,rfl,hat,hbW⟩;refine⟨Keep.of_below hbW,?_⟩
   replace HA1:=Hy (HA1.out.later hbW);have HA2:=Hy hat;replace HB:=Hy (HB.out.trans (hbW.mono HB.out.size));clear hat hbW HY2;clear W
   rename World=>W
   have hx5:=later_blk HB.out HX.out;have fr:∀o,W.frozen? ⟨k,o,none⟩=false:=fun o=>fob hx5
   have c1:W.cell? ⟨k,1,none⟩=some (.pointer none):=cB (o:=1) hx5 rfl;have c2:W.cell? ⟨k,2,none⟩=some (.pointer none):=cB (o:=2) hx5 rfl;have HX5:=Hy hx5;clear hx5;go_simp;iterate 2
    first
     | (refine Eaq.mov hops rfl rfl rfl (fun w' hb => ?_) ?_
        ·clear hb;go_simp)
     | (refine Eaq.movA hops rfl rfl (fun w' => ?_) ?_
        ·go_simp)
    go_simp
   refine Eaq.anc hops rfl rfl ?_;go_wp2_with fail;iterate 2
    first
     | (refine Eaq.mov hops rfl rfl rfl (fun w' hb => ?_) ?_
        ·clear hb;go_simp)
     | (refine Eaq.movA hops rfl rfl (fun w' => ?_) ?_
        ·go_simp)
    go_simp
   refine Eaq.anc hops rfl rfl ?_;go_wp2_with fail;refine Eaq.fin (hK _ _ ?_);clear hK hops;go_simp;go_wp2_with fail;go_meet;first
    | exact ty_meet HX5.out HB.out HA1.out HA2.out hHk
    | exact ty_meetD (ty_meet HX5.out HB.out HA1.out HA2.out hHk)
 case rest=>
 obtain⟨hty,hk02⟩:=hcut;have hkH0:Keep H w wc:=hk02.wide fun x e=> .inl (by rw[e];exact hHk)
 have hP1:=hk02.blk hk1k HP1.out;have hP2:=hk02.blk hk2k HP2.out;have q1:wc.cell? ⟨k1,1,none⟩=some (Ptr wb1):=cB (o:=1) hP1 rfl;have q2:wc.cell? ⟨k1,2,none⟩=some (Ptr cb1):=cB (o:=2) hP1 rfl;have s1:wc.cell? ⟨k2,1,none⟩=some (Ptr wb2):=cB (o:=1) hP2 rfl;have s2:wc.cell? ⟨k2,2,none⟩=some (Ptr cb2):=cB (o:=2) hP2 rfl;have hc2:=HC.out.keep hk02 hkc;have hb2:BudAt wc bb l u:=HBud.out.keep hk02 hkb
 have ht2:=TermAt.head (hk02.blk hkt HTm.out);have m1:¬askT c bb k1:=fun e=>by
  rcases e with e|e
  ·have h2:=hc2;unfold CkAt at h2;rw[←e,hP1]at h2;cases h2
  ·have h2:=hb2.2;rw[←e,hP1]at h2;cases h2
 have m2:¬askT c bb k2:=fun e=>by
  rcases e with e|e
  ·have h2:=hc2;unfold CkAt at h2;rw[←e,hP2]at h2;cases h2
  ·have h2:=hb2.2;rw[←e,hP2]at h2;cases h2
 have mk:¬askT c bb k:=fun e=>by
  rcases e with e|e
  ·exact hkc e.symm
  ·exact hkb e.symm
 have hT2:Tab wc:=HT.out.keep hk02 (fun e=>HT.out.ne_ptr HX.out rfl e.symm);have hsz2:=hk02.size;have hHlt:∀h,H h→h<wc.heap.size:=fun h hh=>Nat.lt_of_lt_of_le (HH.out h hh) hsz2
 have hasH:∀x,askT c bb x→H x:=fun x e=>by
  rcases e with e|e
  ·rw[e];exact hHc
  ·rw[e];exact hbb
 have hG1:=HR1.out.keep hkH0;have hG2:=HR2.out.keep hkH0;have hG3:=HQ1.out.keep hkH0;have hG4:=HQ2.out.keep hkH0;rw[show(7:Nat)=T.op from hop.symm]at ht2
 have hsp:=apart_all (H:=H) W1 W2 wb1 wb2 c bb l u wc.drew (hT2.later (Below.refl _ _).drew) (hG1.later (Below.refl _ _).drew) (hG2.later (Below.refl _ _).drew) (hb2.later (Below.refl _ _).drew) hbb hHlt (by omega) hl (hc2.later (Below.refl _ _).drew) tb T (HeadAt.later ht2 (Below.refl _ _).drew) false;generalize ({ left:=l }:Pv.Ck).apart T false W1 W2=q at *;obtain⟨ck,b⟩:=q;have HSp:=Hy hsp
 have HTy:=Hy hty;have HK2:=Hy hk02;clear hsp hty hk02 hkH0 hP1 hP2 hc2 hb2 ht2 hT2 hG1 hG2 hG3 hG4 q2 s2 hs0 hs1 x0 x3 t0 p1 p2 r1 r2 n1 n2 nft;go_wp2_with fail;refine Eaq.region (Keep (askT c bb)) (.mov 0 (.mov 1 (.mov 2 (.mov 3 (.mov 4 (.mov 5 (.mov 6 (.mov 7 (.mov 8 (.mov 9 (.anc 10 (.mov 11 Eag.Sch.fin)))))))))))) [] [] (by kernel_rfl) (by kernel_rfl) (fun K ops hops hK => ?_);iterate 10
  first
   | (refine Eaq.mov hops rfl rfl rfl (fun w' hb => ?_) ?_
      ·have q0:=Keep.cell hb m1 q1;have q1:=Keep.cell hb m2 s1;clear hb;go_simp)
   | (refine Eaq.movA hops rfl rfl (fun w' => ?_) ?_
      ·go_simp)
  go_simp
 refine Eaq.anc hops rfl rfl ?_;go_wp2_with fail;refine HSp.out.mono ?_;rintro e w3 ⟨rfl,hc3,hb3,hk3⟩;refine⟨hk3,?_⟩;have hk3':Keep (askT c bb) wc w3:=(Keep.drew _).trans hk3
 have HFin:Hid (TyOut H c bb k tb (.slice (some ⟨ka,0,none⟩) 2 kc) l u (ck,b) (Pv.any [W1,W2]) (Pv.any [C1,C2]) w (.returned (.bool b)) w3):=⟨rfl,HTy.out.keep hk3' hasH mk,hc3,hb3,(HK2.out.wide fun x e=> .inl (.inl e)).trans (hk3'.wide fun x e=> .inl (.inr e))⟩
 clear hc3 hb3 hk3 hk3' HSp q1 s1;iterate 1
  first
   | (refine Eaq.mov hops rfl rfl rfl (fun w' hb => ?_) ?_
      ·clear hb;go_simp)
   | (refine Eaq.movA hops rfl rfl (fun w' => ?_) ?_
      ·go_simp)
  go_simp
 refine Eaq.fin (hK _ _ ?_);clear hK hops;go_simp;go_wp2_with fail;refine bodyPost_ret (v:= .bool b) ?_ rfl HFin.out;simp[results,Tryz.results94,go_sem]
end Go.Proofs.YtamkfdlcdiadlaaGreatDoor
