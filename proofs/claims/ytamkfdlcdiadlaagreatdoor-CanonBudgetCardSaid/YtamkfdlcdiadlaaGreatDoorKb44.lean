/- Canonizers in memory. -/
import Derived.Test.YtamkfdlcdiadlaaGreatDoorKb30
import Derived.Test.YtamkfdlcdiadlaaGreatDoorKb33
import Derived.Test.YtamkfdlcdiadlaaGreatDoorKb43
import Derived.Test.YtamkfdlcdiadlaaGreatDoorKb04
import Derived.Test.YtamkfdlcdiadlaaGreatDoorKb37
import Derived.Test.YtamkfdlcdiadlaaGreatDoorKb41
import Derived.Test.YtamkfdlcdiadlaaGreatDoorKb39
import Derived.Test.YtamkfdlcdiadlaaGreatDoorKb25
import Derived.Test.YtamkfdlcdiadlaaGreatDoorKb42
set_option linter.all false
namespace Go.Proofs.YtamkfdlcdiadlaaGreatDoor
open Go.RowKit Go.Maps
variable {H:Nat→Prop}
mutual
def CAt (H:Nat→Prop)(w:World):Pv.C→Nat→Prop
 | .mk t wh co ks ws cs,k=>¬H k∧∃(tb wb cb:Nat) (a:Option Addr) (cap:Nat) (bs:List Nat) (s1 s2:Nat),TAt H w t tb∧ReAt H w wh wb∧ReAt H w co cb∧SideAt H w ws s1∧SideAt H w cs s2∧ws.Ok∧cs.Ok∧(∀blk off,a=some ⟨blk,off,none⟩→¬H blk∧blk<w.heap.size) ∧
  w.heap[k]?=some (.cells (CanC tb (Ptr wb) (Ptr cb) (.slice a bs.length cap) (Ptr s1) (Ptr s2)) 131)∧Sl w a cap (bs.map Ptr)∧CsAt H w ks bs
def CsAt (H:Nat→Prop)(w:World):List Pv.C→List Nat→Prop
 | [],bs=>bs=[]
 | t::ts,bs=>∃b bs',bs=b::bs'∧CAt H w t b∧CsAt H w ts bs'
end
theorem CsAt.length {w:World}:∀ {ts:List Pv.C} {bs:List Nat},CsAt H w ts bs→bs.length=ts.length
 | [],_,h=>by unfold CsAt at h;subst h;rfl
 | t::ts,_,h=>by unfold CsAt at h;obtain⟨b,bs',rfl,_,h⟩:=h;simp[CsAt.length h]
structure Turn (H G:Nat→Prop)(w:World):Prop where
 sub:∀x,G x→H x
 nd:∀x,G x→∀(cs:Array Value) (fr:Nat × Nat),w.heap[x]?≠some (.cells cs 205 fr)
mutual
theorem CAt.keep {w w':World}{G:Nat→Prop}(hb:Keep G w w')(hg:Turn H G w):∀ {t:Pv.C} {b:Nat},CAt H w t b→CAt H w' t b
 | .mk t wh co ks ws cs,b,h=>by
   unfold CAt at *;obtain⟨h0,tb,wb,cb,a,cap,bs,s1,s2,ht,hw,hc,h1,h2,h3,h4,ha,hx,hs,hk⟩:=h;have hH:Keep H w w':=hb.wide fun x e=> .inl (hg.sub x e)
   exact⟨h0,tb,wb,cb,a,cap,bs,s1,s2,ht.keep hH,hw.keep hH,hc.keep hH,h1.keepT hb (fun x e=> .inl (hg.sub x e)) hg.nd,h2.keepT hb (fun x e=> .inl (hg.sub x e)) hg.nd,h3,h4,fun x y e=>⟨(ha x y e).1,Nat.lt_of_lt_of_le (ha x y e).2 hb.size⟩,hH.blk h0 hx,hs.keep hH (fun x y e=>(ha x y e).1),CsAt.keep hb hg hk⟩
theorem CsAt.keep {w w':World}{G:Nat→Prop}(hb:Keep G w w')(hg:Turn H G w):∀ {ts:List Pv.C} {bs:List Nat},CsAt H w ts bs→CsAt H w' ts bs
 | [],_,h=>by unfold CsAt at *;exact h
 | t::ts,_,h=>by unfold CsAt at *;obtain⟨b,bs',e,h1,h2⟩:=h;exact⟨b,bs',e,CAt.keep hb hg h1,CsAt.keep hb hg h2⟩
end
mutual
theorem CAt.widen {w:World}{H':Nat→Prop}(hH:∀x,H' x→H x∨w.heap.size≤x):∀ {t:Pv.C} {b:Nat},CAt H w t b→CAt H' w t b
 | .mk t wh co ks ws cs,b,h=>by
   unfold CAt at *;obtain⟨h0,tb,wb,cb,a,cap,bs,s1,s2,ht,hw,hc,h1,h2,h3,h4,ha,hx,hs,hk⟩:=h;refine⟨fun e => ?_,tb,wb,cb,a,cap,bs,s1,s2,ht.widen hH,hw.widen hH,hc.widen hH,h1.widen hH,h2.widen hH,h3,h4,fun x y e=>⟨fun hx2 => ?_,(ha x y e).2⟩,hx,hs,CsAt.widen hH hk⟩
   ·rcases hH _ e with e|e
    ·exact h0 e
    ·have:=blk_lt hx;omega
   ·rcases hH _ hx2 with h|h
    ·exact(ha x y e).1 h
    ·have:=(ha x y e).2;omega
theorem CsAt.widen {w:World}{H':Nat→Prop}(hH:∀x,H' x→H x∨w.heap.size≤x):∀ {ts:List Pv.C} {bs:List Nat},CsAt H w ts bs→CsAt H' w ts bs
 | [],_,h=>by unfold CsAt at *;exact h
 | t::ts,_,h=>by unfold CsAt at *;obtain⟨b,bs',e,h1,h2⟩:=h;exact⟨b,bs',e,CAt.widen hH h1,CsAt.widen hH h2⟩
end
theorem CAt.open_ {w:World}{t:Pv.C}{k:Nat}(h:CAt H w t k):¬H k∧∃(tb wb cb:Nat) (a:Option Addr) (cap:Nat) (bs:List Nat) (s1 s2:Nat),TAt H w t.term tb∧ReAt H w t.whole wb∧ReAt H w t.core cb∧SideAt H w t.ws s1∧SideAt H w t.cs s2∧t.ws.Ok∧t.cs.Ok∧(∀blk off,a=some ⟨blk,off,none⟩→¬H blk∧blk<w.heap.size) ∧
  w.heap[k]?=some (.cells (CanC tb (Ptr wb) (Ptr cb) (.slice a bs.length cap) (Ptr s1) (Ptr s2)) 131)∧Sl w a cap (bs.map Ptr)∧CsAt H w t.kids bs:=by
 cases t;unfold CAt at h;exact h
theorem CsAt.snoc {w:World}{t:Pv.C}{b:Nat}:∀ {ts:List Pv.C} {bs:List Nat},CsAt H w ts bs→CAt H w t b→CsAt H w (ts++[t]) (bs++[b])
 | [],_,h,hb=>by
   unfold CsAt at h;subst h;unfold CsAt;exact⟨b,[],rfl,hb,by unfold CsAt;rfl⟩
 | _::ts,_,h,hb=>by unfold CsAt at h;obtain⟨c,cs,rfl,h1,h2⟩:=h;show CsAt H w (_::(ts++[t])) (c::(cs++[b]));unfold CsAt;exact⟨c,cs++[b],rfl,h1,CsAt.snoc h2 hb⟩
end Go.Proofs.YtamkfdlcdiadlaaGreatDoor
namespace Go.Proofs.YtamkfdlcdiadlaaGreatDoor
open Go.RowKit Go.Maps
variable {H:Nat→Prop}
def Few6 (x:Pv.R):Prop:=∀l l1 A,Pv.build x l=(l1,some A)→A.parts.length≤6
theorem Few6.both {x y:Pv.R}(hx:Few6 x)(hy:Few6 y):∀l A B l1,Pv.build x l=(l1,some A)→(Pv.build y l1).2=some B→A.parts.length+B.parts.length≤12:=fun l A B l1 h1 h2=>by have h3:=hx l l1 A h1;have h4:=hy l1 (Pv.build y l1).1 B (by rw[←h2]);omega
structure Kid (C:Pv.C):Prop where
 sz:Pv.size C.whole+Pv.size C.core<17179869184
 fw:Few6 C.whole
 fc:Few6 C.core
 mw:Few6 (Pv.many C.whole)
 mc:Few6 (Pv.many C.core)
theorem CsAt.get2 {w:World}{x y:Pv.C}{bs:List Nat}(h:CsAt H w [x,y] bs):∃k1 k2,bs=[k1,k2]∧CAt H w x k1∧CAt H w y k2:=by unfold CsAt at h;obtain⟨k1,b1,rfl,h1,h⟩:=h;unfold CsAt at h;obtain⟨k2,b2,rfl,h2,h⟩:=h;unfold CsAt at h;subst h;exact⟨k1,k2,rfl,h1,h2⟩
theorem CsAt.get1 {w:World}{x:Pv.C}{bs:List Nat}(h:CsAt H w [x] bs):∃k1,bs=[k1]∧CAt H w x k1:=by unfold CsAt at h;obtain⟨k1,b1,rfl,h1,h⟩:=h;unfold CsAt at h;subst h;exact⟨k1,rfl,h1⟩
theorem row_two {N0 e:Nat}{w:World}{v:Value}{k1 k2:Nat}(h:Row N0 e w v [Ptr k1,Ptr k2]):∃g cap,v = .slice (some ⟨g,0,none⟩) 2 cap∧w.cell? ⟨g,0,none⟩=some (Ptr k1)∧w.cell? ⟨g,1,none⟩=some (Ptr k2):=by
 obtain⟨g,cap,e1,h0⟩:=Row.get h (i:=0) (u:=Ptr k1) rfl;obtain⟨g',cap',e2,h1⟩:=Row.get h (i:=1) (u:=Ptr k2) rfl;rw[e1]at e2;have eg:g'=g:=by
  injection e2 with e _ _
  injection e with e
  injection e with e
  exact e.symm
 rw[eg]at h1;exact⟨g,cap,e1,h0,h1⟩
theorem row_one {N0 e:Nat}{w:World}{v:Value}{k1:Nat}(h:Row N0 e w v [Ptr k1]):∃g cap,v = .slice (some ⟨g,0,none⟩) 1 cap∧w.cell? ⟨g,0,none⟩=some (Ptr k1):=by obtain⟨g,cap,e1,h0⟩:=Row.get h (i:=0) (u:=Ptr k1) rfl;exact⟨g,cap,e1,h0⟩
theorem types_all (P:Pv.R→Prop)(hP:∀r c,P r→P (Pv.by_ c r))(hPs:∀r,P r→Pv.size r≤300000)(t:Pv.T)(kids:List Pv.C)(hsh:Pv.shapedOf t.op t.re.isSome kids.length=true)(hco:Pv.isCanonOp t.op=true)(hre:∀r,t.re=some r→P r)(hkd:∀C∈kids,Kid C)
  (c bb k tb l u N0:Nat) (kv:Value) (bs:List Nat) (w:World) (hT:Tab w) (hx:w.heap[k]?=some (.cells (CanC tb (.pointer none) (.pointer none) kv (.pointer none) (.pointer none)) 131)) (ht:TAt H w t tb) (hrow:Row N0 33 w kv (bs.map Ptr)) (hks:CsAt H w kids bs)
  (hbud:BudAt w bb l u) (hbb:H bb) (hH:∀h,H h→h<w.heap.size) (hHk:H k) (hHc:H c) (htl:t.text.length<549755813888) (hc:CkAt w c bb {}) (hl:l<274877906944):
  Calls Tryz.prog 94 #[Ptr c,Ptr k] w (TyW H c bb k tb kv l u (Pv.ctypes t kids { left:=l }).1 (Pv.ctypes t kids { left:=l }).2.1 (Pv.ctypes t kids { left:=l }).2.2 w):=by
 obtain⟨_,rv,a,kc,bs0,hr,ha,hterm,hsl,hts⟩:=ht.open_;have hop:t.op=16∨t.op=17∨t.op=7∨t.op=8∨t.op=9:=by unfold Pv.isCanonOp at hco;simp only[Bool.or_eq_true,beq_iff_eq]at hco;omega
 rcases hop with e|e|e|e|e
 ·rw[e]at hsh hterm;have hs':(t.re.isSome&&kids.length==0)=true:=hsh;simp only[Bool.and_eq_true,beq_iff_eq]at hs';obtain⟨r,hr0⟩:=Option.isSome_iff_exists.1 hs'.1;rw[hr0]at hr;obtain⟨rb,rfl,hat⟩:=hr;have hq:Pv.ctypes t kids { left:=l }=(({ left:=l },true),r,r):=by unfold Pv.ctypes;simp[e,hr0]
  rw[hq];exact types_keep_all r c bb k tb rb l u t.at_ t.name t.text t.back _ kv w hx hterm hat hbud hHk hc
 ·rw[e]at hsh hterm;have hs':(t.re.isSome&&kids.length==0)=true:=hsh;simp only[Bool.and_eq_true,beq_iff_eq]at hs';obtain⟨r,hr0⟩:=Option.isSome_iff_exists.1 hs'.1;rw[hr0]at hr;obtain⟨rb,rfl,hat⟩:=hr;have hq:Pv.ctypes t kids { left:=l }=(({ left:=l }:Pv.Ck).within t t.text r,r,Pv.word t.text):=by unfold Pv.ctypes;simp[e,hr0]
  rw[hq];exact types_norm_all P hP hPs t e r (hre r hr0) c bb k tb rb l u t.name t.back _ kv w hx hterm hat hbud hH hHk htl hc
 ·rw[e]at hsh hterm;have hs':(kids.length==2)=true:=hsh;simp only[beq_iff_eq]at hs'
  match kids,hs' with
  | [x,y],_=>
    obtain⟨k1,k2,rfl,h1,h2⟩:=hks.get2;obtain⟨n1,t1,wb1,cb1,_,_,_,_,_,_,hw1,hc1,_,_,_,_,_,hx1,_,_⟩:=h1.open_;obtain⟨n2,t2,wb2,cb2,_,_,_,_,_,_,hw2,hc2,_,_,_,_,_,hx2,_,_⟩:=h2.open_;obtain⟨ka,cap,rfl,hs0,hs1⟩:=row_two hrow;have d1:=(hkd x (by simp)).sz;have d2:=(hkd y (by simp)).sz
    have hq:Pv.ctypes t [x,y] { left:=l }=(({ left:=l }:Pv.Ck).apart t false x.whole y.whole,Pv.any [x.whole,y.whole],Pv.any [x.core,y.core]):=by unfold Pv.ctypes;simp[e,Pv.nth]
    rw[hq];exact(types_or_all t e x.whole y.whole x.core y.core wb1 wb2 cb1 cb2 c bb k tb k1 k2 ka cap l u t.name t.text t.back rv _ w hT hx hterm hs0 hs1 hx1 hx2 hw1 hw2 hc1 hc2 hbud hbb hH hHk hHc hc hl (by omega) (fun e=>n1 (e▸hHk)) (fun e=>n2 (e▸hHk))).mono fun _ _ h=>h.weak
 ·rw[e]at hsh hterm;have hs':(kids.length==2)=true:=hsh;simp only[beq_iff_eq]at hs'
  match kids,hs' with
  | [x,y],_=>
    obtain⟨k1,k2,rfl,h1,h2⟩:=hks.get2;obtain⟨n1,t1,wb1,cb1,_,_,_,_,_,_,hw1,hc1,_,_,_,_,_,hx1,_,_⟩:=h1.open_;obtain⟨n2,t2,wb2,cb2,_,_,_,_,_,_,hw2,hc2,_,_,_,_,_,hx2,_,_⟩:=h2.open_;obtain⟨ka,cap,rfl,hs0,hs1⟩:=row_two hrow;have d1:=hkd x (by simp);have d2:=hkd y (by simp);have z1:=d1.sz;have z2:=d2.sz
    have hq:Pv.ctypes t [x,y] { left:=l }=(Pv.Ck.both (({ left:=l }:Pv.Ck).splits t false x.whole y.whole) (fun c=>c.splits t true x.core y.core),Pv.cat [x.whole,y.whole],Pv.cat [x.core,y.core]):=by unfold Pv.ctypes;simp[e,Pv.nth]
    rw[hq];exact(types_cat_all t e x.whole y.whole x.core y.core wb1 wb2 cb1 cb2 c bb k tb k1 k2 ka cap l u t.name t.text t.back rv _ w hT hx hterm hs0 hs1 hx1 hx2 hw1 hw2 hc1 hc2 hbud hbb hH hHk hHc hc hl (by omega) (fun e=>n1 (e▸hHk)) (fun e=>n2 (e▸hHk)) (d1.fw.both d2.fw) (d1.fc.both d2.fc)).mono fun _ _ h=>h.weak
 ·rw[e]at hsh hterm;have hs':(kids.length==1)=true:=hsh;simp only[beq_iff_eq]at hs'
  match kids,hs' with
  | [x],_=>
    obtain⟨k1,rfl,h1⟩:=hks.get1;obtain⟨n1,t1,wb1,cb1,_,_,_,_,_,_,hw1,hc1,_,_,_,_,_,hx1,_,_⟩:=h1.open_;obtain⟨ka,cap,rfl,hs0⟩:=row_one hrow;have d1:=hkd x (by simp);have z1:=d1.sz;have hq:Pv.ctypes t [x] { left:=l }=(Pv.Ck.both (({ left:=l }:Pv.Ck).iterates t false x.whole) (fun c=>c.iterates t true x.core),Pv.many x.whole,Pv.many x.core):=by unfold Pv.ctypes;simp[e,Pv.nth]
    rw[hq];exact(types_star_all t e x.whole x.core wb1 cb1 c bb k tb k1 ka cap l u t.name t.text t.back rv _ w hT hx hterm hs0 hx1 hw1 hc1 hbud hbb hH hHk hHc hc hl (by omega) (fun e=>n1 (e▸hHk)) (fun _=>d1.fw.both d1.mw) (fun _=>d1.fc.both d1.mc)).mono fun _ _ h=>h.weak
end Go.Proofs.YtamkfdlcdiadlaaGreatDoor
namespace Go.Proofs.YtamkfdlcdiadlaaGreatDoor
open _root_.Pv
theorem few6_of {r:R}(h:AllP Fr r):Few6 r:=fun l l1 A hb=>by obtain⟨_,hp,_⟩:=build_spec hb;rw[hp];exact Nat.le_trans (refine_few h) (by omega)
theorem kid_of {t:T}{l:Nat}{c:Ck}{x:C}(hg:CG t)(hs:tsize t<100000)(h:canonOf t { left:=l }=(c,some x)):Kid x:=by have ht:=types_good _ t (Nat.le_refl _) hg;rw[←(canonOf_types h).1]at ht;have h1:=ht.s1;have h2:=ht.s2;simp only at h1 h2;exact⟨by omega,few6_of ht.f1,few6_of ht.f2,few6_of (allP_many ht.f1),few6_of (allP_many ht.f2)⟩
theorem size_ctypes {t:T}{done:List C}{l:Nat}{c:Ck}{x y:R}(hg:CG t)(hd:∀C∈done,Kid C)(h:ctypes t done { left:=l }=((c,true),x,y)):Pv.size x<137438953472∧Pv.size y<137438953472:=by
 have hn:∀i,Pv.size (nth done i).1+Pv.size (nth done i).2<17179869184:=fun i=>by
  unfold nth;split
  ·rename_i C hC;exact(hd C (List.mem_of_getElem? hC)).sz
  ·decide
 have n0:=hn 0;have n1:=hn 1;rw[ctypes_eq]at h;simp only[Prod.mk.injEq]at h;have h2:=h.2;unfold tyEnd at h2;split at h2
 ·rename_i e;obtain⟨r,hr,hx,_⟩:=hg.leaf (.inl e);have:=size_exL r hx;rw[hr]at h2;simp only[Prod.mk.injEq,Option.getD_some]at h2;rw[←h2.1,←h2.2];omega
 ·split at h2
  ·rename_i e;obtain⟨r,hr,hx,_⟩:=hg.leaf (.inr e);have:=size_exL r hx;have:=size_txL _ hg.open_.2.2.2.1;rw[hr]at h2;simp only[Prod.mk.injEq,Option.getD_some]at h2;rw[←h2.1,←h2.2];omega
  ·split at h2
   ·simp only[Prod.mk.injEq]at h2;rw[←h2.1,←h2.2];have z1:=size_many (nth done 0).1;have z2:=size_many (nth done 0).2;omega
   ·have z1:=size_two (nth done 0).1 (nth done 1).1;have z2:=size_two (nth done 0).2 (nth done 1).2;split at h2 <;>
    ·simp only[Prod.mk.injEq]at h2;rw[←h2.1,←h2.2];omega
end Go.Proofs.YtamkfdlcdiadlaaGreatDoor
namespace Go.Proofs.YtamkfdlcdiadlaaGreatDoor
open Go.RowKit Go.Maps
variable {H:Nat→Prop}
end Go.Proofs.YtamkfdlcdiadlaaGreatDoor
namespace Pv
theorem conds_five {t:T}{k l:R × R}{L:Nat}(h:(conds t k l { left:=L }).1.fault.e=5):(conds t k l { left:=L }).1.fault={ e:=5 }:=by
 have h2:∀ {e:Nat} (_:e≠5) {v:Bool} {r:Nat × Option (Option Two)} {M:Nat},(({ left:=M }:Ck).two e t v r).1.fault.e=5→(({ left:=M }:Ck).two e t v r).1.fault={ e:=5 }:=by
  intro e he v r M h;obtain⟨l',_|_|w⟩:=r
  ·rfl
  ·cases h
  ·exact absurd h he
 have hb:∀ {a:Ck × Bool} {g:Ck→Ck × Bool},(a.2=true→a.1.fault={})→(a.1.fault.e=5→a.1.fault={ e:=5 })→(∀M,(g { left:=M }).1.fault.e=5→(g { left:=M }).1.fault={ e:=5 })→(Ck.both a g).1.fault.e=5→(Ck.both a g).1.fault={ e:=5 }:=by
  intro a g ha ha5 hg h;unfold Ck.both at h ⊢;split
  ·rename_i e;rw[if_pos e]at h;rw[Ck.eta (ha e)]at h ⊢;exact hg _ h
  ·rename_i e;rw[if_neg e]at h;exact ha5 h
 unfold conds at h ⊢;split
 ·rename_i e1;rw[if_pos e1]at h;cases h
 ·rename_i e1;rw[if_neg e1]at h;split
  ·rename_i e2;rw[if_pos e2]at h;cases hm:matchR t.text (t.re.getD nothing) with
   | true=>simp[Ck.within,Ck.ok,hm]at h
   | false=>simp[Ck.within,Ck.ok,hm,Ck.fail]at h
  ·rename_i e2;rw[if_neg e2]at h;split
   ·rename_i e3;rw[if_pos e3]at h;exact hb (fun h=>two_ok (r:=ambigIter k.1 L) h) (fun h=>h2 (by decide) (r:=ambigIter k.1 L) h) (fun M h=>h2 (by decide) (r:=ambigIter k.2 M) h) h
   ·rename_i e3;rw[if_neg e3]at h;split
    ·rename_i e4;rw[if_pos e4]at h;change (({ left:=L }:Ck).told 22 t false (shared k.1 l.1 L)).1.fault.e=5 at h;change (({ left:=L }:Ck).told 22 t false (shared k.1 l.1 L)).1.fault={ e:=5 };generalize shared k.1 l.1 L=r at h ⊢;obtain⟨l',_|_|w⟩:=r
     ·rfl
     ·cases h
     ·cases h
    ·rename_i e4;rw[if_neg e4]at h;exact hb (fun h=>two_ok (r:=ambigCat k.1 l.1 L) h) (fun h=>h2 (by decide) (r:=ambigCat k.1 l.1 L) h) (fun M h=>h2 (by decide) (r:=ambigCat k.2 l.2 M) h) h
theorem canonEnd_five {t:T}{kids:List C}{l:Nat}(h:(canonEnd t kids { left:=l }).1.fault.e=5):(canonEnd t kids { left:=l }).1.fault={ e:=5 }:=by
 cases hb:(conds t (nth kids 0) (nth kids 1) { left:=l }).2 with
 | false=>
   rw[canonEnd_false hb]at h ⊢;exact conds_five h
 | true=>
   have hs:∀(l:Nat) (r:R),(({ left:=l }:Ck).side r).1.fault={}∨(({ left:=l }:Ck).side r).1.fault={ e:=5 }:=fun l r=>by
    have hq:({ left:=l }:Ck).side r=(match Pv.side r l with|(l,none)=>(({ left:=l,fault:={ e:=5 } }:Ck),none)|(l,some s)=>(({ left:=l }:Ck),some s)):=rfl;rw[hq];generalize Pv.side r l=q;obtain⟨l',_|o⟩:=q
    ·exact .inr rfl
    ·exact .inl rfl
   have h0:=Ck.eta (conds_ok hb);unfold canonEnd at h ⊢;rw[ctypes_eq]at h ⊢;generalize conds t (nth kids 0) (nth kids 1) { left:=l }=q at h h0 hb ⊢;obtain⟨c,b⟩:=q;simp only at hb h0;subst hb;rw[h0]at h ⊢;simp only at h ⊢;generalize (tyEnd t (nth kids 0) (nth kids 1)).1=w at h ⊢;generalize (tyEnd t (nth kids 0) (nth kids 1)).2=k at h ⊢;generalize c.left=L at h ⊢
   have hk:((({ left:=L }:Ck).side w).1.side k).1.fault={}∨((({ left:=L }:Ck).side w).1.side k).1.fault={ e:=5 }:=by
    rcases hs L w with e|e
    ·rw[Ck.eta e];exact hs _ k
    ·right;generalize ({ left:=L }:Ck).side w=q at e ⊢;unfold Ck.side;rw[if_neg (by unfold Ck.ok;rw[e];decide)];exact e
   split at h <;>
   ·simp only at h;rcases hk with e|e
    ·rw[e]at h;cases h
    ·first|exact e|(split<;>exact e)
mutual
theorem canonOf_five:∀ {t:T} {L:Nat},CG t→(canonOf t { left:=L }).1.fault.e=5→(canonOf t { left:=L }).1.fault={ e:=5 }
 | .mk op a n r tx bk ks,L,hg,h=>by
   have ho:=hg.open_;have hk:CGs ks:=ho.2.2.2.2.2.2;have hsh:shapedOf op r.isSome ks.length=true:=ho.2.1;have hco:isCanonOp op=true:=ho.1;have hq:canonOf (.mk op a n r tx bk ks) { left:=L }=(match canonsOf ks { left:=L } with
    | (c,none)=>(c,none)
    | (c,some kids)=>canonEnd (.mk op a n r tx bk ks) kids c):=by
    rw[canonOf,hsh,hco];rfl
   have hn:=canonsOf_five (ts:=ks) (L:=L) hk;rw[hq]at h ⊢;rcases hc:canonsOf ks { left:=L } with⟨c,_|kids⟩
   ·rw[hc]at hn h;exact hn h
   ·rw[hc]at h;simp only at h ⊢;rw[Ck.eta (canonsOf_some hc)]at h ⊢;exact canonEnd_five h
theorem canonsOf_five:∀ {ts:List T} {L:Nat},CGs ts→(canonsOf ts { left:=L }).1.fault.e=5→(canonsOf ts { left:=L }).1.fault={ e:=5 }
 | [],L,_,h=>by cases h
 | t::ts,L,hg,h=>by
   unfold CGs at hg;have hn:=canonOf_five (L:=L) hg.1;unfold canonsOf at h ⊢;rcases hq:canonOf t { left:=L } with⟨c,_|k⟩
   ·rw[hq]at hn h;exact hn h
   ·have hcf:=canonOf_some hq;rw[hq]at h;simp only at h ⊢;rw[Ck.eta hcf]at h ⊢;have h4:=canonsOf_five (ts:=ts) (L:=c.left) hg.2;rcases hq2:canonsOf ts { left:=c.left } with⟨c2,_|l⟩
    ·rw[hq2]at h4 h;exact h4 h
    ·rw[hq2]at h4 h;exact h4 h
end
end Pv
