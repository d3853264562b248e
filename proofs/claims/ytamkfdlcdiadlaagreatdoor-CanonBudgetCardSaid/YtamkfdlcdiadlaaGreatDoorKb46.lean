/- canon.Make, whatever Canon answers. -/
import Derived.Test.YtamkfdlcdiadlaaGreatDoorKb05
import Derived.Test.YtamkfdlcdiadlaaGreatDoorKb45
import Derived.Test.YtamkfdlcdiadlaaGreatDoorKb34
import Derived.Test.YtamkfdlcdiadlaaGreatDoorKb41
import Derived.Test.YtamkfdlcdiadlaaGreatDoorKb04
import Derived.Test.YtamkfdlcdiadlaaGreatDoorKb01
import Derived.Test.YtamkfdlcdiadlaaGreatDoorKb12
import Derived.Test.YtamkfdlcdiadlaaGreatDoorKb33
import Derived.Test.YtamkfdlcdiadlaaGreatDoorKb44
import Derived.Test.YtamkfdlcdiadlaaGreatDoorKb36
import Derived.Test.YtamkfdlcdiadlaaGreatDoorKb40
set_option linter.all false
namespace Go.Proofs.YtamkfdlcdiadlaaGreatDoor
open Go.RowKit Go.Maps
variable {H:Nat→Prop}
def CanFB (f:Pv.Fault)(l s c bb:Nat)(w:World)(e:Ending)(w':World):Prop:=e = .returned (.pointer none)∧CkAt w' c bb f∧(∃u',BudAt w' bb l u'∧l+u'=s)∧Keep (askT c bb) w w'
def MakeFB (f:Pv.Fault)(l s bb:Nat)(w:World)(e:Ending)(w':World):Prop:=e = .returned (.tuple #[.pointer none,FV f])∧(∃u',BudAt w' bb l u'∧l+u'=s)∧Keep (· = bb) w w'
def CanOB (H:Nat→Prop)(C:Pv.C)(l s c bb:Nat)(w:World)(e:Ending)(w':World):Prop:=(∃k,e = .returned (Ptr k)∧CAt H w' C k∧w.heap.size≤k)∧CkAt w' c bb {}∧(∃u',BudAt w' bb l u'∧l+u'=s)∧Keep (askT c bb) w w'
def MakeOB (H:Nat→Prop)(C:Pv.C)(l s bb:Nat)(w:World)(e:Ending)(w':World):Prop:=(∃k,e = .returned (.tuple #[Ptr k,F0])∧CAt H w' C k∧w.heap.size≤k)∧(∃u',BudAt w' bb l u'∧l+u'=s)∧Keep (· = bb) w w'
set_option maxRecDepth 20000 in
theorem make_failB (f:Pv.Fault)(hfe:f.e≠0)(l s:Nat)(tv:Value)(bb:Nat)(w:World)
  (hc:∀w1 c,Below w.heap.size w w1→CkAt w1 c bb {}→w.heap.size<c→Calls Tryz.prog 57 #[Ptr c,tv] w1 (CanFB f l s c bb w1)) (hb:bb<w.heap.size):
  Calls Tryz.prog 14 #[tv,Ptr bb] w (MakeFB f l s bb w):=by
 have HC:=Hy hc;clear hc;go_enter Tryz.func14,Tryz.ntmps14;go_wp2_with fail;obtain⟨r,hr⟩:∃r,w.heap.size=r:=⟨_,rfl⟩
 obtain⟨w1,hw1⟩:∃w1,(w.alloc (.cells #[.int .i64 0,.int .i64 0,.int .i64 0,.bool false,Str [],.int .i64 0,.int .i64 0] 38)).alloc (.cells #[Ptr bb,.int .i64 0,.int .i64 0,.int .i64 0,.bool false,Str [],.int .i64 0,.int .i64 0] 117)=w1:=⟨_,rfl⟩
 have hb1:Below w.heap.size w w1:=by rw[←hw1];exact((Below.refl _ _).alloc (Nat.le_refl _) _).alloc (by simp) _
 have hr1:w1.heap[r]?=some (.cells #[.int .i64 0,.int .i64 0,.int .i64 0,.bool false,Str [],.int .i64 0,.int .i64 0] 38):=by rw[←hw1];exact blk_old (blk_new hr)
 have hc1:CkAt w1 (r+1) bb {}:=by rw[←hw1];exact blk_new (by simp;omega)
 rw[hw1,hr];clear hw1;have HCa:=Hy (HC.out w1 (r+1) hb1 hc1 (by omega));have HR1:=Hy hr1;have HB1:=Hy hb1;clear hb1 hr1 hc1 HC;refine HCa.out.mono ?_;rintro e w2 ⟨rfl,hc2,⟨u2,hb2,hu2⟩,hk2⟩;have hr2:=hk2.blk (by rintro(e|e)<;>omega) HR1.out;have hok:=ok_any (r+1) bb f w2 hc2;rw[show(f.e==0)=false by simpa using hfe]at hok;have HOk:=Hy hok;have HR2:=Hy hr2;have HC2:=Hy hc2;have HB2:=Hy hb2
 have HKw:=Hy ((Keep.of_below (H:=(· = bb)) HB1.out).trans_ hk2 fun x e=>by
  rcases e with e|e
  ·right;omega
  ·exact .inl e)
 clear hok hr2 hc2 hk2 HCa hb2;go_wp2_with fail;refine HOk.out.mono ?_;rintro e w3 ⟨rfl,e3⟩;subst e3;clear HOk;have nf:∀x,¬(fun _:Nat=>False) x:=fun _ h=>h
 have nr:=nf r;have nc:=nf (r+1);have c1:w2.cell? ⟨r+1,1,none⟩=some (.int .i64 (f.e:Int)):=cB (o:=1) HC2.out rfl;have c2:w2.cell? ⟨r+1,2,none⟩=some (.int .i64 (f.op:Int)):=cB (o:=2) HC2.out rfl;have c3:w2.cell? ⟨r+1,3,none⟩=some (.int .i64 f.at_):=cB (o:=3) HC2.out rfl;have c4:w2.cell? ⟨r+1,4,none⟩=some (.bool f.view):=cB (o:=4) HC2.out rfl
 have c5:w2.cell? ⟨r+1,5,none⟩=some (Str f.text):=cB (o:=5) HC2.out rfl;have c6:w2.cell? ⟨r+1,6,none⟩=some (.int .i64 f.i):=cB (o:=6) HC2.out rfl;have c7:w2.cell? ⟨r+1,7,none⟩=some (.int .i64 f.j):=cB (o:=7) HC2.out rfl;have x0:w2.cell? ⟨r,0,none⟩=some (.int .i64 0):=cB (o:=0) HR2.out rfl;have x1:w2.cell? ⟨r,1,none⟩=some (.int .i64 0):=cB (o:=1) HR2.out rfl
 have x2:w2.cell? ⟨r,2,none⟩=some (.int .i64 0):=cB (o:=2) HR2.out rfl;have x3:w2.cell? ⟨r,3,none⟩=some (.bool false):=cB (o:=3) HR2.out rfl;have x4:w2.cell? ⟨r,4,none⟩=some (Str []):=cB (o:=4) HR2.out rfl;have x5:w2.cell? ⟨r,5,none⟩=some (.int .i64 0):=cB (o:=5) HR2.out rfl;have x6:w2.cell? ⟨r,6,none⟩=some (.int .i64 0):=cB (o:=6) HR2.out rfl
 have fr:∀o,w2.frozen? ⟨r,o,none⟩=false:=fun o=>fob HR2.out
 go_wp2_with fail;refine Eag.region (.mov 0 (.mov 1 (.mov 2 (.mov 3 (.mov 4 (.anc 5 Eag.Sch.fin)))))) [5] (by kernel_rfl) (by kernel_rfl) (fun K ops hops hK => ?_);iterate 5
  refine Eag.mov hops rfl rfl (fun w' hb => ?_) ?_
  ·have q0:=later hb c1;have q1:=later hb c2;have q2:=later hb c3;have q3:=later hb c4;have q4:=later hb c5;have q5:=later hb c6;have q6:=later hb c7;clear hb;go_simp
  go_simp
 refine Eag.anc hops rfl rfl ?_;go_wp2_with fail;refine Eag.fin (hK _ _ ?_);clear hK hops;go_simp;go_wp2_with fail;clear x0 x1 x2 x3 x4 x5 x6 fr c1 c2 c3 c4 c5 c6 c7;have hst:=fl_set2 f HR2.out
 obtain⟨w4,hw4⟩:∃w4,(((((((w2.setCell ⟨r,0,none⟩ (.int .i64 (f.e:Int))).setCell ⟨r,1,none⟩ (.int .i64 (f.op:Int))).setCell ⟨r,2,none⟩ (.int .i64 f.at_)).setCell ⟨r,3,none⟩ (.bool f.view)).setCell ⟨r,4,none⟩ (Str f.text)).setCell ⟨r,5,none⟩ (.int .i64 f.i)).setCell ⟨r,6,none⟩ (.int .i64 f.j))=w4:=⟨_,rfl⟩
 rw[hw4]at hst ⊢;clear hw4;have hd4:w4.drew.heap[r]?=some (.cells (faultC f) 38):=hst.1;have x0:w4.drew.cell? ⟨r,0,none⟩=some (.int .i64 (f.e:Int)):=cB (o:=0) hd4 rfl;have x1:w4.drew.cell? ⟨r,1,none⟩=some (.int .i64 (f.op:Int)):=cB (o:=1) hd4 rfl;have x2:w4.drew.cell? ⟨r,2,none⟩=some (.int .i64 f.at_):=cB (o:=2) hd4 rfl;have x3:w4.drew.cell? ⟨r,3,none⟩=some (.bool f.view):=cB (o:=3) hd4 rfl
 have x4:w4.drew.cell? ⟨r,4,none⟩=some (Str f.text):=cB (o:=4) hd4 rfl;have x5:w4.drew.cell? ⟨r,5,none⟩=some (.int .i64 f.i):=cB (o:=5) hd4 rfl;have x6:w4.drew.cell? ⟨r,6,none⟩=some (.int .i64 f.j):=cB (o:=6) hd4 rfl
 refine bodyPost_ret (v:= .tuple #[.pointer none,FV f]) ?_ rfl ⟨rfl,⟨u2,(HB2.out.keep hst.2 (by omega)).keep (H:=fun _=>False) (Keep.drew _) (fun h=>h),hu2⟩,(HKw.out.trans_ hst.2 fun x e=> .inr (by omega)).trans (Keep.drew _)⟩;simp[results,Tryz.results14,go_sem,x0,x1,x2,x3,x4,x5,x6]
set_option maxRecDepth 20000 in
theorem make_okB (C:Pv.C)(l s:Nat)(tv:Value)(bb:Nat)(w:World)
  (hc:∀w1 c,Below w.heap.size w w1→CkAt w1 c bb {}→w.heap.size<c→Calls Tryz.prog 57 #[Ptr c,tv] w1 (CanOB (fun x=>H x∨x=w.heap.size∨x=c) C l s c bb w1)) (hb:bb<w.heap.size):
  Calls Tryz.prog 14 #[tv,Ptr bb] w (MakeOB H C l s bb w):=by
 have HC:=Hy hc;clear hc;go_enter Tryz.func14,Tryz.ntmps14;go_wp2_with fail;obtain⟨r,hr⟩:∃r,w.heap.size=r:=⟨_,rfl⟩
 obtain⟨w1,hw1⟩:∃w1,(w.alloc (.cells #[.int .i64 0,.int .i64 0,.int .i64 0,.bool false,Str [],.int .i64 0,.int .i64 0] 38)).alloc (.cells #[Ptr bb,.int .i64 0,.int .i64 0,.int .i64 0,.bool false,Str [],.int .i64 0,.int .i64 0] 117)=w1:=⟨_,rfl⟩
 have hb1:Below w.heap.size w w1:=by rw[←hw1];exact((Below.refl _ _).alloc (Nat.le_refl _) _).alloc (by simp) _
 have hr1:w1.heap[r]?=some (.cells #[.int .i64 0,.int .i64 0,.int .i64 0,.bool false,Str [],.int .i64 0,.int .i64 0] 38):=by rw[←hw1];exact blk_old (blk_new hr)
 have hc1:CkAt w1 (r+1) bb {}:=by rw[←hw1];exact blk_new (by simp;omega)
 rw[hw1,hr];clear hw1;have hca:=HC.out w1 (r+1) hb1 hc1 (by omega);have HCa:=Hy hca;have HR1:=Hy hr1;have HB1:=Hy hb1;have HC1:=Hy hc1;clear hca hb1 hr1 hc1 HC;refine HCa.out.mono ?_;rintro e w2 ⟨⟨k,rfl,hq2,hkw⟩,hc2,⟨u2,hb2,hu2⟩,hk2⟩;have hr2:=hk2.blk (by rintro(e|e)<;>omega) HR1.out;have hok:=ok_any (r+1) bb {} w2 hc2;have HOk:=Hy hok;have HR2:=Hy hr2;have HQ2:=Hy hq2;have HB2:=Hy hb2
 have HKw:=Hy ((Keep.of_below (H:=(· = bb)) HB1.out).trans_ hk2 fun x e=>by
  rcases e with e|e
  ·right;omega
  ·exact .inl e)
 clear hok hr2 hq2 hk2 HCa hb2 hc2;go_wp2_with fail;refine HOk.out.mono ?_;rintro e w3 ⟨rfl,e3⟩;subst e3;clear HOk;have x0:w2.cell? ⟨r,0,none⟩=some (.int .i64 0):=cB (o:=0) HR2.out rfl;have x1:w2.cell? ⟨r,1,none⟩=some (.int .i64 0):=cB (o:=1) HR2.out rfl;have x2:w2.cell? ⟨r,2,none⟩=some (.int .i64 0):=cB (o:=2) HR2.out rfl;have x3:w2.cell? ⟨r,3,none⟩=some (.bool false):=cB (o:=3) HR2.out rfl
 have x4:w2.cell? ⟨r,4,none⟩=some (Str []):=cB (o:=4) HR2.out rfl;have x5:w2.cell? ⟨r,5,none⟩=some (.int .i64 0):=cB (o:=5) HR2.out rfl;have x6:w2.cell? ⟨r,6,none⟩=some (.int .i64 0):=cB (o:=6) HR2.out rfl;have fr:∀o,w2.frozen? ⟨r,o,none⟩=false:=fun o=>fob HR2.out
 go_wp2_with fail;clear x0 x1 x2 x3 x4 x5 x6 fr;have hst:=fl_set HR2.out;obtain⟨w4,hw4⟩:∃w4,(((((((w2.setCell ⟨r,0,none⟩ (.int .i64 0)).setCell ⟨r,1,none⟩ (.int .i64 0)).setCell ⟨r,2,none⟩ (.int .i64 0)).setCell ⟨r,3,none⟩ (.bool false)).setCell ⟨r,4,none⟩ (Str [])).setCell ⟨r,5,none⟩ (.int .i64 0)).setCell ⟨r,6,none⟩ (.int .i64 0))=w4:=⟨_,rfl⟩
 rw[hw4]at hst ⊢;clear hw4;have x0:w4.cell? ⟨r,0,none⟩=some (.int .i64 0):=cB (o:=0) hst.1 rfl;have x1:w4.cell? ⟨r,1,none⟩=some (.int .i64 0):=cB (o:=1) hst.1 rfl;have x2:w4.cell? ⟨r,2,none⟩=some (.int .i64 0):=cB (o:=2) hst.1 rfl;have x3:w4.cell? ⟨r,3,none⟩=some (.bool false):=cB (o:=3) hst.1 rfl;have x4:w4.cell? ⟨r,4,none⟩=some (Str []):=cB (o:=4) hst.1 rfl
 have x5:w4.cell? ⟨r,5,none⟩=some (.int .i64 0):=cB (o:=5) hst.1 rfl;have x6:w4.cell? ⟨r,6,none⟩=some (.int .i64 0):=cB (o:=6) hst.1 rfl
 refine bodyPost_ret (v:= .tuple #[Ptr k,F0]) ?_ rfl ⟨⟨k,rfl,(CAt.keep hst.2 ⟨fun x e=> .inr (.inl (by rw[e,hr])),fun x e cs fr=>by rw[e];exact blk_ty HR2.out (by decide)⟩ HQ2.out).widen (fun x h=> .inl (.inl h)),by have:=HB1.out.size;omega⟩,⟨u2,HB2.out.keep hst.2 (by omega),hu2⟩,HKw.out.trans_ hst.2 fun x e=> .inr (by omega)⟩;simp[results,Tryz.results14,go_sem,x0,x1,x2,x3,x4,x5,x6]
def MkW (H:Nat→Prop)(q:Pv.Ck × Option Pv.C)(s bb:Nat)(w:World)(e:Ending)(w':World):Prop:=
 (match q.2 with|none=>e = .returned (.tuple #[.pointer none,FV q.1.fault])|some C=>∃k,e = .returned (.tuple #[Ptr k,F0])∧CAt H w' C k∧w.heap.size≤k)∧(∃u',BudAt w' bb q.1.left u'∧q.1.left+u'=s)∧Keep (· = bb) w w'
theorem make_all (P:Pv.R→Prop)(hP:∀r c,P r→P (Pv.by_ c r))(hPs:∀r,P r→Pv.size r≤300000)(G:Pv.T→Prop)
  (hG:∀t,G t→2≤t.op∧t.op≤17∧(∀r,t.re=some r→P r)∧t.text.length<549755813888∧∀x∈t.kids,G x) (hKid:∀t l c C,G t→Pv.canonOf t { left:=l }=(c,some C)→Kid C)
  (hSz:∀t done l c x y,G t→(∀C∈done,Kid C)→Pv.ctypes t done { left:=l }=((c,true),x,y)→Pv.size x<137438953472∧Pv.size y<137438953472)
  (hNo:∀t l,G t→(Pv.canonOf t { left:=l }).2=none→(Pv.canonOf t { left:=l }).1.fault.e≠0)
  (H:Nat→Prop) (t:Pv.T) (tb bb l u:Nat) (w:World) (hg:G t) (hat:TAt H w t tb) (hT:Tab w) (hbud:BudAt w bb l u) (hbb:H bb) (hH:∀h,H h→h<w.heap.size) (hlu:l+u<274877906944):
  Calls Tryz.prog 14 #[Ptr tb,Ptr bb] w (MkW H (Pv.canonOf t { left:=l }) (l+u) bb w):=by
 have hb:=hH bb hbb;have hno:=hNo t l hg;have hsome:=fun c C (h:Pv.canonOf t { left:=l }=(c,some C))=>Pv.canonOf_some h
 have hcall:∀w1 c,Below w.heap.size w w1→CkAt w1 c bb {}→w.heap.size<c→Calls Tryz.prog 57 #[Ptr c,Ptr tb] w1 (CanW (fun x=>H x∨x=w.heap.size∨x=c) c bb l u (Pv.canonOf t { left:=l }) w1):=fun w1 c hw1 hc1 hcl=>
  canon_all P hP hPs G hG hKid hSz _ (fun x=>H x∨x=w.heap.size∨x=c) t tb c bb l u w1 (Nat.le_refl _) hg ((hat.widen fun x e=>by
   rcases e with e|e|e
   ·exact .inl e
   ·exact .inr (by omega)
   ·exact .inr (by omega)).later hw1) (hT.later hw1) (hbud.later hw1) hc1 (.inl hbb) (.inr (.inr rfl)) (fun h e=>by
   have h1:=hw1.size;have h2:=blk_lt hc1;rcases e with e|e|e
   ·have:=hH h e;omega
   ·omega
   ·omega) hlu
 rcases hq:Pv.canonOf t { left:=l } with⟨c,_|C⟩
 ·rw[hq]at hcall hno;refine(make_failB c.fault (hno rfl) c.left (l+u) (Ptr tb) bb w (fun w1 cc h1 h2 h3=>(hcall w1 cc h1 h2 h3).mono ?_) hb).mono ?_
  ·rintro e w' ⟨h1,h2,h3,h4⟩;exact⟨h1,h2,h3,h4⟩
  ·rintro e w' ⟨h1,h2,h3⟩;exact⟨h1,h2,h3⟩
 ·rw[hq]at hcall;refine(make_okB (H:=H) C c.left (l+u) (Ptr tb) bb w (fun w1 cc h1 h2 h3=>(hcall w1 cc h1 h2 h3).mono ?_) hb).mono ?_
  ·rintro e w' ⟨h1,h2,h3,h4⟩;have hcf:=hsome _ _ hq;rw[hcf]at h2;exact⟨h1,h2,h3,h4⟩
  ·rintro e w' ⟨h1,h2,h3⟩;exact⟨h1,h2,h3⟩
end Go.Proofs.YtamkfdlcdiadlaaGreatDoor
namespace Go.Proofs.YtamkfdlcdiadlaaGreatDoor
open _root_.Pv
def clos:Nat→List R→List R→List R
 | 0,_,acc=>acc
 | n+1,todo,acc=>match todo with
   | []=>acc
   | r::rest=>if inL acc r then clos n rest acc else clos n (rest++([97,98,99,59,120].map fun c=>by_ c r)) (acc++[r])
def exC:List R:=clos 300 exL []
theorem exC_closed:closedL exC=true:=by decide +kernel
theorem exC_size':(exC.all fun r=>decide (size r≤100))=true:=by decide +kernel
theorem exC_size:∀r∈exC,size r≤100:=fun r hr=>by simpa using List.all_eq_true.1 exC_size' r hr
theorem exL_sub':(exL.all fun r=>inL exC r)=true:=by decide +kernel
theorem exL_sub:∀r∈exL,r∈exC:=fun r hr=>inL_mem (List.all_eq_true.1 exL_sub' r hr)
end Go.Proofs.YtamkfdlcdiadlaaGreatDoor
namespace Go.Proofs.YtamkfdlcdiadlaaGreatDoor
open Go.RowKit Go.Maps
theorem mkc_any (H:Nat→Prop)(t:Pv.T)(tb bb l u:Nat)(w:World)(hg:Pv.CG t)(hz:Pv.tsize t<100000)(hat:TAt H w t tb)(hT:Tab w)(hbud:BudAt w bb l u)(hbb:H bb)(hH:∀h,H h→h<w.heap.size)(hlu:l+u<274877906944):
  Calls Tryz.prog 14 #[Ptr tb,Ptr bb] w (MkW H (Pv.canonOf t { left:=l }) (l+u) bb w):=
 make_all (· ∈ exC) (fun r c hr=>Pv.closedL_by exC_closed c hr) (fun r hr=>by have:=exC_size r hr;omega) (fun t=>Pv.CG t∧Pv.tsize t<100000)
  (fun t h=>by have ho:=h.1.open_;have h5:=h.1.op5;have h6:=Pv.len_txL _ ho.2.2.2.1;have h7:=tsize_eq t;refine⟨by omega,by omega,fun r hr=>exL_sub r (ho.2.2.1 r hr),by omega,fun x hx=>⟨ho.2.2.2.2.2.2.mem x hx,?_⟩⟩;obtain⟨i,hi,rfl⟩:=List.getElem_of_mem hx;have:=Pv.tsizes_get hi;have:=h.2;omega)
  (fun t l c C h hc=>kid_of h.1 h.2 hc) (fun t done l c x y h hd hc=>size_ctypes h.1 hd hc) (fun t l h hn=>Pv.canonOf_bad h.1 hn) H t tb bb l u w ⟨hg,hz⟩ hat hT hbud hbb hH hlu
end Go.Proofs.YtamkfdlcdiadlaaGreatDoor
namespace Pv
theorem five_none {t:T}{N:Nat}(hg:CG t)(h:(canonOf t { left:=N }).1.fault.e=5):(canonOf t { left:=N }).1.fault={ e:=5 }∧(canonOf t { left:=N }).2=none:=by
 refine⟨canonOf_five hg h,?_⟩;rcases hq:canonOf t { left:=N } with⟨c,_|x⟩
 ·rfl
 ·have:=canonOf_some hq;rw[hq]at h;simp only at h;rw[this]at h;cases h
theorem some_iff {t:T}{N:Nat}(hg:CG t):((canonOf t { left:=N }).2=none∧(canonOf t { left:=N }).1.fault.e≠0)∨(∃x,(canonOf t { left:=N }).2=some x∧(canonOf t { left:=N }).1.fault={}):=by
 rcases hq:canonOf t { left:=N } with⟨c,_|x⟩
 ·left;have:=canonOf_bad (L:=N) hg;rw[hq]at this;exact⟨rfl,this rfl⟩
 ·exact .inr ⟨x,rfl,canonOf_some hq⟩
end Pv
namespace Go.Proofs.YtamkfdlcdiadlaaGreatDoor
open Go.RowKit Go.Maps
open _root_.Pv (P10)
theorem bits16 (n:Int):∃m:Nat,bits BinOp.and IntKind.i64 n 65535=(m:Int)∧m≤65535:=by
 refine⟨(BitVec.ofInt 64 n &&& 65535).toNat,?_,?_⟩
 ·show IntKind.i64.wrap ((BitVec.ofInt 64 n &&& BitVec.ofInt 64 65535).toNat:Int)=_;have e:BitVec.ofInt 64 65535=65535:=rfl;rw[e];have h:(BitVec.ofInt 64 n &&& 65535).toNat≤65535:=by rw[BitVec.toNat_and];have h1:(65535:BitVec 64).toNat=2 ^ 16-1:=rfl;rw[h1,Nat.and_two_pow_sub_one_eq_mod];omega
  generalize (BitVec.ofInt 64 n &&& 65535).toNat=z at *;rw[IntKind.wrap_i64]<;>omega
 ·rw[BitVec.toNat_and];have h1:(65535:BitVec 64).toNat=2 ^ 16-1:=rfl;rw[h1,Nat.and_two_pow_sub_one_eq_mod];omega
theorem mkw_open {H:Nat→Prop}{q:Pv.Ck × Option Pv.C}{s bb:Nat}{w w':World}{e:Ending}(hf:∀x,q.2=some x→q.1.fault={})(h:MkW H q s bb w e w'):
  ∃cv,e = .returned (.tuple #[cv,FV q.1.fault])∧((q.2=none∧cv = .pointer none)∨(∃x k,q.2=some x∧cv=Ptr k))∧(∃u',BudAt w' bb q.1.left u'∧q.1.left+u'=s)∧Keep (· = bb) w w':=by
 obtain⟨h1,h2,h3⟩:=h;rcases q with⟨c,_|x⟩
 ·exact⟨_,h1,.inl ⟨rfl,rfl⟩,h2,h3⟩
 ·obtain⟨k,e1,_⟩:=h1;refine⟨Ptr k,?_,.inr ⟨x,k,rfl,rfl⟩,h2,h3⟩;rw[hf x rfl];exact e1
set_option maxRecDepth 20000 in
set_option maxHeartbeats 4000000 in
theorem budget_law (p:P10)(v:Value)(less:Int)(w:World)(hT:Tab w)(hv:PlV w p v):Calls Tryz.prog 3 #[v,.int .i64 less] w fun e w'=>e = .returned (.bool true)∧Below w.heap.size w w':=by
 have HV:=Hy hv;obtain⟨a,c,b',o',rfl,ha,hkl,hks⟩:=hv;have HT:=Hy hT;clear ha hks hT;go_enter Tryz.func3,Tryz.ntmps3;go_wp2_with fail;obtain⟨pb,hpb⟩:∃n,w.heap.size=n:=⟨_,rfl⟩
 obtain⟨w0,hw0⟩:∃w1,w.alloc (.cells #[.int .i64 p.op,.int .i64 p.w,.int .i64 p.n,.slice a p.kids.length c] 24)=w1:=⟨_,rfl⟩
 have hb0:Below w.heap.size w w0:=by rw[←hw0];exact(Below.refl _ _).alloc (Nat.le_refl _) _
 have hp0:w0.heap[pb]?=some (.cells #[.int .i64 p.op,.int .i64 p.w,.int .i64 p.n,.slice a p.kids.length c] 24):=by rw[←hw0];exact blk_new hpb
 rw[hpb,hw0];clear hw0 hpb;refine(head_any w0 (HT.out.later hb0)).mono ?_;rintro e w1 ⟨rfl,hk1⟩;have hb01:Below w0.heap.size w0 w1:=hk1.below (Nat.le_refl _) (fun _ h=>h.elim);have hp1:=later_blk hb01 hp0;have HB:=Hy (hb0.trans (hb01.mono hb0.size));have HP:=Hy hp1;have p0:w1.cell? ⟨pb,0,none⟩=some (.int .i64 p.op):=cB (o:=0) hp1 rfl
 have p1:w1.cell? ⟨pb,1,none⟩=some (.int .i64 p.w):=cB (o:=1) hp1 rfl;have p2:w1.cell? ⟨pb,2,none⟩=some (.int .i64 p.n):=cB (o:=2) hp1 rfl;have p3:w1.cell? ⟨pb,3,none⟩=some (.slice a p.kids.length c):=cB (o:=3) hp1 rfl;clear hk1 hb01 hp1 hb0 hp0;go_wp2_with fail;have hfew:=fewK_any p _ w1 (HV.out.later HB.out);by_cases hf:P10.cntK p 0≤10
 ·rw[decide_eq_true hf]at hfew;have HFew:=Hy hfew;have hn10:P10.nodes p≤10:=Nat.le_trans (P10.nodesK_le p 0 (by omega)) hf;clear hfew p0 p1 p2 p3 hf;refine HFew.out.mono ?_;rintro e w2 ⟨rfl,hb2⟩;replace HP:=Hy (later_blk hb2 HP.out);replace HB:=Hy (HB.out.trans (hb2.mono HB.out.size));clear hb2 HFew;go_upto_region 6 with fail
  obtain⟨ab,hab⟩:∃n,w2.heap.size=n:=⟨_,rfl⟩
  obtain⟨w3,hw3⟩:∃w3,w2.alloc (.cells #[.int .i64 0] 3)=w3:=⟨_,rfl⟩
  have hb3:Below w2.heap.size w2 w3:=by rw[←hw3];exact(Below.refl _ _).alloc (Nat.le_refl _) _
  have hx3:CtAt w3 ab 0:=by rw[←hw3];exact blk_new hab
  rw[hab,hw3];clear hw3;have hwab:w.heap.size≤ab:=by have:=HB.out.size;omega
  replace HP:=Hy (later_blk hb3 HP.out);replace HB:=Hy (HB.out.trans (hb3.mono HB.out.size));have HX3:=Hy hx3;clear hb3 hx3;have p0:w3.cell? ⟨pb,0,none⟩=some (.int .i64 p.op):=cB (o:=0) HP.out rfl;have p1:w3.cell? ⟨pb,1,none⟩=some (.int .i64 p.w):=cB (o:=1) HP.out rfl;have p2:w3.cell? ⟨pb,2,none⟩=some (.int .i64 p.n):=cB (o:=2) HP.out rfl
  have p3:w3.cell? ⟨pb,3,none⟩=some (.slice a p.kids.length c):=cB (o:=3) HP.out rfl;go_wp2_with fail;clear p0 p1 p2 p3;refine(make17_any (H:=(· = ab)) p _ ab 0 w3 (HV.out.later HB.out) HX3.out rfl (fun h e=>by rw[e];exact blk_lt HX3.out) (by omega)).mono ?_;rintro e w4 ⟨t,tb,hi,rfl,hg,hats,hsz,hat,_,_,hk4⟩;have hz:Pv.tsize t<100000:=by have:=needN_le p;omega
  have HG:=Hy hg;have HAts:=Hy hats;have HZ:=Hy hz;have HA:=Hy (hat.widen (H':=fun _=>False) fun _ h=>h.elim);replace HB:=Hy (HB.out.trans (hk4.below HB.out.size fun x e=>by rw[e];exact hwab));clear hg hats hsz hat hk4 HP HX3 hwab hz;go_wp2_with fail;have HEn:=Hy (enough17_any _ (fun _=>False) t tb w4 (Nat.le_refl _) HZ.out HG.out HA.out (HT.out.later HB.out) (fun _ h=>h.elim))
  refine HEn.out.mono ?_;rintro e w4b ⟨n,b,rfl,hb,hn,hnB,hbb⟩;replace HA:=Hy (HA.out.later hbb);replace HB:=Hy (HB.out.trans (hbb.mono HB.out.size));clear hbb HEn;cases ho:Pv.enoughOf t with
  | none=>
    rw[ho]at hb;subst hb;clear hn;go_wp2_with fail;go_ret;exact⟨rfl,HB.out⟩
  | some N=>
    rw[ho]at hb;subst hb;have e:=hn N ho;subst e;have hn0:n<54330000000:=by have:=HZ.out;omega
    have hn0':(n:Int)<54330000000:=by omega
    have p1:=(Pv.canonOf_fed HG.out ho (Nat.le_refl n)).1;have p2:=(Pv.canonOf_fed (L:=2*n) HG.out ho (by omega)).1;have p3:=Pv.some_iff (t:=t) (N:=n) HG.out;have p4:=Pv.canon_same HG.out ho p2
    have p5:∀m,((Pv.canonOf t { left:=m }).1.fault.e=5∧(Pv.canonOf t { left:=m }).1.fault={ e:=5 }∧(Pv.canonOf t { left:=m }).2=none)∨((Pv.canonOf t { left:=m }).1.fault.e≠5∧(Pv.canonOf t { left:=m }).1.fault=(Pv.canonOf t { left:=n }).1.fault∧((Pv.canonOf t { left:=m }).2=none↔(Pv.canonOf t { left:=n }).2=none)):=fun m=>by
     by_cases h5:(Pv.canonOf t { left:=m }).1.fault.e=5
     ·have:=Pv.five_none HG.out h5;exact .inl ⟨h5,this.1,this.2⟩
     ·have h6:=Pv.canon_same HG.out ho h5;refine .inr ⟨h5,h6,?_⟩;rcases p3 with⟨a1,a2⟩|⟨x,a1,a2⟩<;>rcases Pv.some_iff (t:=t) (N:=m) HG.out with⟨b1,b2⟩|⟨y,b1,b2⟩
      ·rw[a1,b1]
      ·rw[b2]at h6;exact absurd (by rw[←h6]) a2
      ·rw[a2]at h6;exact absurd (by rw[h6]) b2
      ·rw[a1,b1];simp
    have HP1:=Hy p1;have HP3:=Hy p3;have HP4:=Hy p4;have HP5:=Hy p5;clear hn ho p1 p2 p3 p4 p5 hnB;go_wp2_with fail;refine(grant_any n (by omega) w4b).mono ?_;rintro e wg1 ⟨rfl,hg,hb,hz⟩;obtain⟨b1,hb1⟩:∃n,w4b.heap.size=n:=⟨_,rfl⟩
    rw[hb1]at hg hz ⊢;have hA:TAt (· = b1) wg1 t tb:=(HA.out.widen (H':=(· = b1)) fun x e=> .inr (by rw[e];omega)).later hb;have hwb1:w.heap.size≤b1:=by have:=HB.out.size;omega
    replace HB:=Hy (HB.out.trans (hb.mono HB.out.size));have HMk:=Hy ((mkc_any (· = b1) t tb b1 n 0 wg1 HG.out HZ.out hA (HT.out.later HB.out) hg rfl (fun h e=>by rw[e];exact hz) (by omega)).mono fun e w' h=>mkw_open (fun x hx=>Pv.canonOf_some (Prod.ext rfl hx)) h);have HA1:=Hy hA;clear hg hb hA;obtain⟨q1,hq1⟩:∃q,Pv.canonOf t { left:=n }=q:=⟨_,rfl⟩
    rw[hq1]at HMk HP1 HP3 HP4 HP5;go_wp2_with fail;refine HMk.out.mono ?_;rintro e wm1 ⟨cv1,rfl,hcv1,⟨u1,hbu,hus⟩,hk⟩;have hu1:u1≤n:=by omega
    have hszm1:=hk.size;replace HA:=Hy ((HA1.out.keep hk).widen (H':=fun _=>False) fun _ h=>h.elim);replace HB:=Hy (HB.out.trans (hk.below HB.out.size fun x e=>by rw[e];exact hwb1));have HU1:=Hy hbu;have HCv1:=Hy hcv1;clear hk hbu hus hcv1 HMk HA1;go_upto_region 12 with fail
    obtain⟨f1,hf1⟩:∃n,wm1.heap.size=n:=⟨_,rfl⟩
    obtain⟨w5,hnw⟩:∃W,wm1.alloc (.cells (faultC q1.1.fault) 38)=W:=⟨_,rfl⟩
    have hbn:Below wm1.heap.size wm1 w5:=by rw[←hnw];exact(Below.refl _ _).alloc (Nat.le_refl _) _
    have hfn:w5.heap[f1]?=some (.cells (faultC q1.1.fault) 38):=by rw[←hnw];exact blk_new hf1
    rw[hf1,hnw];clear hnw;replace HA:=Hy (HA.out.later hbn);replace HB:=Hy (HB.out.trans (hbn.mono HB.out.size));replace HU1:=Hy (HU1.out.later hbn);have HF1:=Hy hfn;have hszn1:=hbn.size;clear hbn hfn;have hb1l:=blk_lt HU1.out.2;have hf1l:=blk_lt HF1.out;have hw2n:IntKind.i64.wrap (2*(n:Int))=2*(n:Int):=by rw[IntKind.wrap_i64]<;>omega
    go_wp2_with fail;rw[show(2*(n:Int))=((2*n:Nat):Int) by omega];refine(grant_any (2*n) (by omega) w5).mono ?_;rintro e wg2 ⟨rfl,hg,hb,hz⟩;obtain⟨b2,hb2⟩:∃n,w5.heap.size=n:=⟨_,rfl⟩
    rw[hb2]at hg hz ⊢;have hA:TAt (· = b2) wg2 t tb:=(HA.out.widen (H':=(· = b2)) fun x e=> .inr (by rw[e];omega)).later hb;have hwb2:w.heap.size≤b2:=by have:=HB.out.size;omega
    replace HB:=Hy (HB.out.trans (hb.mono HB.out.size));replace HU1:=Hy (HU1.out.later hb);replace HF1:=Hy (later_blk hb HF1.out);have HMk:=Hy ((mkc_any (· = b2) t tb b2 (2*n) 0 wg2 HG.out HZ.out hA (HT.out.later HB.out) hg rfl (fun h e=>by rw[e];exact hz) (by omega)).mono fun e w' h=>mkw_open (fun x hx=>Pv.canonOf_some (Prod.ext rfl hx)) h);have HA2:=Hy hA;clear hg hb hA
    obtain⟨q2,hq2⟩:∃q,Pv.canonOf t { left:=2*n }=q:=⟨_,rfl⟩
    rw[hq2]at HMk HP4;go_wp2_with fail;refine HMk.out.mono ?_;rintro e wm2 ⟨cv2,rfl,hcv2,⟨u2,hbu,hus⟩,hk⟩;have hu2:u2≤2*n:=by omega
    have hszm2:=hk.size;replace HA:=Hy ((HA2.out.keep hk).widen (H':=fun _=>False) fun _ h=>h.elim);replace HB:=Hy (HB.out.trans (hk.below HB.out.size fun x e=>by rw[e];exact hwb2));have HU2:=Hy hbu;have hne12:¬b1=b2:=by omega
    have hnf12:¬f1=b2:=by omega
    replace HU1:=Hy (HU1.out.keep hk hne12);replace HF1:=Hy (hk.blk hnf12 HF1.out);have HCv2:=Hy hcv2;clear hk hbu hus hcv2 HMk HA2;go_upto_region 13 with fail
    obtain⟨f2,hf2⟩:∃n,wm2.heap.size=n:=⟨_,rfl⟩
    obtain⟨w6,hnw⟩:∃W,wm2.alloc (.cells (faultC q2.1.fault) 38)=W:=⟨_,rfl⟩
    have hbn:Below wm2.heap.size wm2 w6:=by rw[←hnw];exact(Below.refl _ _).alloc (Nat.le_refl _) _
    have hfn:w6.heap[f2]?=some (.cells (faultC q2.1.fault) 38):=by rw[←hnw];exact blk_new hf2
    rw[hf2,hnw];clear hnw;replace HA:=Hy (HA.out.later hbn);replace HB:=Hy (HB.out.trans (hbn.mono HB.out.size));replace HU2:=Hy (HU2.out.later hbn);replace HU1:=Hy (HU1.out.later hbn);replace HF1:=Hy (later_blk hbn HF1.out);have HF2:=Hy hfn;have hszn2:=hbn.size;clear hbn hfn;have hb2l:=blk_lt HU2.out.2;have hf2l:=blk_lt HF2.out;obtain⟨m,hm,hm16⟩:=bits16 less
    have hwn1:IntKind.i64.wrap ((n:Int)+1)=((n+1:Nat):Int):=by rw[IntKind.wrap_i64]<;>omega
    have hmod:(m:Int).tmod ((n+1:Nat):Int)=((m % (n+1):Nat):Int):=rfl;have hne0:¬((n+1:Nat):Int)=0:=by omega
    go_upto_region 14 with fail
    rw[show(m:Int) % ((n:Int)+1)=((m % (n+1):Nat):Int) by simp];obtain⟨K,hK⟩:∃K,m % (n+1)=K:=⟨_,rfl⟩
    have hKn:K≤n:=by have:=Nat.mod_lt m (show 0<n+1 by omega);omega
    rw[hK];clear hm hmod hne0 hwn1 hw2n;have p5:=HP5.out K;have HP6:=Hy p5;clear p5 HP5;go_wp2_with fail;refine(grant_any K (by omega) w6).mono ?_;rintro e wg3 ⟨rfl,hg,hb,hz⟩;obtain⟨b3,hb3⟩:∃n,w6.heap.size=n:=⟨_,rfl⟩
    rw[hb3]at hg hz ⊢;have hA:TAt (· = b3) wg3 t tb:=(HA.out.widen (H':=(· = b3)) fun x e=> .inr (by rw[e];omega)).later hb;have hwb3:w.heap.size≤b3:=by have:=HB.out.size;omega
    replace HB:=Hy (HB.out.trans (hb.mono HB.out.size));replace HU1:=Hy (HU1.out.later hb);replace HF1:=Hy (later_blk hb HF1.out);replace HU2:=Hy (HU2.out.later hb);replace HF2:=Hy (later_blk hb HF2.out)
    have HMk:=Hy ((mkc_any (· = b3) t tb b3 (K) 0 wg3 HG.out HZ.out hA (HT.out.later HB.out) hg rfl (fun h e=>by rw[e];exact hz) (by omega)).mono fun e w' h=>mkw_open (fun x hx=>Pv.canonOf_some (Prod.ext rfl hx)) h);have HA3:=Hy hA;clear hg hb hA;obtain⟨q3,hq3⟩:∃q,Pv.canonOf t { left:=K }=q:=⟨_,rfl⟩
    rw[hq3]at HMk HP6;go_wp2_with fail;refine HMk.out.mono ?_;rintro e wm3 ⟨cv3,rfl,hcv3,⟨u3,hbu,hus⟩,hk⟩;have hu3:u3≤K:=by omega
    have hszm3:=hk.size;replace HA:=Hy ((HA3.out.keep hk).widen (H':=fun _=>False) fun _ h=>h.elim);replace HB:=Hy (HB.out.trans (hk.below HB.out.size fun x e=>by rw[e];exact hwb3));have HU3:=Hy hbu;have hne13:¬b1=b3:=by omega
    have hnf13:¬f1=b3:=by omega
    replace HU1:=Hy (HU1.out.keep hk hne13);replace HF1:=Hy (hk.blk hnf13 HF1.out);have hne23:¬b2=b3:=by omega
    have hnf23:¬f2=b3:=by omega
    replace HU2:=Hy (HU2.out.keep hk hne23);replace HF2:=Hy (hk.blk hnf23 HF2.out);have HCv3:=Hy hcv3;clear hk hbu hus hcv3 HMk HA3;go_upto_region 16 with fail
    obtain⟨f3,hf3⟩:∃n,wm3.heap.size=n:=⟨_,rfl⟩
    obtain⟨w7,hnw⟩:∃W,wm3.alloc (.cells (faultC q3.1.fault) 38)=W:=⟨_,rfl⟩
    have hbn:Below wm3.heap.size wm3 w7:=by rw[←hnw];exact(Below.refl _ _).alloc (Nat.le_refl _) _
    have hfn:w7.heap[f3]?=some (.cells (faultC q3.1.fault) 38):=by rw[←hnw];exact blk_new hf3
    rw[hf3,hnw];clear hnw;replace HA:=Hy (HA.out.later hbn);replace HB:=Hy (HB.out.trans (hbn.mono HB.out.size));replace HU3:=Hy (HU3.out.later hbn);replace HU1:=Hy (HU1.out.later hbn);replace HF1:=Hy (later_blk hbn HF1.out);replace HU2:=Hy (HU2.out.later hbn);replace HF2:=Hy (later_blk hbn HF2.out);have HF3:=Hy hfn;have hszn3:=hbn.size;clear hbn hfn;have hF2:=HF2.out;rw[HP4.out]at hF2
    replace HF2:=Hy hF2;have hus1:=used_any b1 _ u1 w7 HU1.out;have hus3:=used_any b3 _ u3 w7 HU3.out;obtain⟨F,hF⟩:∃F,q1.1.fault=F:=⟨_,rfl⟩
    rw[hF]at HF1 HF2 HP1 HP3 HP6;have hag:∀W,Calls Tryz.prog 16 #[FV F,FV F] W fun e w'=>e = .returned (.bool true)∧Below W.heap.size W w':=fun W=>agree_same F W
    have HAg:=Hy hag;have HUs1:=Hy hus1;have HUs3:=Hy hus3;clear hF2 hag hus1 hus3;have e5:((F.e:Int)==5)=false:=by have:=HP1.out;simp;omega
    have d5:decide ((F.e:Int)=5)=false:=decide_eq_false (by have:=HP1.out;omega);have g1:decide ((n:Int)<(u1:Int))=false:=decide_eq_false (by omega);have g3:decide ((K:Int)<(u3:Int))=false:=decide_eq_false (by omega);obtain⟨y0,y1,y2,y3,y4,y5,y6,yf⟩:=fl_cells HF1.out;obtain⟨z0,z1,z2,z3,z4,z5,z6,zf⟩:=fl_cells HF2.out;have hc:(F={}∧(∃k,cv1=Ptr k)∧q1.2≠none)∨(F.e≠0∧cv1 = .pointer none∧q1.2=none):=by
     rcases HP3.out with⟨a1,a2⟩|⟨x,a1,a2⟩<;>rcases HCv1.out with⟨c1,c2⟩|⟨y,k,c1,c2⟩
     ·exact .inr ⟨a2,c2,a1⟩
     ·rw[a1]at c1;cases c1
     ·rw[a1]at c1;cases c1
     ·exact .inl ⟨a2,⟨k,c2⟩,by rw[a1];simp⟩
    have hd:(q3.1.fault={ e:=5 }∧cv3 = .pointer none)∨(q3.1.fault=F∧((cv3 = .pointer none∧q1.2=none)∨(∃k,cv3=Ptr k)∧q1.2≠none)):=by
     rcases HP6.out with⟨a1,a2,a3⟩|⟨a1,a2,a3⟩<;>rcases HCv3.out with⟨c1,c2⟩|⟨y,k,c1,c2⟩
     ·exact .inl ⟨a2,c2⟩
     ·rw[a3]at c1;cases c1
     ·exact .inr ⟨a2,.inl ⟨c2,a3.1 c1⟩⟩
     ·refine .inr ⟨a2,.inr ⟨⟨k,c2⟩,fun h => ?_⟩⟩;rw[a3.2 h]at c1;cases c1
    have HC:=Hy hc;have HD:=Hy hd;clear hc hd HP1 HP3 HP4 HP6 HCv1 HCv2 HCv3 HU1 HU2 HU3 hF;rcases HC.out with⟨f0,⟨k1,rfl⟩,hqs⟩|⟨f0,rfl,hqn⟩
    ·subst f0;have HQs:=Hy hqs;clear hqs HC;go_wp2_with fail;refine HUs1.out.mono ?_;rintro e wu ⟨rfl,rfl⟩;go_wp2_with fail;refine HUs3.out.mono ?_;rintro e wu ⟨rfl,rfl⟩;go_wp2_with fail;refine(HAg.out _).mono ?_;rintro e w8 ⟨rfl,hb8⟩;have HB8:=Hy (HB.out.trans (hb8.mono HB.out.size));have HF13:=Hy (later_blk hb8 HF1.out);have HF33:=Hy (later_blk hb8 HF3.out)
     clear hb8 y0 y1 y2 y3 y4 y5 y6 yf z0 z1 z2 z3 z4 z5 z6 zf HF1 HF2 HF3;clear HV hkl HT hn10 hab HG HAts HZ hn0 hn0' hb1 hwb1 hq1 hszm1 hf1 hszn1 hb1l hf1l hb2 hwb2 hq2 hu2 hszm2 hne12 hnf12 hf2 hszn2 hb2l hf2l hm16 hK hKn hz hb3 hwb3 hq3 hszm3 hne13 hnf13 hne23 hnf23 hf3 HA HB hszn3 HUs1 HUs3;obtain⟨y0,y1,y2,y3,y4,y5,y6,yf⟩:=fl_cells HF13.out;rcases HD.out with⟨g5,rfl⟩|⟨gF,hcv⟩
     ·have hF3:=HF33.out;rw[g5]at hF3;obtain⟨z0,z1,z2,z3,z4,z5,z6,zf⟩:=fl_cells hF3;clear hF3 g5 HD;go_wp2_with fail;go_ret;exact⟨rfl,HB8.out⟩
     ·have hF3:=HF33.out;rw[gF]at hF3;obtain⟨z0,z1,z2,z3,z4,z5,z6,zf⟩:=fl_cells hF3;clear hF3 gF HD;rcases hcv with⟨_,h⟩|⟨⟨k3,rfl⟩,_⟩
      ·exact absurd h HQs.out
      go_wp2_with fail;refine(HAg.out _).mono ?_;rintro e w9 ⟨rfl,hb9⟩;have HB9:=Hy (HB8.out.trans (hb9.mono HB8.out.size));clear hb9 y0 y1 y2 y3 y4 y5 y6 yf z0 z1 z2 z3 z4 z5 z6 zf;go_wp2_with fail;go_ret;exact⟨rfl,HB9.out⟩
    ·have e0:((F.e:Int)==0)=false:=by simp;omega
     have e0':((F.e:Int)!=0)=true:=by simp;omega
     have d0:decide ((F.e:Int)=0)=false:=decide_eq_false (by omega);have HQs:=Hy hqn;clear hqn HC f0;go_wp2_with fail;refine HUs1.out.mono ?_;rintro e wu ⟨rfl,rfl⟩;go_wp2_with fail;refine HUs3.out.mono ?_;rintro e wu ⟨rfl,rfl⟩;go_wp2_with fail;refine(HAg.out _).mono ?_;rintro e w8 ⟨rfl,hb8⟩;have HB8:=Hy (HB.out.trans (hb8.mono HB.out.size));have HF13:=Hy (later_blk hb8 HF1.out)
     have HF33:=Hy (later_blk hb8 HF3.out);clear hb8 y0 y1 y2 y3 y4 y5 y6 yf z0 z1 z2 z3 z4 z5 z6 zf HF1 HF2 HF3;clear HV hkl HT hn10 hab HG HAts HZ hn0 hn0' hb1 hwb1 hq1 hszm1 hf1 hszn1 hb1l hf1l hb2 hwb2 hq2 hu2 hszm2 hne12 hnf12 hf2 hszn2 hb2l hf2l hm16 hK hKn hz hb3 hwb3 hq3 hszm3 hne13 hnf13 hne23 hnf23 hf3 HA HB hszn3 HUs1 HUs3;obtain⟨y0,y1,y2,y3,y4,y5,y6,yf⟩:=fl_cells HF13.out
     rcases HD.out with⟨g5,rfl⟩|⟨gF,hcv⟩
     ·have hF3:=HF33.out;rw[g5]at hF3;obtain⟨z0,z1,z2,z3,z4,z5,z6,zf⟩:=fl_cells hF3;clear hF3 g5 HD;go_wp2_with fail;go_ret;exact⟨rfl,HB8.out⟩
     ·have hF3:=HF33.out;rw[gF]at hF3;obtain⟨z0,z1,z2,z3,z4,z5,z6,zf⟩:=fl_cells hF3;clear hF3 gF HD;rcases hcv with⟨rfl,_⟩|⟨_,h⟩
      ·go_wp2_with fail;refine(HAg.out _).mono ?_;rintro e w9 ⟨rfl,hb9⟩;have HB9:=Hy (HB8.out.trans (hb9.mono HB8.out.size));clear hb9 y0 y1 y2 y3 y4 y5 y6 yf z0 z1 z2 z3 z4 z5 z6 zf;go_wp2_with fail;go_ret;exact⟨rfl,HB9.out⟩
      ·exact absurd HQs.out h
 ·rw[decide_eq_false hf]at hfew;have HFew:=Hy hfew;clear hfew p0 p1 p2 p3 hf;refine HFew.out.mono ?_;rintro e w2 ⟨rfl,hb2⟩;have HB2:=Hy (HB.out.trans (hb2.mono HB.out.size));clear hb2;go_wp2_with fail;go_ret;exact⟨rfl,HB2.out⟩
end Go.Proofs.YtamkfdlcdiadlaaGreatDoor
