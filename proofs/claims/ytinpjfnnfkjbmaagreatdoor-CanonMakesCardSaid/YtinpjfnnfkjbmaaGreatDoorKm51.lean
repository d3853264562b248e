/- canon.Make, whatever Canon answers. -/
import Derived.Test.YtinpjfnnfkjbmaaGreatDoorKm05
import Derived.Test.YtinpjfnnfkjbmaaGreatDoorKm50
import Derived.Test.YtinpjfnnfkjbmaaGreatDoorKm34
import Derived.Test.YtinpjfnnfkjbmaaGreatDoorKm39
import Derived.Test.YtinpjfnnfkjbmaaGreatDoorKm04
import Derived.Test.YtinpjfnnfkjbmaaGreatDoorKm01
import Derived.Test.YtinpjfnnfkjbmaaGreatDoorKm12
import Derived.Test.YtinpjfnnfkjbmaaGreatDoorKm33
set_option linter.all false
namespace Go.Proofs.YtinpjfnnfkjbmaaGreatDoor
open Go.RowKit Go.Maps
variable {H:Nat→Prop}
def CanFB (f:Pv.Fault)(l s c bb:Nat)(w:World)(e:Ending)(w':World):Prop:=e = .returned (.pointer none)∧CkAt w' c bb f∧(∃u',BudAt w' bb l u'∧l+u'=s)∧Keep (askT c bb) w w'
def MakeFB (f:Pv.Fault)(l s bb:Nat)(w:World)(e:Ending)(w':World):Prop:=e = .returned (.tuple #[.pointer none,FV f])∧(∃u',BudAt w' bb l u'∧l+u'=s)∧Keep (· = bb) w w'
def CanOB (H:Nat→Prop)(C:Pv.C)(l s c bb:Nat)(w:World)(e:Ending)(w':World):Prop:=(∃k,e = .returned (Ptr k)∧CAt H w' C k∧w.heap.size≤k)∧CkAt w' c bb {}∧(∃u',BudAt w' bb l u'∧l+u'=s)∧Keep (askT c bb) w w'
def MakeOB (H:Nat→Prop)(C:Pv.C)(l s bb:Nat)(w:World)(e:Ending)(w':World):Prop:=(∃k,e = .returned (.tuple #[Ptr k,F0])∧CAt H w' C k∧w.heap.size≤k)∧(∃u',BudAt w' bb l u'∧l+u'=s)∧Keep (· = bb) w w'
set_option maxRecDepth 20000 in
theorem make_failB (f:Pv.Fault)(hfe:f.e≠0)(l s:Nat)(tv:Value)(bb:Nat)(w:World)
  (hc:∀w1 c,Below w.heap.size w w1→CkAt w1 c bb {}→w.heap.size<c→Calls Tryz.prog 44 #[Ptr c,tv] w1 (CanFB f l s c bb w1)) (hb:bb<w.heap.size):
  Calls Tryz.prog 17 #[tv,Ptr bb] w (MakeFB f l s bb w):=by
 have HC:=Hy hc;clear hc;go_enter Tryz.func17,Tryz.ntmps17;go_wp2_with fail;obtain⟨r,hr⟩:∃r,w.heap.size=r:=⟨_,rfl⟩
 obtain⟨w1,hw1⟩:∃w1,(w.alloc (.cells #[.int .i64 0,.int .i64 0,.int .i64 0,.bool false,Str [],.int .i64 0,.int .i64 0] 45)).alloc (.cells #[Ptr bb,.int .i64 0,.int .i64 0,.int .i64 0,.bool false,Str [],.int .i64 0,.int .i64 0] 104)=w1:=⟨_,rfl⟩
 have hb1:Below w.heap.size w w1:=by rw[←hw1];exact((Below.refl _ _).alloc (Nat.le_refl _) _).alloc (by simp) _
 have hr1:w1.heap[r]?=some (.cells #[.int .i64 0,.int .i64 0,.int .i64 0,.bool false,Str [],.int .i64 0,.int .i64 0] 45):=by rw[←hw1];exact blk_old (blk_new hr)
 have hc1:CkAt w1 (r+1) bb {}:=by rw[←hw1];exact blk_new (by simp;omega)
 rw[hw1,hr];clear hw1;have HCa:=Hy (HC.out w1 (r+1) hb1 hc1 (by omega));have HR1:=Hy hr1;have HB1:=Hy hb1;clear hb1 hr1 hc1 HC;refine HCa.out.mono ?_;rintro e w2 ⟨rfl,hc2,⟨u2,hb2,hu2⟩,hk2⟩;have hr2:=hk2.blk (by rintro(e|e)<;>omega) HR1.out;have hok:=ok_any (r+1) bb f w2 hc2;rw[show(f.e==0)=false by simpa using hfe]at hok;have HOk:=Hy hok;have HR2:=Hy hr2;have HC2:=Hy hc2;have HB2:=Hy hb2
 have HKw:=Hy ((Keep.of_below (H:=(· = bb)) HB1.out).trans_ hk2 fun x e=>by
  rcases e with e|e
  ·right;omega
  ·exact .inl e)
 clear hok hr2 hc2 hk2 HCa hb2;go_wp2_with fail;refine HOk.out.mono ?_;rintro e w3 ⟨rfl,e3⟩;subst e3;clear HOk;have nf:∀x,¬(fun _:Nat=>False) x:=fun _ h=>h
 have nr:=nf r;have nc:=nf (r+1);have c1:w2.cell? ⟨r+1,1,none⟩=some (.int .i64 (f.e:Int)):=cB (o:=1) HC2.out rfl;have c2:w2.cell? ⟨r+1,2,none⟩=some (.int .i64 (f.op:Int)):=cB (o:=2) HC2.out rfl;have c3:w2.cell? ⟨r+1,3,none⟩=some (.int .i64 f.at_):=cB (o:=3) HC2.out rfl;have c4:w2.cell? ⟨r+1,4,none⟩=some (.bool f.view):=cB (o:=4) HC2.out rfl
 have c5:w2.cell? ⟨r+1,5,none⟩=some (Str f.text):=cB (o:=5) HC2.out rfl;have c6:w2.cell? ⟨r+1,6,none⟩=some (.int .i64 f.i):=cB (o:=6) HC2.out rfl;have c7:w2.cell? ⟨r+1,7,none⟩=some (.int .i64 f.j):=cB (o:=7) HC2.out rfl;have x0:w2.cell? ⟨r,0,none⟩=some (.int .i64 0):=cB (o:=0) HR2.out rfl;have x1:w2.cell? ⟨r,1,none⟩=some (.int .i64 0):=cB (o:=1) HR2.out rfl
 have x2:w2.cell? ⟨r,2,none⟩=some (.int .i64 0):=cB (o:=2) HR2.out rfl;have x3:w2.cell? ⟨r,3,none⟩=some (.bool false):=cB (o:=3) HR2.out rfl;have x4:w2.cell? ⟨r,4,none⟩=some (Str []):=cB (o:=4) HR2.out rfl;have x5:w2.cell? ⟨r,5,none⟩=some (.int .i64 0):=cB (o:=5) HR2.out rfl;have x6:w2.cell? ⟨r,6,none⟩=some (.int .i64 0):=cB (o:=6) HR2.out rfl
 have fr:∀o,w2.frozen? ⟨r,o,none⟩=false:=fun o=>fob HR2.out
 go_wp2_with fail;refine Eag.region (.mov 0 (.mov 1 (.mov 2 (.mov 3 (.mov 4 (.anc 5 Eag.Sch.fin)))))) [5] (by kernel_rfl) (by kernel_rfl) (fun K ops hops hK => ?_);iterate 5
  refine Eag.mov hops rfl rfl (fun w' hb => ?_) ?_
  ·have q0:=later hb c1;have q1:=later hb c2;have q2:=later hb c3;have q3:=later hb c4;have q4:=later hb c5;have q5:=later hb c6;have q6:=later hb c7;clear hb;go_simp
  go_simp
 refine Eag.anc hops rfl rfl ?_;go_wp2_with fail;refine Eag.fin (hK _ _ ?_);clear hK hops;go_simp;go_wp2_with fail;clear x0 x1 x2 x3 x4 x5 x6 fr c1 c2 c3 c4 c5 c6 c7;have hst:=fl_set2 f HR2.out
 obtain⟨w4,hw4⟩:∃w4,(((((((w2.setCell ⟨r,0,none⟩ (.int .i64 (f.e:Int))).setCell ⟨r,1,none⟩ (.int .i64 (f.op:Int))).setCell ⟨r,2,none⟩ (.int .i64 f.at_)).setCell ⟨r,3,none⟩ (.bool f.view)).setCell ⟨r,4,none⟩ (Str f.text)).setCell ⟨r,5,none⟩ (.int .i64 f.i)).setCell ⟨r,6,none⟩ (.int .i64 f.j))=w4:=⟨_,rfl⟩
 rw[hw4]at hst ⊢;clear hw4;have hd4:w4.drew.heap[r]?=some (.cells (faultC f) 45):=hst.1;have x0:w4.drew.cell? ⟨r,0,none⟩=some (.int .i64 (f.e:Int)):=cB (o:=0) hd4 rfl;have x1:w4.drew.cell? ⟨r,1,none⟩=some (.int .i64 (f.op:Int)):=cB (o:=1) hd4 rfl;have x2:w4.drew.cell? ⟨r,2,none⟩=some (.int .i64 f.at_):=cB (o:=2) hd4 rfl;have x3:w4.drew.cell? ⟨r,3,none⟩=some (.bool f.view):=cB (o:=3) hd4 rfl
 have x4:w4.drew.cell? ⟨r,4,none⟩=some (Str f.text):=cB (o:=4) hd4 rfl;have x5:w4.drew.cell? ⟨r,5,none⟩=some (.int .i64 f.i):=cB (o:=5) hd4 rfl;have x6:w4.drew.cell? ⟨r,6,none⟩=some (.int .i64 f.j):=cB (o:=6) hd4 rfl
 refine bodyPost_ret (v:= .tuple #[.pointer none,FV f]) ?_ rfl ⟨rfl,⟨u2,(HB2.out.keep hst.2 (by omega)).keep (H:=fun _=>False) (Keep.drew _) (fun h=>h),hu2⟩,(HKw.out.trans_ hst.2 fun x e=> .inr (by omega)).trans (Keep.drew _)⟩;simp[results,Tryz.results17,go_sem,x0,x1,x2,x3,x4,x5,x6]
set_option maxRecDepth 20000 in
theorem make_okB (C:Pv.C)(l s:Nat)(tv:Value)(bb:Nat)(w:World)
  (hc:∀w1 c,Below w.heap.size w w1→CkAt w1 c bb {}→w.heap.size<c→Calls Tryz.prog 44 #[Ptr c,tv] w1 (CanOB (fun x=>H x∨x=w.heap.size∨x=c) C l s c bb w1)) (hb:bb<w.heap.size):
  Calls Tryz.prog 17 #[tv,Ptr bb] w (MakeOB H C l s bb w):=by
 have HC:=Hy hc;clear hc;go_enter Tryz.func17,Tryz.ntmps17;go_wp2_with fail;obtain⟨r,hr⟩:∃r,w.heap.size=r:=⟨_,rfl⟩
 obtain⟨w1,hw1⟩:∃w1,(w.alloc (.cells #[.int .i64 0,.int .i64 0,.int .i64 0,.bool false,Str [],.int .i64 0,.int .i64 0] 45)).alloc (.cells #[Ptr bb,.int .i64 0,.int .i64 0,.int .i64 0,.bool false,Str [],.int .i64 0,.int .i64 0] 104)=w1:=⟨_,rfl⟩
 have hb1:Below w.heap.size w w1:=by rw[←hw1];exact((Below.refl _ _).alloc (Nat.le_refl _) _).alloc (by simp) _
 have hr1:w1.heap[r]?=some (.cells #[.int .i64 0,.int .i64 0,.int .i64 0,.bool false,Str [],.int .i64 0,.int .i64 0] 45):=by rw[←hw1];exact blk_old (blk_new hr)
 have hc1:CkAt w1 (r+1) bb {}:=by rw[←hw1];exact blk_new (by simp;omega)
 rw[hw1,hr];clear hw1;have hca:=HC.out w1 (r+1) hb1 hc1 (by omega);have HCa:=Hy hca;have HR1:=Hy hr1;have HB1:=Hy hb1;have HC1:=Hy hc1;clear hca hb1 hr1 hc1 HC;refine HCa.out.mono ?_;rintro e w2 ⟨⟨k,rfl,hq2,hkw⟩,hc2,⟨u2,hb2,hu2⟩,hk2⟩;have hr2:=hk2.blk (by rintro(e|e)<;>omega) HR1.out;have hok:=ok_any (r+1) bb {} w2 hc2;have HOk:=Hy hok;have HR2:=Hy hr2;have HQ2:=Hy hq2;have HB2:=Hy hb2
 have HKw:=Hy ((Keep.of_below (H:=(· = bb)) HB1.out).trans_ hk2 fun x e=>by
  rcases e with e|e
  ·right;omega
  ·exact .inl e)
 clear hok hr2 hq2 hk2 HCa hb2 hc2;go_wp2_with fail;refine HOk.out.mono ?_;rintro e w3 ⟨rfl,e3⟩;subst e3;clear HOk;have x0:w2.cell? ⟨r,0,none⟩=some (.int .i64 0):=cB (o:=0) HR2.out rfl;have x1:w2.cell? ⟨r,1,none⟩=some (.int .i64 0):=cB (o:=1) HR2.out rfl;have x2:w2.cell? ⟨r,2,none⟩=some (.int .i64 0):=cB (o:=2) HR2.out rfl;have x3:w2.cell? ⟨r,3,none⟩=some (.bool false):=cB (o:=3) HR2.out rfl
 have x4:w2.cell? ⟨r,4,none⟩=some (Str []):=cB (o:=4) HR2.out rfl;have x5:w2.cell? ⟨r,5,none⟩=some (.int .i64 0):=cB (o:=5) HR2.out rfl;have x6:w2.cell? ⟨r,6,none⟩=some (.int .i64 0):=cB (o:=6) HR2.out rfl;have fr:∀o,w2.frozen? ⟨r,o,none⟩=false:=fun o=>fob HR2.out
 go_wp2_with fail;clear x0 x1 x2 x3 x4 x5 x6 fr;have hst:=fl_set HR2.out;obtain⟨w4,hw4⟩:∃w4,(((((((w2.setCell ⟨r,0,none⟩ (.int .i64 0)).setCell ⟨r,1,none⟩ (.int .i64 0)).setCell ⟨r,2,none⟩ (.int .i64 0)).setCell ⟨r,3,none⟩ (.bool false)).setCell ⟨r,4,none⟩ (Str [])).setCell ⟨r,5,none⟩ (.int .i64 0)).setCell ⟨r,6,none⟩ (.int .i64 0))=w4:=⟨_,rfl⟩
 rw[hw4]at hst ⊢;clear hw4;have x0:w4.cell? ⟨r,0,none⟩=some (.int .i64 0):=cB (o:=0) hst.1 rfl;have x1:w4.cell? ⟨r,1,none⟩=some (.int .i64 0):=cB (o:=1) hst.1 rfl;have x2:w4.cell? ⟨r,2,none⟩=some (.int .i64 0):=cB (o:=2) hst.1 rfl;have x3:w4.cell? ⟨r,3,none⟩=some (.bool false):=cB (o:=3) hst.1 rfl;have x4:w4.cell? ⟨r,4,none⟩=some (Str []):=cB (o:=4) hst.1 rfl
 have x5:w4.cell? ⟨r,5,none⟩=some (.int .i64 0):=cB (o:=5) hst.1 rfl;have x6:w4.cell? ⟨r,6,none⟩=some (.int .i64 0):=cB (o:=6) hst.1 rfl
 refine bodyPost_ret (v:= .tuple #[Ptr k,F0]) ?_ rfl ⟨⟨k,rfl,(CAt.keep hst.2 ⟨fun x e=> .inr (.inl (by rw[e,hr])),fun x e cs fr=>by rw[e];exact blk_ty HR2.out (by decide)⟩ HQ2.out).widen (fun x h=> .inl (.inl h)),by have:=HB1.out.size;omega⟩,⟨u2,HB2.out.keep hst.2 (by omega),hu2⟩,HKw.out.trans_ hst.2 fun x e=> .inr (by omega)⟩;simp[results,Tryz.results17,go_sem,x0,x1,x2,x3,x4,x5,x6]
def MkW (H:Nat→Prop)(q:Pv.Ck × Option Pv.C)(s bb:Nat)(w:World)(e:Ending)(w':World):Prop:=
 (match q.2 with|none=>e = .returned (.tuple #[.pointer none,FV q.1.fault])|some C=>∃k,e = .returned (.tuple #[Ptr k,F0])∧CAt H w' C k∧w.heap.size≤k)∧(∃u',BudAt w' bb q.1.left u'∧q.1.left+u'=s)∧Keep (· = bb) w w'
theorem make_all (P:Pv.R→Prop)(hP:∀r c,P r→P (Pv.by_ c r))(hPs:∀r,P r→Pv.size r≤300000)(G:Pv.T→Prop)
  (hG:∀t,G t→2≤t.op∧t.op≤17∧(∀r,t.re=some r→P r)∧t.text.length<549755813888∧∀x∈t.kids,G x) (hKid:∀t l c C,G t→Pv.canonOf t { left:=l }=(c,some C)→Kid C)
  (hSz:∀t done l c x y,G t→(∀C∈done,Kid C)→Pv.ctypes t done { left:=l }=((c,true),x,y)→Pv.size x<137438953472∧Pv.size y<137438953472)
  (hNo:∀t l,G t→(Pv.canonOf t { left:=l }).2=none→(Pv.canonOf t { left:=l }).1.fault.e≠0)
  (H:Nat→Prop) (t:Pv.T) (tb bb l u:Nat) (w:World) (hg:G t) (hat:TAt H w t tb) (hT:Tab w) (hbud:BudAt w bb l u) (hbb:H bb) (hH:∀h,H h→h<w.heap.size) (hlu:l+u<274877906944):
  Calls Tryz.prog 17 #[Ptr tb,Ptr bb] w (MkW H (Pv.canonOf t { left:=l }) (l+u) bb w):=by
 have hb:=hH bb hbb;have hno:=hNo t l hg;have hsome:=fun c C (h:Pv.canonOf t { left:=l }=(c,some C))=>Pv.canonOf_some h
 have hcall:∀w1 c,Below w.heap.size w w1→CkAt w1 c bb {}→w.heap.size<c→Calls Tryz.prog 44 #[Ptr c,Ptr tb] w1 (CanW (fun x=>H x∨x=w.heap.size∨x=c) c bb l u (Pv.canonOf t { left:=l }) w1):=fun w1 c hw1 hc1 hcl=>
  canon_all P hP hPs G hG hKid hSz _ (fun x=>H x∨x=w.heap.size∨x=c) t tb c bb l u w1 (Nat.le_refl _) hg ((hat.widen fun x e=>by
   rcases e with e|e|e
   ·exact .inl e
   ·exact .inr (by omega)
   ·exact .inr (by omega)).later hw1) (hT.later hw1) (hbud.later hw1) hc1 (.inl hbb) (.inr (.inr rfl)) (fun h e=>by
   have h1:=hw1.size;have h2:=blk_lt hc1;rcases e with e|e|e
   ·have:=hH h e;omega
   ·omega
   ·omega) hlu
 rcases hq:Pv.canonOf t { left:=l } with⟨c,_|C⟩
 ·rw[hq]at hcall hno;refine(make_failB c.fault (hno rfl) c.left (l+u) (Ptr tb) bb w (fun w1 cc h1 h2 h3=>(hcall w1 cc h1 h2 h3).mono ?_) hb).mono ?_
  ·rintro e w' ⟨h1,h2,h3,h4⟩;exact⟨h1,h2,h3,h4⟩
  ·rintro e w' ⟨h1,h2,h3⟩;exact⟨h1,h2,h3⟩
 ·rw[hq]at hcall;refine(make_okB (H:=H) C c.left (l+u) (Ptr tb) bb w (fun w1 cc h1 h2 h3=>(hcall w1 cc h1 h2 h3).mono ?_) hb).mono ?_
  ·rintro e w' ⟨h1,h2,h3,h4⟩;have hcf:=hsome _ _ hq;rw[hcf]at h2;exact⟨h1,h2,h3,h4⟩
  ·rintro e w' ⟨h1,h2,h3⟩;exact⟨h1,h2,h3⟩
end Go.Proofs.YtinpjfnnfkjbmaaGreatDoor
namespace Go.Proofs.YtinpjfnnfkjbmaaGreatDoor
open _root_.Pv
def clos:Nat→List R→List R→List R
 | 0,_,acc=>acc
 | n+1,todo,acc=>match todo with
   | []=>acc
   | r::rest=>if inL acc r then clos n rest acc else clos n (rest++([97,98,99,59,120].map fun c=>by_ c r)) (acc++[r])
def exC:List R:=clos 300 exL []
theorem exC_closed:closedL exC=true:=by decide +kernel
theorem exC_size':(exC.all fun r=>decide (size r≤100))=true:=by decide +kernel
theorem exC_size:∀r∈exC,size r≤100:=fun r hr=>by simpa using List.all_eq_true.1 exC_size' r hr
theorem exL_sub':(exL.all fun r=>inL exC r)=true:=by decide +kernel
theorem exL_sub:∀r∈exL,r∈exC:=fun r hr=>inL_mem (List.all_eq_true.1 exL_sub' r hr)
end Go.Proofs.YtinpjfnnfkjbmaaGreatDoor
