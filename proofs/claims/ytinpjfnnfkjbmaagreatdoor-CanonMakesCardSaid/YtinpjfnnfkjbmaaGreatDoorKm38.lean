/- What a Checker is told: whatever a layer answers. -/
import Derived.Test.YtinpjfnnfkjbmaaGreatDoorKm05
import Derived.Test.YtinpjfnnfkjbmaaGreatDoorKm25
import Derived.Test.YtinpjfnnfkjbmaaGreatDoorKm37
import Derived.Test.YtinpjfnnfkjbmaaGreatDoorKm28
import Derived.Test.YtinpjfnnfkjbmaaGreatDoorKm11
import Derived.Test.YtinpjfnnfkjbmaaGreatDoorKm30
import Derived.Test.YtinpjfnnfkjbmaaGreatDoorKm12
import Derived.Test.YtinpjfnnfkjbmaaGreatDoorKm31
set_option linter.all false
namespace Go.Proofs.YtinpjfnnfkjbmaaGreatDoor
open Go.RowKit Go.Maps
variable {H:Nat→Prop}
theorem told_errK (c bb:Nat)(w:World)(h:CkAt w c bb {})(e2:Int)(tv:Value)(view:Bool)(text:List UInt8)(ok:Bool):
  Calls Tryz.prog 117 #[Ptr c,.int .i64 5,.int .i64 e2,tv,.bool view,Str text,.bool ok] w fun en w'=>en = .returned (.bool false)∧CkAt w' c bb { e:=5 }∧Keep (· = c) w w':=by
 have hok:=ok_any c bb {} w h;rw[show(({}:Pv.Fault).e==0)=true from rfl]at hok;have h1:=cB (o:=1) h rfl;have h2:=cB (o:=2) h rfl;have h3:=cB (o:=3) h rfl;have h4:=cB (o:=4) h rfl;have h5:=cB (o:=5) h rfl;have h6:=cB (o:=6) h rfl;have h7:=cB (o:=7) h rfl;have fr:∀o,w.frozen? ⟨c,o,none⟩=false:=fun o=>fob h
 have HC:=Hy h;have HOk:=Hy hok;clear h hok;go_enter Tryz.func117,Tryz.ntmps117;go_wp2_with fail;refine HOk.out.mono ?_;rintro e w' ⟨rfl,rfl⟩;go_wp2_with fail;have hs:=ck_set HC.out { e:=5 };go_ret;exact⟨rfl,hs⟩
theorem told_all (r:Option (Option (List UInt8)))(c bb l l':Nat)(w:World)(h:CkAt w c bb {})(e:Nat)(tb:Nat)(T:Pv.T)(ht:HeadAt w tb T.op T.at_)(view:Bool)(t:List UInt8)(ok:Bool)(er:Nat)(hr:witV r = .tuple #[Str t,.bool ok,.int .i64 (er:Int)]):
  Calls Tryz.prog 117 #[Ptr c,.int .i64 (er:Int),.int .i64 (e:Int),Ptr tb,.bool view,Str t,.bool ok] w fun en w'=>en = .returned (.bool (({ left:=l }:Pv.Ck).told e T view (l',r)).2)∧CkAt w' c bb (({ left:=l }:Pv.Ck).told e T view (l',r)).1.fault∧Keep (· = c) w w':=by
 match r with
 | none=>
   simp only[witV,Value.tuple.injEq,Array.mk.injEq,List.cons.injEq,Value.bool.injEq,Value.int.injEq,and_true,true_and]at hr;obtain⟨h1,h2,h3⟩:=hr;rw[←h3];exact told_errK c bb w h e (Ptr tb) view t ok
 | some none=>
   simp only[witV,Value.tuple.injEq,Array.mk.injEq,List.cons.injEq,Value.bool.injEq,Value.int.injEq,and_true,true_and]at hr;obtain⟨h1,h2,h3⟩:=hr;rw[←h3,←h2];refine(told_true c bb w e (Ptr tb) view t).mono ?_;rintro en w' ⟨rfl,rfl⟩;exact⟨rfl,h,Keep.refl _ _⟩
 | some (some q)=>
   simp only[witV,Value.tuple.injEq,Array.mk.injEq,List.cons.injEq,Value.bool.injEq,Value.int.injEq,and_true,true_and]at hr;obtain⟨h1,h2,h3⟩:=hr;rw[←h3,←h2];have hq:q=t:=by
    injection h1 with h1
    injection h1 with h1
    simpa using h1
   subst hq;exact told_found c bb {} w h rfl e tb T.op T.at_ ht view q
def twoV:Option (Option Pv.Two)→Value
 | none=> .tuple #[.agg #[Str [],.int .i64 0,.int .i64 0],.bool false,.int .i64 5]
 | some none=> .tuple #[.agg #[Str [],.int .i64 0,.int .i64 0],.bool false,.int .i64 0]
 | some (some t)=> .tuple #[.agg #[Str t.text,.int .i64 t.i,.int .i64 t.j],.bool true,.int .i64 0]
theorem twoV_form (r:Option (Option Pv.Two)):∃(t:Pv.Two) (ok:Bool) (e:Nat),twoV r = .tuple #[.agg #[Str t.text,.int .i64 t.i,.int .i64 t.j],.bool ok,.int .i64 (e:Int)]∧(match r with|none=>t=⟨[],0,0⟩∧ok=false∧e=5|some none=>t=⟨[],0,0⟩∧ok=false∧e=0|some (some t')=>t=t'∧ok=true∧e=0):=by
 match r with
 | none=>exact⟨⟨[],0,0⟩,false,5,rfl,rfl,rfl,rfl⟩
 | some none=>exact⟨⟨[],0,0⟩,false,0,rfl,rfl,rfl,rfl⟩
 | some (some t)=>exact⟨t,true,0,rfl,rfl,rfl,rfl⟩
theorem two_quiet (c bb:Nat)(w:World)(e2:Int)(tv:Value)(view:Bool)(t:Pv.Two):
  Calls Tryz.prog 146 #[Ptr c,.int .i64 0,.int .i64 e2,tv,.bool view,.agg #[Str t.text,.int .i64 t.i,.int .i64 t.j],.bool false] w fun en w'=>en = .returned (.bool true)∧Below w.heap.size w w':=by
 have ht:=told_true c bb (w.alloc (.cells #[Str t.text,.int .i64 t.i,.int .i64 t.j] 148)) e2 tv view t.text;go_enter Tryz.func146,Tryz.ntmps146;go_wp2_with fail;refine ht.mono ?_;rintro e w' ⟨rfl,rfl⟩;go_wp2_with fail;go_ret;exact⟨rfl,(Below.refl _ _).alloc (Nat.le_refl _) _⟩
theorem two_err (c bb:Nat)(w:World)(h:CkAt w c bb {})(e2:Int)(tv:Value)(view:Bool)(t:Pv.Two):
  Calls Tryz.prog 146 #[Ptr c,.int .i64 5,.int .i64 e2,tv,.bool view,.agg #[Str t.text,.int .i64 t.i,.int .i64 t.j],.bool false] w fun en w'=>en = .returned (.bool false)∧CkAt w' c bb { e:=5 }∧Keep (· = c) w w':=by
 have hB:Below w.heap.size w (w.alloc (.cells #[Str t.text,.int .i64 t.i,.int .i64 t.j] 148)):=(Below.refl _ _).alloc (Nat.le_refl _) _;have ht:=told_errK c bb (w.alloc (.cells #[Str t.text,.int .i64 t.i,.int .i64 t.j] 148)) (h.later hB) e2 tv view t.text false;have HT:=Hy ht;have HB:=Hy hB;clear ht hB h;go_enter Tryz.func146,Tryz.ntmps146;go_wp2_with fail;refine HT.out.mono ?_
 rintro e w' ⟨rfl,h1,h2⟩;have HF:Hid (CkAt w' c bb { e:=5 }∧Keep (· = c) w w'):=⟨h1,(Keep.of_below HB.out).trans h2⟩
 clear h1 h2 HT HB;go_wp2_with fail;go_ret;exact⟨rfl,HF.out⟩
set_option maxRecDepth 20000 in
theorem two_found (c bb:Nat)(w:World)(h:CkAt w c bb {})(e tb op:Nat)(at_:Int)(ht:HeadAt w tb op at_)(view:Bool)(t:Pv.Two):
  Calls Tryz.prog 146 #[Ptr c,.int .i64 0,.int .i64 (e:Int),Ptr tb,.bool view,.agg #[Str t.text,.int .i64 t.i,.int .i64 t.j],.bool true] w fun en w'=>en = .returned (.bool false)∧CkAt w' c bb { e:=e,op:=op,at_:=at_,view:=view,text:=t.text,i:=t.i,j:=t.j }∧Keep (· = c) w w':=by
 have hB:Below w.heap.size w (w.alloc (.cells #[Str t.text,.int .i64 t.i,.int .i64 t.j] 148)):=(Below.refl _ _).alloc (Nat.le_refl _) _;have hcw:=blk_lt h;have htd:=told_found c bb {} (w.alloc (.cells #[Str t.text,.int .i64 t.i,.int .i64 t.j] 148)) (h.later hB) rfl e tb op at_ (ht.later hB) view t.text
 have hx:(w.alloc (.cells #[Str t.text,.int .i64 t.i,.int .i64 t.j] 148)).heap[w.heap.size]?=some (.cells #[Str t.text,.int .i64 t.i,.int .i64 t.j] 148):=blk_new rfl;have HT:=Hy htd;have HB:=Hy hB;have HX:=Hy hx;clear htd hB h ht hx;go_enter Tryz.func146,Tryz.ntmps146;go_wp2_with fail;refine HT.out.mono ?_;rintro en w2 ⟨rfl,hc2,hk2⟩;have hx2:=hk2.blk (show ¬w.heap.size=c by omega) HX.out
 have x1:=cB (o:=1) hx2 rfl;have x2:=cB (o:=2) hx2 rfl;have c6:=cB (o:=6) hc2 rfl;have c7:=cB (o:=7) hc2 rfl;have fr:∀o,w2.frozen? ⟨c,o,none⟩=false:=fun o=>fob hc2
 have HC2:=Hy hc2;have HK2:Hid (Keep (· = c) w w2):=(Keep.of_below HB.out).trans hk2;have nf:¬(fun x=>x=c) w.heap.size:=fun e=>by simp at e;omega
 clear hc2 hk2 hx2 HT HB HX;go_wp2_with fail;refine Eaq.region (Keep fun x=>x=c) (.mov 0 (.mov 1 (.mov 2 (.mov 3 (.mov 4 (.mov 5 (.mov 6 (.mov 7 (.mov 8 (.anc 9 (.mov 10 (.mov 11 (.mov 12 (.anc 13 Eag.Sch.fin)))))))))))))) [] [] (by kernel_rfl) (by kernel_rfl) (fun K ops hops hK => ?_);iterate 9
  first
   | (refine Eaq.mov hops rfl rfl rfl (fun w' hb => ?_) ?_
      ·have q0:=Keep.cell hb nf x1;have q1:=Keep.cell hb nf x2;clear hb;go_simp)
   | (refine Eaq.movA hops rfl rfl (fun w' => ?_) ?_
      ·go_simp)
  go_simp
 refine Eaq.anc hops rfl rfl ?_;go_wp2_with fail;refine⟨Keep.set rfl,?_⟩;iterate 3
  first
   | (refine Eaq.mov hops rfl rfl rfl (fun w' hb => ?_) ?_
      ·clear hb;go_simp)
   | (refine Eaq.movA hops rfl rfl (fun w' => ?_) ?_
      ·go_simp)
  go_simp
 refine Eaq.anc hops rfl rfl ?_;go_wp2_with fail;refine⟨Keep.set rfl,?_⟩;refine Eaq.fin (hK _ _ ?_);clear hK hops;go_simp;go_wp2_with fail;go_ret;refine⟨rfl,?_,?_⟩
 ·have h1:=HC2.out;unfold CkAt at h1 ⊢;show((w2.setCell ⟨c,6,none⟩ _).setCell ⟨c,7,none⟩ _).heap[c]?=_;rw[blk_set (blk_set h1)];rfl
 ·have K:∀(W:World) (o:Nat) (v:Value),Keep (· = c) W (W.setCell ⟨c,o,none⟩ v):=fun W o v=>Keep.set rfl
  exact(HK2.out.trans ((K _ _ _).trans (K _ _ _))).trans (Keep.drew _)
theorem two_all (r:Option (Option Pv.Two))(c bb l l':Nat)(w:World)(h:CkAt w c bb {})(e:Nat)(he:e≠0)(tb:Nat)(T:Pv.T)(ht:HeadAt w tb T.op T.at_)(view:Bool)(t:Pv.Two)(ok:Bool)(er:Nat)(hr:(match r with|none=>t=⟨[],0,0⟩∧ok=false∧er=5|some none=>t=⟨[],0,0⟩∧ok=false∧er=0|some (some t')=>t=t'∧ok=true∧er=0)):
  Calls Tryz.prog 146 #[Ptr c,.int .i64 (er:Int),.int .i64 (e:Int),Ptr tb,.bool view,.agg #[Str t.text,.int .i64 t.i,.int .i64 t.j],.bool ok] w fun en w'=>en = .returned (.bool (({ left:=l }:Pv.Ck).two e T view (l',r)).2)∧CkAt w' c bb (({ left:=l }:Pv.Ck).two e T view (l',r)).1.fault∧Keep (· = c) w w':=by
 match r with
 | none=>
   obtain⟨rfl,rfl,rfl⟩:=hr;exact two_err c bb w h e (Ptr tb) view _
 | some none=>
   obtain⟨rfl,rfl,rfl⟩:=hr;refine(two_quiet c bb w e (Ptr tb) view _).mono ?_;rintro en w' ⟨rfl,hb⟩;exact⟨rfl,h.later hb,Keep.of_below hb⟩
 | some (some q)=>
   obtain⟨rfl,rfl,rfl⟩:=hr;exact two_found c bb w h e tb T.op T.at_ ht view _
end Go.Proofs.YtinpjfnnfkjbmaaGreatDoor
namespace Go.Proofs.YtinpjfnnfkjbmaaGreatDoor
open Go.RowKit Go.Maps
variable {H:Nat→Prop}
theorem acat_all (x y:Pv.R)(bx by_ bb l u:Nat)(w:World)(hT:Tab w)(hx:ReAt H w x bx)(hy:ReAt H w y by_)(hbud:BudAt w bb l u)(hbb:H bb)(hH:∀h,H h→h<w.heap.size)
  (hsx:Pv.size x<549755813888) (hsy:Pv.size y<549755813888) (hl:l<274877906944)
  (hhd:∀A B l1,Pv.build x l=(l1,some A)→(Pv.build y l1).2=some B→A.parts.length+B.parts.length≤12):
  Calls Tryz.prog 87 #[Ptr bx,Ptr by_,Ptr bb] w fun e w'=>e = .returned (twoV (Pv.ambigCat x y l).2)∧BudAt w' bb (Pv.ambigCat x y l).1 (u+(l-(Pv.ambigCat x y l).1))∧Keep (· = bb) w w':=
 acat3_any _ x y bx by_ bb l u w hT hx hy hbud hbb hH hsx hsy hl hhd (fun w' h h1 h2=>⟨by rw[h];rfl,h1,h2⟩) (fun w' h h1 h2=>⟨by rw[h];rfl,h1,h2⟩) (fun t w' h h1 h2=>⟨by rw[h];rfl,h1,h2⟩)
theorem keep_zero3 {W:World}{g:Nat}{v0 v1 v2:Value}{B:Nat}{w:World}{bb:Nat}(hk:Keep (· = bb) w W)(hg:w.heap.size≤g):Keep (· = bb) w (((W.setCell ⟨g,0,none⟩ v0).setCell ⟨g,1,none⟩ v1).setCell ⟨g,2,none⟩ v2):=
 hk.trans_ (H1:=(· = g)) (keep_set3 rfl) fun x e=> .inr (by rw[e];exact hg)
set_option maxRecDepth 20000 in
theorem iter_all (x:Pv.R)(bx bb l u:Nat)(w:World)(hT:Tab w)(hx:ReAt H w x bx)(hbud:BudAt w bb l u)(hbb:H bb)(hH:∀h,H h→h<w.heap.size)
  (hsx:Pv.size x<274877906944) (hl:l<274877906944)
  (hhd:Pv.null x=false→∀A B l1,Pv.build x l=(l1,some A)→(Pv.build (Pv.many x) l1).2=some B→A.parts.length+B.parts.length≤12):
  Calls Tryz.prog 86 #[Ptr bx,Ptr bb] w fun e w'=>e = .returned (twoV (Pv.ambigIter x l).2)∧BudAt w' bb (Pv.ambigIter x l).1 (u+(l-(Pv.ambigIter x l).1))∧Keep (· = bb) w w':=by
 have hbw:=blk_lt hbud.2;obtain⟨w1,hw1⟩:∃w1,w.alloc (.cells #[.string ⟨#[]⟩,.int .i64 0,.int .i64 0] 148)=w1:=⟨_,rfl⟩
 have hB1:Below w.heap.size w w1:=by rw[←hw1];exact(Below.refl _ _).alloc (Nat.le_refl _) _
 have hr1:w1.heap[w.heap.size]?=some (.cells #[.string ⟨#[]⟩,.int .i64 0,.int .i64 0] 148):=by rw[←hw1];exact blk_new rfl
 have hnull:=null_any x bx w1 (hx.later hB1);have HW1:=Hy hw1;have HB1:=Hy hB1;have HR1:=Hy hr1;have HT1:=Hy (hT.later hB1);have HX1:=Hy (hx.later hB1);have HBud:=Hy hbud;have HH:=Hy hH;have HHd:=Hy hhd;have hq:Pv.ambigIter x l=if Pv.null x then(l,some (some ⟨[],0,0⟩)) else Pv.ambigCat x (Pv.many x) l:=rfl
 have HQ:=Hy hq;clear hw1 hB1 hr1 hT hx hbud hH hhd hq;cases hn:Pv.null x with
 | true=>
   rw[hn]at hnull;have hq:=HQ.out;rw[hn,if_pos rfl]at hq;rw[hq];have HN:=Hy hnull;clear hnull hn hq HQ;go_enter Tryz.func86,Tryz.ntmps86;go_wp2_with fail;rw[HW1.out];clear HW1;refine HN.out.mono ?_;rintro e w' ⟨rfl,rfl⟩;have r0:=cB (o:=0) HR1.out rfl;have r1:=cB (o:=1) HR1.out rfl;have r2:=cB (o:=2) HR1.out rfl;have fr:∀o,w1.frozen? ⟨w.heap.size,o,none⟩=false:=fun o=>fob HR1.out
   clear HN;go_wp2_with fail;refine bodyPost_ret (v:= .tuple #[.agg #[Str [],.int .i64 0,.int .i64 0],.bool true,.int .i64 0]) ?_ rfl ⟨rfl,?_,?_⟩
   ·simp[results,Tryz.results86,go_sem,r0,r1,r2,Str]
   ·show BudAt _ bb l (u+(l-l));rw[Nat.sub_self,Nat.add_zero];exact(HBud.out.later HB1.out).keep (keep_set3 (b:=w.heap.size) rfl) (show ¬bb=w.heap.size by omega)
   ·exact keep_zero3 (B:=0) (Keep.of_below HB1.out) (Nat.le_refl _)
 | false=>
   rw[hn]at hnull;have hq:=HQ.out;rw[hn,if_neg (by simp)]at hq;rw[hq];have hhd:=HHd.out hn;have HHd2:=Hy hhd;have hlt1:∀h,H h→h<w1.heap.size:=fun h hh=>by have:=HH.out h hh;have:=HB1.out.size;omega
   have hmany:=many_any (H:=H) x bx w1 HX1.out hlt1 (by omega);have hcat:∀(w2:World) (b2:Nat),ReAt H w2 (Pv.many x) b2→Below w1.heap.size w1 w2→Calls Tryz.prog 87 #[Ptr bx,Ptr b2,Ptr bb] w2 fun e w'=>e = .returned (twoV (Pv.ambigCat x (Pv.many x) l).2)∧BudAt w' bb (Pv.ambigCat x (Pv.many x) l).1 (u+(l-(Pv.ambigCat x (Pv.many x) l).1))∧Keep (· = bb) w2 w':=fun w2 b2 h2 hb2=>by
    have hs:=size_many x;exact acat_all (H:=H) x (Pv.many x) bx b2 bb l u w2 (HT1.out.later hb2) (HX1.out.later hb2) h2 ((HBud.out.later HB1.out).later hb2) hbb (fun h hh=>by have:=hlt1 h hh;have:=hb2.size;omega) (by omega) (by omega) hl HHd2.out
   have HN:=Hy hnull;have HMany:=Hy hmany;have HCat:=Hy hcat;generalize Pv.ambigCat x (Pv.many x) l=q at *;obtain⟨l1,o⟩:=q;obtain⟨t,ok,er,hv,hv2⟩:=twoV_form o;have HV:=Hy hv;clear hnull hn hq HQ HHd hhd hlt1 hmany hcat HHd2 hv hv2;go_enter Tryz.func86,Tryz.ntmps86;go_wp2_with fail;rw[HW1.out];clear HW1;refine HN.out.mono ?_;rintro e w' ⟨rfl,rfl⟩;clear HN;go_wp2_with fail;refine HMany.out.mono ?_
   rintro e w2 ⟨b2,rfl,hat2,hb2⟩;have hc2:=HCat.out w2 b2 hat2 hb2;simp only[HV.out]at hc2;have HC2:=Hy hc2;have HB2:=Hy hb2;clear hat2 hb2 hc2 HCat HMany;go_wp2_with fail;refine HC2.out.mono ?_;rintro e w3 ⟨rfl,hb3,hk3⟩;have hrb:=hk3.blk (show ¬w.heap.size=bb by omega) (later_blk HB2.out HR1.out);have r0:=cB (o:=0) hrb rfl;have r1:=cB (o:=1) hrb rfl;have r2:=cB (o:=2) hrb rfl
   have fr:∀o,w3.frozen? ⟨w.heap.size,o,none⟩=false:=fun o=>fob hrb
   have HB3:=Hy hb3;have HK3:Hid (Keep (· = bb) w w3):=(Keep.of_below (HB1.out.trans (HB2.out.mono HB1.out.size))).trans hk3;clear hrb hb3 hk3 HC2;go_wp2_with fail;refine bodyPost_ret (v:= .tuple #[.agg #[Str t.text,.int .i64 t.i,.int .i64 t.j],.bool ok,.int .i64 (er:Int)]) ?_ rfl ⟨congrArg _ HV.out.symm,?_,?_⟩
   ·simp[results,Tryz.results86,go_sem,r0,r1,r2,Str]
   ·exact HB3.out.keep (keep_set3 (b:=w.heap.size) rfl) (show ¬bb=w.heap.size by omega)
   ·exact keep_zero3 (B:=0) HK3.out (Nat.le_refl _)
end Go.Proofs.YtinpjfnnfkjbmaaGreatDoor
namespace Go.Proofs.YtinpjfnnfkjbmaaGreatDoor
open Go.RowKit Go.Maps
variable {H:Nat→Prop}
theorem shp_2 (tb:Nat)(at_:Int)(name text back:List UInt8)(w:World)(rv:Value)(a:Option Addr)(n c:Nat)(rb:Nat)(h:TermAt w tb 2 at_ name (Ptr rb) text back (.slice a n c)):Pure 74 #[Ptr tb] w (.bool ((n:Int)==0)):=by
 have h0:w.cell? ⟨tb,0,none⟩=some (.int .i64 2):=cB (o:=0) h rfl;have h3:w.cell? ⟨tb,3,none⟩=some (Ptr rb):=cB (o:=3) h rfl;have h6:w.cell? ⟨tb,6,none⟩=some (.slice a n c):=cB (o:=6) h rfl;clear h;go_enter Tryz.func74,Tryz.ntmps74;go_wp2_with fail;go_ret;exact⟨rfl,rfl⟩
theorem shp_3 (tb:Nat)(at_:Int)(name text back:List UInt8)(w:World)(rv:Value)(a:Option Addr)(n c:Nat)(rb:Nat)(h:TermAt w tb 3 at_ name (Ptr rb) text back (.slice a n c)):Pure 74 #[Ptr tb] w (.bool ((n:Int)==0)):=by
 have h0:w.cell? ⟨tb,0,none⟩=some (.int .i64 3):=cB (o:=0) h rfl;have h3:w.cell? ⟨tb,3,none⟩=some (Ptr rb):=cB (o:=3) h rfl;have h6:w.cell? ⟨tb,6,none⟩=some (.slice a n c):=cB (o:=6) h rfl;clear h;go_enter Tryz.func74,Tryz.ntmps74;go_wp2_with fail;go_ret;exact⟨rfl,rfl⟩
theorem shp_4 (tb:Nat)(at_:Int)(name text back:List UInt8)(w:World)(rv:Value)(a:Option Addr)(n c:Nat)(rb:Nat)(h:TermAt w tb 4 at_ name (Ptr rb) text back (.slice a n c)):Pure 74 #[Ptr tb] w (.bool ((n:Int)==0)):=by
 have h0:w.cell? ⟨tb,0,none⟩=some (.int .i64 4):=cB (o:=0) h rfl;have h3:w.cell? ⟨tb,3,none⟩=some (Ptr rb):=cB (o:=3) h rfl;have h6:w.cell? ⟨tb,6,none⟩=some (.slice a n c):=cB (o:=6) h rfl;clear h;go_enter Tryz.func74,Tryz.ntmps74;go_wp2_with fail;go_ret;exact⟨rfl,rfl⟩
theorem shp_5 (tb:Nat)(at_:Int)(name text back:List UInt8)(w:World)(rv:Value)(a:Option Addr)(n c:Nat)(rb:Nat)(h:TermAt w tb 5 at_ name (Ptr rb) text back (.slice a n c)):Pure 74 #[Ptr tb] w (.bool ((n:Int)==0)):=by
 have h0:w.cell? ⟨tb,0,none⟩=some (.int .i64 5):=cB (o:=0) h rfl;have h3:w.cell? ⟨tb,3,none⟩=some (Ptr rb):=cB (o:=3) h rfl;have h6:w.cell? ⟨tb,6,none⟩=some (.slice a n c):=cB (o:=6) h rfl;clear h;go_enter Tryz.func74,Tryz.ntmps74;go_wp2_with fail;go_ret;exact⟨rfl,rfl⟩
theorem shp_16 (tb:Nat)(at_:Int)(name text back:List UInt8)(w:World)(rv:Value)(a:Option Addr)(n c:Nat)(rb:Nat)(h:TermAt w tb 16 at_ name (Ptr rb) text back (.slice a n c)):Pure 74 #[Ptr tb] w (.bool ((n:Int)==0)):=by
 have h0:w.cell? ⟨tb,0,none⟩=some (.int .i64 16):=cB (o:=0) h rfl;have h3:w.cell? ⟨tb,3,none⟩=some (Ptr rb):=cB (o:=3) h rfl;have h6:w.cell? ⟨tb,6,none⟩=some (.slice a n c):=cB (o:=6) h rfl;clear h;go_enter Tryz.func74,Tryz.ntmps74;go_wp2_with fail;go_ret;exact⟨rfl,rfl⟩
theorem shp_17 (tb:Nat)(at_:Int)(name text back:List UInt8)(w:World)(rv:Value)(a:Option Addr)(n c:Nat)(rb:Nat)(h:TermAt w tb 17 at_ name (Ptr rb) text back (.slice a n c)):Pure 74 #[Ptr tb] w (.bool ((n:Int)==0)):=by
 have h0:w.cell? ⟨tb,0,none⟩=some (.int .i64 17):=cB (o:=0) h rfl;have h3:w.cell? ⟨tb,3,none⟩=some (Ptr rb):=cB (o:=3) h rfl;have h6:w.cell? ⟨tb,6,none⟩=some (.slice a n c):=cB (o:=6) h rfl;clear h;go_enter Tryz.func74,Tryz.ntmps74;go_wp2_with fail;go_ret;exact⟨rfl,rfl⟩
theorem shp_6 (tb:Nat)(at_:Int)(name text back:List UInt8)(w:World)(rv:Value)(a:Option Addr)(n c:Nat)  (h:TermAt w tb 6 at_ name (rv) text back (.slice a n c)):Pure 74 #[Ptr tb] w (.bool ((n:Int)==0)):=by
 have h0:w.cell? ⟨tb,0,none⟩=some (.int .i64 6):=cB (o:=0) h rfl;have h3:w.cell? ⟨tb,3,none⟩=some (rv):=cB (o:=3) h rfl;have h6:w.cell? ⟨tb,6,none⟩=some (.slice a n c):=cB (o:=6) h rfl;clear h;go_enter Tryz.func74,Tryz.ntmps74;go_wp2_with fail;go_ret;exact⟨rfl,rfl⟩
theorem shpn_2 (tb:Nat)(at_:Int)(name text back:List UInt8)(w:World)(a:Option Addr)(n c:Nat)(h:TermAt w tb 2 at_ name (.pointer none) text back (.slice a n c)):Pure 74 #[Ptr tb] w (.bool false):=by
 have h0:w.cell? ⟨tb,0,none⟩=some (.int .i64 2):=cB (o:=0) h rfl;have h3:w.cell? ⟨tb,3,none⟩=some (.pointer none):=cB (o:=3) h rfl;have h6:w.cell? ⟨tb,6,none⟩=some (.slice a n c):=cB (o:=6) h rfl;clear h;go_enter Tryz.func74,Tryz.ntmps74;go_wp2_with fail;go_ret;exact⟨rfl,rfl⟩
theorem shpn_3 (tb:Nat)(at_:Int)(name text back:List UInt8)(w:World)(a:Option Addr)(n c:Nat)(h:TermAt w tb 3 at_ name (.pointer none) text back (.slice a n c)):Pure 74 #[Ptr tb] w (.bool false):=by
 have h0:w.cell? ⟨tb,0,none⟩=some (.int .i64 3):=cB (o:=0) h rfl;have h3:w.cell? ⟨tb,3,none⟩=some (.pointer none):=cB (o:=3) h rfl;have h6:w.cell? ⟨tb,6,none⟩=some (.slice a n c):=cB (o:=6) h rfl;clear h;go_enter Tryz.func74,Tryz.ntmps74;go_wp2_with fail;go_ret;exact⟨rfl,rfl⟩
theorem shpn_4 (tb:Nat)(at_:Int)(name text back:List UInt8)(w:World)(a:Option Addr)(n c:Nat)(h:TermAt w tb 4 at_ name (.pointer none) text back (.slice a n c)):Pure 74 #[Ptr tb] w (.bool false):=by
 have h0:w.cell? ⟨tb,0,none⟩=some (.int .i64 4):=cB (o:=0) h rfl;have h3:w.cell? ⟨tb,3,none⟩=some (.pointer none):=cB (o:=3) h rfl;have h6:w.cell? ⟨tb,6,none⟩=some (.slice a n c):=cB (o:=6) h rfl;clear h;go_enter Tryz.func74,Tryz.ntmps74;go_wp2_with fail;go_ret;exact⟨rfl,rfl⟩
theorem shpn_5 (tb:Nat)(at_:Int)(name text back:List UInt8)(w:World)(a:Option Addr)(n c:Nat)(h:TermAt w tb 5 at_ name (.pointer none) text back (.slice a n c)):Pure 74 #[Ptr tb] w (.bool false):=by
 have h0:w.cell? ⟨tb,0,none⟩=some (.int .i64 5):=cB (o:=0) h rfl;have h3:w.cell? ⟨tb,3,none⟩=some (.pointer none):=cB (o:=3) h rfl;have h6:w.cell? ⟨tb,6,none⟩=some (.slice a n c):=cB (o:=6) h rfl;clear h;go_enter Tryz.func74,Tryz.ntmps74;go_wp2_with fail;go_ret;exact⟨rfl,rfl⟩
theorem shpn_16 (tb:Nat)(at_:Int)(name text back:List UInt8)(w:World)(a:Option Addr)(n c:Nat)(h:TermAt w tb 16 at_ name (.pointer none) text back (.slice a n c)):Pure 74 #[Ptr tb] w (.bool false):=by
 have h0:w.cell? ⟨tb,0,none⟩=some (.int .i64 16):=cB (o:=0) h rfl;have h3:w.cell? ⟨tb,3,none⟩=some (.pointer none):=cB (o:=3) h rfl;have h6:w.cell? ⟨tb,6,none⟩=some (.slice a n c):=cB (o:=6) h rfl;clear h;go_enter Tryz.func74,Tryz.ntmps74;go_wp2_with fail;go_ret;exact⟨rfl,rfl⟩
theorem shpn_17 (tb:Nat)(at_:Int)(name text back:List UInt8)(w:World)(a:Option Addr)(n c:Nat)(h:TermAt w tb 17 at_ name (.pointer none) text back (.slice a n c)):Pure 74 #[Ptr tb] w (.bool false):=by
 have h0:w.cell? ⟨tb,0,none⟩=some (.int .i64 17):=cB (o:=0) h rfl;have h3:w.cell? ⟨tb,3,none⟩=some (.pointer none):=cB (o:=3) h rfl;have h6:w.cell? ⟨tb,6,none⟩=some (.slice a n c):=cB (o:=6) h rfl;clear h;go_enter Tryz.func74,Tryz.ntmps74;go_wp2_with fail;go_ret;exact⟨rfl,rfl⟩
theorem shp_7 (tb:Nat)(at_:Int)(name text back:List UInt8)(w:World)(rv:Value)(a:Option Addr)(n c:Nat)  (h:TermAt w tb 7 at_ name (rv) text back (.slice a n c)):Pure 74 #[Ptr tb] w (.bool ((n:Int)==2)):=by
 have h0:w.cell? ⟨tb,0,none⟩=some (.int .i64 7):=cB (o:=0) h rfl;have h3:w.cell? ⟨tb,3,none⟩=some (rv):=cB (o:=3) h rfl;have h6:w.cell? ⟨tb,6,none⟩=some (.slice a n c):=cB (o:=6) h rfl;clear h;go_enter Tryz.func74,Tryz.ntmps74;go_wp2_with fail;go_ret;exact⟨rfl,rfl⟩
theorem shp_8 (tb:Nat)(at_:Int)(name text back:List UInt8)(w:World)(rv:Value)(a:Option Addr)(n c:Nat)  (h:TermAt w tb 8 at_ name (rv) text back (.slice a n c)):Pure 74 #[Ptr tb] w (.bool ((n:Int)==2)):=by
 have h0:w.cell? ⟨tb,0,none⟩=some (.int .i64 8):=cB (o:=0) h rfl;have h3:w.cell? ⟨tb,3,none⟩=some (rv):=cB (o:=3) h rfl;have h6:w.cell? ⟨tb,6,none⟩=some (.slice a n c):=cB (o:=6) h rfl;clear h;go_enter Tryz.func74,Tryz.ntmps74;go_wp2_with fail;go_ret;exact⟨rfl,rfl⟩
theorem shp_10 (tb:Nat)(at_:Int)(name text back:List UInt8)(w:World)(rv:Value)(a:Option Addr)(n c:Nat)  (h:TermAt w tb 10 at_ name (rv) text back (.slice a n c)):Pure 74 #[Ptr tb] w (.bool ((n:Int)==2)):=by
 have h0:w.cell? ⟨tb,0,none⟩=some (.int .i64 10):=cB (o:=0) h rfl;have h3:w.cell? ⟨tb,3,none⟩=some (rv):=cB (o:=3) h rfl;have h6:w.cell? ⟨tb,6,none⟩=some (.slice a n c):=cB (o:=6) h rfl;clear h;go_enter Tryz.func74,Tryz.ntmps74;go_wp2_with fail;go_ret;exact⟨rfl,rfl⟩
theorem shp_11 (tb:Nat)(at_:Int)(name text back:List UInt8)(w:World)(rv:Value)(a:Option Addr)(n c:Nat)  (h:TermAt w tb 11 at_ name (rv) text back (.slice a n c)):Pure 74 #[Ptr tb] w (.bool ((n:Int)==2)):=by
 have h0:w.cell? ⟨tb,0,none⟩=some (.int .i64 11):=cB (o:=0) h rfl;have h3:w.cell? ⟨tb,3,none⟩=some (rv):=cB (o:=3) h rfl;have h6:w.cell? ⟨tb,6,none⟩=some (.slice a n c):=cB (o:=6) h rfl;clear h;go_enter Tryz.func74,Tryz.ntmps74;go_wp2_with fail;go_ret;exact⟨rfl,rfl⟩
theorem shp_14 (tb:Nat)(at_:Int)(name text back:List UInt8)(w:World)(rv:Value)(a:Option Addr)(n c:Nat)  (h:TermAt w tb 14 at_ name (rv) text back (.slice a n c)):Pure 74 #[Ptr tb] w (.bool ((n:Int)==2)):=by
 have h0:w.cell? ⟨tb,0,none⟩=some (.int .i64 14):=cB (o:=0) h rfl;have h3:w.cell? ⟨tb,3,none⟩=some (rv):=cB (o:=3) h rfl;have h6:w.cell? ⟨tb,6,none⟩=some (.slice a n c):=cB (o:=6) h rfl;clear h;go_enter Tryz.func74,Tryz.ntmps74;go_wp2_with fail;go_ret;exact⟨rfl,rfl⟩
theorem shp_15 (tb:Nat)(at_:Int)(name text back:List UInt8)(w:World)(rv:Value)(a:Option Addr)(n c:Nat)  (h:TermAt w tb 15 at_ name (rv) text back (.slice a n c)):Pure 74 #[Ptr tb] w (.bool ((n:Int)==2)):=by
 have h0:w.cell? ⟨tb,0,none⟩=some (.int .i64 15):=cB (o:=0) h rfl;have h3:w.cell? ⟨tb,3,none⟩=some (rv):=cB (o:=3) h rfl;have h6:w.cell? ⟨tb,6,none⟩=some (.slice a n c):=cB (o:=6) h rfl;clear h;go_enter Tryz.func74,Tryz.ntmps74;go_wp2_with fail;go_ret;exact⟨rfl,rfl⟩
theorem shp_9 (tb:Nat)(at_:Int)(name text back:List UInt8)(w:World)(rv:Value)(a:Option Addr)(n c:Nat)  (h:TermAt w tb 9 at_ name (rv) text back (.slice a n c)):Pure 74 #[Ptr tb] w (.bool ((n:Int)==1)):=by
 have h0:w.cell? ⟨tb,0,none⟩=some (.int .i64 9):=cB (o:=0) h rfl;have h3:w.cell? ⟨tb,3,none⟩=some (rv):=cB (o:=3) h rfl;have h6:w.cell? ⟨tb,6,none⟩=some (.slice a n c):=cB (o:=6) h rfl;clear h;go_enter Tryz.func74,Tryz.ntmps74;go_wp2_with fail;go_ret;exact⟨rfl,rfl⟩
theorem shp_12 (tb:Nat)(at_:Int)(name text back:List UInt8)(w:World)(rv:Value)(a:Option Addr)(n c:Nat)  (h:TermAt w tb 12 at_ name (rv) text back (.slice a n c)):Pure 74 #[Ptr tb] w (.bool ((n:Int)==1)):=by
 have h0:w.cell? ⟨tb,0,none⟩=some (.int .i64 12):=cB (o:=0) h rfl;have h3:w.cell? ⟨tb,3,none⟩=some (rv):=cB (o:=3) h rfl;have h6:w.cell? ⟨tb,6,none⟩=some (.slice a n c):=cB (o:=6) h rfl;clear h;go_enter Tryz.func74,Tryz.ntmps74;go_wp2_with fail;go_ret;exact⟨rfl,rfl⟩
theorem shp_13 (tb:Nat)(at_:Int)(name text back:List UInt8)(w:World)(rv:Value)(a:Option Addr)(n c:Nat)  (h:TermAt w tb 13 at_ name (rv) text back (.slice a n c)):Pure 74 #[Ptr tb] w (.bool ((n:Int)==1)):=by
 have h0:w.cell? ⟨tb,0,none⟩=some (.int .i64 13):=cB (o:=0) h rfl;have h3:w.cell? ⟨tb,3,none⟩=some (rv):=cB (o:=3) h rfl;have h6:w.cell? ⟨tb,6,none⟩=some (.slice a n c):=cB (o:=6) h rfl;clear h;go_enter Tryz.func74,Tryz.ntmps74;go_wp2_with fail;go_ret;exact⟨rfl,rfl⟩
theorem nat_eqb (n m:Nat):((n:Int)==(m:Int))=(n==m):=by rw[Bool.eq_iff_iff];simp only[beq_iff_eq];omega
def RvO (re:Option Pv.R)(rv:Value):Prop:=if re.isSome then ∃b,rv=Ptr b else rv = .pointer none
theorem ReO.rv {w:World}:∀ {re:Option Pv.R} {rv:Value},ReO H w re rv→RvO re rv
 | none,_,h=>h
 | some _,_,h=>by obtain⟨b,e,_⟩:=h;exact⟨b,e⟩
theorem shaped_all (op tb:Nat)(at_:Int)(name text back:List UInt8)(w:World)(re:Option Pv.R)(rv:Value)(hr:RvO re rv)(a:Option Addr)(n c:Nat)(h2:2≤op)(h17:op≤17)(h:TermAt w tb op at_ name rv text back (.slice a n c)):
  Pure 74 #[Ptr tb] w (.bool (Pv.shapedOf op re.isSome n)):=by
 have e0:((n:Int)==0)=(n==0):=nat_eqb n 0;have e1:((n:Int)==1)=(n==1):=nat_eqb n 1;have e2:((n:Int)==2)=(n==2):=nat_eqb n 2;have hop:op=2∨op=3∨op=4∨op=5∨op=16∨op=17∨op=6∨op=7∨op=8∨op=10∨op=11∨op=14∨op=15∨op=9∨op=12∨op=13:=by omega
 rcases hop with rfl|rfl|rfl|rfl|rfl|rfl|rfl|rfl|rfl|rfl|rfl|rfl|rfl|rfl|rfl|rfl
 ·cases re with
  | none=>have hr':rv = .pointer none:=hr;subst hr';exact shpn_2 tb at_ name text back w a n c h
  | some r=>obtain⟨rb,rfl⟩:=hr;have:=shp_2 tb at_ name text back w (Ptr rb) a n c rb h;rw[e0]at this;simpa [Pv.shapedOf] using this
 ·cases re with
  | none=>have hr':rv = .pointer none:=hr;subst hr';exact shpn_3 tb at_ name text back w a n c h
  | some r=>obtain⟨rb,rfl⟩:=hr;have:=shp_3 tb at_ name text back w (Ptr rb) a n c rb h;rw[e0]at this;simpa [Pv.shapedOf] using this
 ·cases re with
  | none=>have hr':rv = .pointer none:=hr;subst hr';exact shpn_4 tb at_ name text back w a n c h
  | some r=>obtain⟨rb,rfl⟩:=hr;have:=shp_4 tb at_ name text back w (Ptr rb) a n c rb h;rw[e0]at this;simpa [Pv.shapedOf] using this
 ·cases re with
  | none=>have hr':rv = .pointer none:=hr;subst hr';exact shpn_5 tb at_ name text back w a n c h
  | some r=>obtain⟨rb,rfl⟩:=hr;have:=shp_5 tb at_ name text back w (Ptr rb) a n c rb h;rw[e0]at this;simpa [Pv.shapedOf] using this
 ·cases re with
  | none=>have hr':rv = .pointer none:=hr;subst hr';exact shpn_16 tb at_ name text back w a n c h
  | some r=>obtain⟨rb,rfl⟩:=hr;have:=shp_16 tb at_ name text back w (Ptr rb) a n c rb h;rw[e0]at this;simpa [Pv.shapedOf] using this
 ·cases re with
  | none=>have hr':rv = .pointer none:=hr;subst hr';exact shpn_17 tb at_ name text back w a n c h
  | some r=>obtain⟨rb,rfl⟩:=hr;have:=shp_17 tb at_ name text back w (Ptr rb) a n c rb h;rw[e0]at this;simpa [Pv.shapedOf] using this
 ·have:=shp_6 tb at_ name text back w rv a n c h;rw[e0]at this;simpa [Pv.shapedOf] using this
 ·have:=shp_7 tb at_ name text back w rv a n c h;rw[e2]at this;simpa [Pv.shapedOf] using this
 ·have:=shp_8 tb at_ name text back w rv a n c h;rw[e2]at this;simpa [Pv.shapedOf] using this
 ·have:=shp_10 tb at_ name text back w rv a n c h;rw[e2]at this;simpa [Pv.shapedOf] using this
 ·have:=shp_11 tb at_ name text back w rv a n c h;rw[e2]at this;simpa [Pv.shapedOf] using this
 ·have:=shp_14 tb at_ name text back w rv a n c h;rw[e2]at this;simpa [Pv.shapedOf] using this
 ·have:=shp_15 tb at_ name text back w rv a n c h;rw[e2]at this;simpa [Pv.shapedOf] using this
 ·have:=shp_9 tb at_ name text back w rv a n c h;rw[e1]at this;simpa [Pv.shapedOf] using this
 ·have:=shp_12 tb at_ name text back w rv a n c h;rw[e1]at this;simpa [Pv.shapedOf] using this
 ·have:=shp_13 tb at_ name text back w rv a n c h;rw[e1]at this;simpa [Pv.shapedOf] using this
end Go.Proofs.YtinpjfnnfkjbmaaGreatDoor
namespace Go.Proofs.YtinpjfnnfkjbmaaGreatDoor
open Go.RowKit Go.Maps
variable {H:Nat→Prop}
theorem shaped_len {op:Nat}{re:Bool}{n:Nat}(h:Pv.shapedOf op re n=true):n≤2:=by
 unfold Pv.shapedOf at h;split at h
 ·simp only[Bool.and_eq_true,beq_iff_eq]at h;omega
 ·split at h
  ·simp only[beq_iff_eq]at h;omega
  ·split at h
   ·simp only[beq_iff_eq]at h;omega
   ·split at h
    ·simp only[beq_iff_eq]at h;omega
    ·cases h
theorem tsize_eq (t:Pv.T):Pv.tsize t=1+Pv.tsizes t.kids:=by cases t;rfl
theorem TAt.cells {w:World}{t:Pv.T}{b:Nat}(h:TAt H w t b):∃(a:Option Addr) (c:Nat) (bs:List Nat),w.cell? ⟨b,0,none⟩=some (.int .i64 (t.op:Int))∧w.cell? ⟨b,4,none⟩=some (Str t.text)∧w.cell? ⟨b,5,none⟩=some (Str t.back) ∧
  w.cell? ⟨b,6,none⟩=some (.slice a bs.length c)∧Sl w a c (bs.map Ptr)∧TsAt H w t.kids bs∧bs.length=t.kids.length:=by
 obtain⟨_,rv,a,c,bs,_,_,h1,h2,h3⟩:=h.open_;exact⟨a,c,bs,cB (o:=0) h1 rfl,cB (o:=4) h1 rfl,cB (o:=5) h1 rfl,cB (o:=6) h1 rfl,h2,h3,h3.length⟩
end Go.Proofs.YtinpjfnnfkjbmaaGreatDoor
namespace Go.Proofs.YtinpjfnnfkjbmaaGreatDoor
open Go.RowKit Go.Maps
variable {H:Nat→Prop}
theorem canon_bad (tb op c bb:Nat)(at_:Int)(w:World)(hd:HeadAt w tb op at_)(hc:CkAt w c bb {})(hsh:Pure 74 #[Ptr tb] w (.bool false)):
  Calls Tryz.prog 44 #[Ptr c,Ptr tb] w fun en w'=>en = .returned (.pointer none)∧CkAt w' c bb { e:=8,op:=op,at_:=at_ }∧Keep (· = c) w w':=by
 have hf:=fail_some c bb {} w hc rfl 8 tb op at_ hd false [];have HF:=Hy hf;have HSh:=Hy hsh;clear hf hsh hd hc;go_enter Tryz.func44,Tryz.ntmps44;go_wp2_with fail;refine HSh.out.mono ?_;rintro e w' ⟨rfl,rfl⟩;go_wp2_with fail;refine HF.out.mono ?_;rintro e w1 ⟨rfl,hc1,hk1⟩;have HC1:=Hy hc1;have HK1:=Hy hk1;clear hc1 hk1 HF;go_wp2_with fail;go_ret;exact⟨rfl,HC1.out,HK1.out⟩
theorem canon_sort (tb op c bb:Nat)(at_:Int)(w:World)(hop:op=2∨op=3∨op=4∨op=5∨op=6∨op=10∨op=11∨op=12∨op=13∨op=14∨op=15)(hd:HeadAt w tb op at_)(hc:CkAt w c bb {})(hsh:Pure 74 #[Ptr tb] w (.bool true)):
  Calls Tryz.prog 44 #[Ptr c,Ptr tb] w fun en w'=>en = .returned (.pointer none)∧CkAt w' c bb { e:=8,op:=op,at_:=at_ }∧Keep (· = c) w w':=by
 have hf:=fail_some c bb {} w hc rfl 8 tb op at_ hd false [];have h0:w.cell? ⟨tb,0,none⟩=some (.int .i64 (op:Int)):=by obtain⟨cs,h1,h2,_⟩:=hd;exact cB h1 h2
 obtain⟨Q,hQ⟩:∃Q:World→Prop,(fun w'=>CkAt w' c bb { e:=8,op:=op,at_:=at_ }∧Keep (· = c) w w')=Q:=⟨_,rfl⟩
 have hf':Calls Tryz.prog 75 #[Ptr c,.int .i64 8,Ptr tb,.bool false,Str []] w fun en w'=>en = .returned (.bool false)∧Q w':=by rw[←hQ];exact hf
 show Calls _ _ _ _ fun en w'=>en = .returned (.pointer none)∧(fun w'=>CkAt w' c bb { e:=8,op:=op,at_:=at_ }∧Keep (· = c) w w') w'
 rw[hQ];have HF:=Hy hf';have HSh:=Hy hsh;clear hf hf' hsh hd hc hQ;have hcell:∀n:Nat,op=n→w.cell? ⟨tb,0,none⟩=some (.int .i64 (n:Int)):=fun n e=>by rw[h0,e]
 clear h0;rcases hop with e|e|e|e|e|e|e|e|e|e|e
 ·
  have h0:w.cell? ⟨tb,0,none⟩=some (.int .i64 2):=hcell 2 e;clear hcell e;go_enter Tryz.func44,Tryz.ntmps44;go_wp2_with fail;refine HSh.out.mono ?_;rintro e w' ⟨rfl,rfl⟩;go_wp2_with fail;refine HF.out.mono ?_;rintro e w1 ⟨rfl,hc1⟩;have HC1:=Hy hc1;clear hc1 HF h0;go_wp2_with fail;go_ret;exact⟨rfl,HC1.out⟩
 ·
  have h0:w.cell? ⟨tb,0,none⟩=some (.int .i64 3):=hcell 3 e;clear hcell e;go_enter Tryz.func44,Tryz.ntmps44;go_wp2_with fail;refine HSh.out.mono ?_;rintro e w' ⟨rfl,rfl⟩;go_wp2_with fail;refine HF.out.mono ?_;rintro e w1 ⟨rfl,hc1⟩;have HC1:=Hy hc1;clear hc1 HF h0;go_wp2_with fail;go_ret;exact⟨rfl,HC1.out⟩
 ·
  have h0:w.cell? ⟨tb,0,none⟩=some (.int .i64 4):=hcell 4 e;clear hcell e;go_enter Tryz.func44,Tryz.ntmps44;go_wp2_with fail;refine HSh.out.mono ?_;rintro e w' ⟨rfl,rfl⟩;go_wp2_with fail;refine HF.out.mono ?_;rintro e w1 ⟨rfl,hc1⟩;have HC1:=Hy hc1;clear hc1 HF h0;go_wp2_with fail;go_ret;exact⟨rfl,HC1.out⟩
 ·
  have h0:w.cell? ⟨tb,0,none⟩=some (.int .i64 5):=hcell 5 e;clear hcell e;go_enter Tryz.func44,Tryz.ntmps44;go_wp2_with fail;refine HSh.out.mono ?_;rintro e w' ⟨rfl,rfl⟩;go_wp2_with fail;refine HF.out.mono ?_;rintro e w1 ⟨rfl,hc1⟩;have HC1:=Hy hc1;clear hc1 HF h0;go_wp2_with fail;go_ret;exact⟨rfl,HC1.out⟩
 ·
  have h0:w.cell? ⟨tb,0,none⟩=some (.int .i64 6):=hcell 6 e;clear hcell e;go_enter Tryz.func44,Tryz.ntmps44;go_wp2_with fail;refine HSh.out.mono ?_;rintro e w' ⟨rfl,rfl⟩;go_wp2_with fail;refine HF.out.mono ?_;rintro e w1 ⟨rfl,hc1⟩;have HC1:=Hy hc1;clear hc1 HF h0;go_wp2_with fail;go_ret;exact⟨rfl,HC1.out⟩
 ·
  have h0:w.cell? ⟨tb,0,none⟩=some (.int .i64 10):=hcell 10 e;clear hcell e;go_enter Tryz.func44,Tryz.ntmps44;go_wp2_with fail;refine HSh.out.mono ?_;rintro e w' ⟨rfl,rfl⟩;go_wp2_with fail;refine HF.out.mono ?_;rintro e w1 ⟨rfl,hc1⟩;have HC1:=Hy hc1;clear hc1 HF h0;go_wp2_with fail;go_ret;exact⟨rfl,HC1.out⟩
 ·
  have h0:w.cell? ⟨tb,0,none⟩=some (.int .i64 11):=hcell 11 e;clear hcell e;go_enter Tryz.func44,Tryz.ntmps44;go_wp2_with fail;refine HSh.out.mono ?_;rintro e w' ⟨rfl,rfl⟩;go_wp2_with fail;refine HF.out.mono ?_;rintro e w1 ⟨rfl,hc1⟩;have HC1:=Hy hc1;clear hc1 HF h0;go_wp2_with fail;go_ret;exact⟨rfl,HC1.out⟩
 ·
  have h0:w.cell? ⟨tb,0,none⟩=some (.int .i64 12):=hcell 12 e;clear hcell e;go_enter Tryz.func44,Tryz.ntmps44;go_wp2_with fail;refine HSh.out.mono ?_;rintro e w' ⟨rfl,rfl⟩;go_wp2_with fail;refine HF.out.mono ?_;rintro e w1 ⟨rfl,hc1⟩;have HC1:=Hy hc1;clear hc1 HF h0;go_wp2_with fail;go_ret;exact⟨rfl,HC1.out⟩
 ·
  have h0:w.cell? ⟨tb,0,none⟩=some (.int .i64 13):=hcell 13 e;clear hcell e;go_enter Tryz.func44,Tryz.ntmps44;go_wp2_with fail;refine HSh.out.mono ?_;rintro e w' ⟨rfl,rfl⟩;go_wp2_with fail;refine HF.out.mono ?_;rintro e w1 ⟨rfl,hc1⟩;have HC1:=Hy hc1;clear hc1 HF h0;go_wp2_with fail;go_ret;exact⟨rfl,HC1.out⟩
 ·
  have h0:w.cell? ⟨tb,0,none⟩=some (.int .i64 14):=hcell 14 e;clear hcell e;go_enter Tryz.func44,Tryz.ntmps44;go_wp2_with fail;refine HSh.out.mono ?_;rintro e w' ⟨rfl,rfl⟩;go_wp2_with fail;refine HF.out.mono ?_;rintro e w1 ⟨rfl,hc1⟩;have HC1:=Hy hc1;clear hc1 HF h0;go_wp2_with fail;go_ret;exact⟨rfl,HC1.out⟩
 ·
  have h0:w.cell? ⟨tb,0,none⟩=some (.int .i64 15):=hcell 15 e;clear hcell e;go_enter Tryz.func44,Tryz.ntmps44;go_wp2_with fail;refine HSh.out.mono ?_;rintro e w' ⟨rfl,rfl⟩;go_wp2_with fail;refine HF.out.mono ?_;rintro e w1 ⟨rfl,hc1⟩;have HC1:=Hy hc1;clear hc1 HF h0;go_wp2_with fail;go_ret;exact⟨rfl,HC1.out⟩
end Go.Proofs.YtinpjfnnfkjbmaaGreatDoor
