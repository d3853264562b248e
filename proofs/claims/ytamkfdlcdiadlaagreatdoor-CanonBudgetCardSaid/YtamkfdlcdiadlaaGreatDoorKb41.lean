/- Plain laws: no layer leaves more than there was. -/
import Derived.Test.YtamkfdlcdiadlaaGreatDoorKb03
import Derived.Test.YtamkfdlcdiadlaaGreatDoorKb24
import Derived.Test.YtamkfdlcdiadlaaGreatDoorKb01
import Derived.Test.YtamkfdlcdiadlaaGreatDoorKb05
import Derived.Test.YtamkfdlcdiadlaaGreatDoorKb25
import Derived.Test.YtamkfdlcdiadlaaGreatDoorKb28
import Derived.Test.YtamkfdlcdiadlaaGreatDoorKb11
import Derived.Test.YtamkfdlcdiadlaaGreatDoorKb38
import Derived.Test.YtamkfdlcdiadlaaGreatDoorKb31
import Derived.Test.YtamkfdlcdiadlaaGreatDoorKb34
import Derived.Test.YtamkfdlcdiadlaaGreatDoorKb37
import Derived.Test.YtamkfdlcdiadlaaGreatDoorKb29
set_option linter.all false
namespace Pv
theorem addSpot_le {x:Spot}{s:Step}{l l':Trail}{n n':Nat}(h:addSpot x s l n=some (l',n')):n'≤n:=by rcases addSpot_spec h with⟨_,e⟩|⟨_,e⟩<;>omega
theorem catFree_le {A:Dfa}:∀(f i:Nat) (l:Trail) (n:Nat),(catFree A f i l n).1≤n
 | 0,_,_,_=>Nat.le_refl _
 | f+1,i,l,n=>by
   unfold catFree;split
   ·exact Nat.le_refl _
   ·split
    ·exact catFree_le f _ l n
    ·split
     ·exact Nat.le_refl _
     ·rename_i h;exact Nat.le_trans (catFree_le f _ _ _) (addSpot_le h)
theorem catBytes_le {A B:Dfa}{i:Nat}{x:Spot}:∀(hs:List UInt8) (l:Trail) (n:Nat),(catBytes A B i x hs l n).1≤n
 | [],_,_=>Nat.le_refl _
 | h::hs,l,n=>by
   unfold catBytes;split
   ·exact catBytes_le hs l n
   ·split
    ·exact Nat.le_refl _
    ·rename_i h;exact Nat.le_trans (catBytes_le hs _ _) (addSpot_le h)
theorem catMore_le {A B:Dfa}{heads:List UInt8}:∀(k i:Nat) (l:Trail) (n:Nat),(catMore A B heads k i l n).1≤n
 | 0,_,_,_=>Nat.le_refl _
 | k+1,i,l,n=>by
   unfold catMore;split
   ·exact Nat.le_refl _
   ·rename_i x s _;have h1:=catBytes_le (A:=A) (B:=B) (i:=i) (x:=x) heads l n;split
    ·rename_i h;rw[h]at h1;exact h1
    ·rename_i h;rw[h]at h1;exact Nat.le_trans (catMore_le k _ _ _) h1
theorem catGo_le {A B:Dfa}{heads:List UInt8}:∀(f i:Nat) (l:Trail) (n:Nat),(catGo A B heads f i l n).1≤n
 | 0,_,_,_=>Nat.le_refl _
 | f+1,i,l,n=>by
   unfold catGo;split
   ·have h1:=catFree_le (A:=A) (n+l.length+1-i) i l n;split
    ·rename_i h;rw[h]at h1;exact h1
    ·rename_i n1 l1 h;rw[h]at h1;split
     ·exact h1
     ·have h2:=catMore_le (A:=A) (B:=B) (heads:=heads) (l1.length-i) i l1 n1;split
      ·rename_i h;rw[h]at h2;exact Nat.le_trans h2 h1
      ·rename_i h;rw[h]at h2;exact Nat.le_trans (catGo_le f _ _ _) (Nat.le_trans h2 h1)
   ·exact Nat.le_refl _
theorem ambigCat_le (x y:R)(l:Nat):(ambigCat x y l).1≤l:=by
 unfold ambigCat;have h1:=build_left x l;split
 ·rename_i h;rw[h]at h1;exact h1
 ·rename_i l1 A h;rw[h]at h1;have h2:=build_left y l1;split
  ·rename_i h;rw[h]at h2;exact Nat.le_trans h2 h1
  ·rename_i l2 B h;rw[h]at h2;split
   ·exact Nat.le_trans h2 h1
   ·rename_i h;exact Nat.le_trans (catGo_le _ _ _ _) (Nat.le_trans (addSpot_le h) (Nat.le_trans h2 h1))
theorem ambigIter_le (x:R)(l:Nat):(ambigIter x l).1≤l:=by
 unfold ambigIter;split
 ·exact Nat.le_refl _
 ·exact ambigCat_le _ _ _
theorem witness_le (x:R)(l:Nat):(witness x l).1≤l:=by
 unfold witness;have h1:=build_left x l;split
 ·rename_i h;rw[h]at h1;exact h1
 ·rename_i h;rw[h]at h1;exact h1
theorem side_le (x:R)(l:Nat):(side x l).1≤l:=by
 unfold side;have h1:=build_left x l;split
 ·rename_i h;rw[h]at h1;exact h1
 ·rename_i l1 A h;rw[h]at h1;have h2:=build_left (back x) l1;split
  ·rename_i h;rw[h]at h2;exact Nat.le_trans h2 h1
  ·rename_i h;rw[h]at h2;exact Nat.le_trans h2 h1
theorem Ck.fail_left (c:Ck)(e:Nat)(t:Option T)(view:Bool)(text:List UInt8):(c.fail e t view text).left=c.left:=by unfold Ck.fail;split<;>rfl
theorem Ck.told_left (c:Ck)(e:Nat)(t:T)(view:Bool)(r:Nat × Option (Option (List UInt8))):(c.told e t view r).1.left=r.1:=by
 unfold Ck.told;split
 ·rfl
 ·rfl
 ·exact Ck.fail_left _ _ _ _ _
theorem Ck.two_left (c:Ck)(e:Nat)(t:T)(view:Bool)(r:Nat × Option (Option Two)):(c.two e t view r).1.left=r.1:=by
 unfold Ck.two;split
 ·rfl
 ·rfl
 ·exact Ck.fail_left _ _ _ _ _
end Pv
namespace Go.Proofs.YtamkfdlcdiadlaaGreatDoor
open Go.RowKit Go.Maps
variable {H:Nat→Prop}
theorem told_errK (c bb:Nat)(w:World)(h:CkAt w c bb {})(e2:Int)(tv:Value)(view:Bool)(text:List UInt8)(ok:Bool):
  Calls Tryz.prog 139 #[Ptr c,.int .i64 5,.int .i64 e2,tv,.bool view,Str text,.bool ok] w fun en w'=>en = .returned (.bool false)∧CkAt w' c bb { e:=5 }∧Keep (· = c) w w':=by
 have hok:=ok_any c bb {} w h;rw[show(({}:Pv.Fault).e==0)=true from rfl]at hok;have h1:=cB (o:=1) h rfl;have h2:=cB (o:=2) h rfl;have h3:=cB (o:=3) h rfl;have h4:=cB (o:=4) h rfl;have h5:=cB (o:=5) h rfl;have h6:=cB (o:=6) h rfl;have h7:=cB (o:=7) h rfl;have fr:∀o,w.frozen? ⟨c,o,none⟩=false:=fun o=>fob h
 have HC:=Hy h;have HOk:=Hy hok;clear h hok;go_enter Tryz.func139,Tryz.ntmps139;go_wp2_with fail;refine HOk.out.mono ?_;rintro e w' ⟨rfl,rfl⟩;go_wp2_with fail;have hs:=ck_set HC.out { e:=5 };go_ret;exact⟨rfl,hs⟩
theorem told_all (r:Option (Option (List UInt8)))(c bb l l':Nat)(w:World)(h:CkAt w c bb {})(e:Nat)(tb:Nat)(T:Pv.T)(ht:HeadAt w tb T.op T.at_)(view:Bool)(t:List UInt8)(ok:Bool)(er:Nat)(hr:witV r = .tuple #[Str t,.bool ok,.int .i64 (er:Int)]):
  Calls Tryz.prog 139 #[Ptr c,.int .i64 (er:Int),.int .i64 (e:Int),Ptr tb,.bool view,Str t,.bool ok] w fun en w'=>en = .returned (.bool (({ left:=l }:Pv.Ck).told e T view (l',r)).2)∧CkAt w' c bb (({ left:=l }:Pv.Ck).told e T view (l',r)).1.fault∧Keep (· = c) w w':=by
 match r with
 | none=>
   simp only[witV,Value.tuple.injEq,Array.mk.injEq,List.cons.injEq,Value.bool.injEq,Value.int.injEq,and_true,true_and]at hr;obtain⟨h1,h2,h3⟩:=hr;rw[←h3];exact told_errK c bb w h e (Ptr tb) view t ok
 | some none=>
   simp only[witV,Value.tuple.injEq,Array.mk.injEq,List.cons.injEq,Value.bool.injEq,Value.int.injEq,and_true,true_and]at hr;obtain⟨h1,h2,h3⟩:=hr;rw[←h3,←h2];refine(told_true c bb w e (Ptr tb) view t).mono ?_;rintro en w' ⟨rfl,rfl⟩;exact⟨rfl,h,Keep.refl _ _⟩
 | some (some q)=>
   simp only[witV,Value.tuple.injEq,Array.mk.injEq,List.cons.injEq,Value.bool.injEq,Value.int.injEq,and_true,true_and]at hr;obtain⟨h1,h2,h3⟩:=hr;rw[←h3,←h2];have hq:q=t:=by
    injection h1 with h1
    injection h1 with h1
    simpa using h1
   subst hq;exact told_found c bb {} w h rfl e tb T.op T.at_ ht view q
def twoV:Option (Option Pv.Two)→Value
 | none=> .tuple #[.agg #[Str [],.int .i64 0,.int .i64 0],.bool false,.int .i64 5]
 | some none=> .tuple #[.agg #[Str [],.int .i64 0,.int .i64 0],.bool false,.int .i64 0]
 | some (some t)=> .tuple #[.agg #[Str t.text,.int .i64 t.i,.int .i64 t.j],.bool true,.int .i64 0]
theorem twoV_form (r:Option (Option Pv.Two)):∃(t:Pv.Two) (ok:Bool) (e:Nat),twoV r = .tuple #[.agg #[Str t.text,.int .i64 t.i,.int .i64 t.j],.bool ok,.int .i64 (e:Int)]∧(match r with|none=>t=⟨[],0,0⟩∧ok=false∧e=5|some none=>t=⟨[],0,0⟩∧ok=false∧e=0|some (some t')=>t=t'∧ok=true∧e=0):=by
 match r with
 | none=>exact⟨⟨[],0,0⟩,false,5,rfl,rfl,rfl,rfl⟩
 | some none=>exact⟨⟨[],0,0⟩,false,0,rfl,rfl,rfl,rfl⟩
 | some (some t)=>exact⟨t,true,0,rfl,rfl,rfl,rfl⟩
theorem two_quiet (c bb:Nat)(w:World)(e2:Int)(tv:Value)(view:Bool)(t:Pv.Two):
  Calls Tryz.prog 172 #[Ptr c,.int .i64 0,.int .i64 e2,tv,.bool view,.agg #[Str t.text,.int .i64 t.i,.int .i64 t.j],.bool false] w fun en w'=>en = .returned (.bool true)∧Below w.heap.size w w':=by
 have ht:=told_true c bb (w.alloc (.cells #[Str t.text,.int .i64 t.i,.int .i64 t.j] 223)) e2 tv view t.text;go_enter Tryz.func172,Tryz.ntmps172;go_wp2_with fail;refine ht.mono ?_;rintro e w' ⟨rfl,rfl⟩;go_wp2_with fail;go_ret;exact⟨rfl,(Below.refl _ _).alloc (Nat.le_refl _) _⟩
theorem two_err (c bb:Nat)(w:World)(h:CkAt w c bb {})(e2:Int)(tv:Value)(view:Bool)(t:Pv.Two):
  Calls Tryz.prog 172 #[Ptr c,.int .i64 5,.int .i64 e2,tv,.bool view,.agg #[Str t.text,.int .i64 t.i,.int .i64 t.j],.bool false] w fun en w'=>en = .returned (.bool false)∧CkAt w' c bb { e:=5 }∧Keep (· = c) w w':=by
 have hB:Below w.heap.size w (w.alloc (.cells #[Str t.text,.int .i64 t.i,.int .i64 t.j] 223)):=(Below.refl _ _).alloc (Nat.le_refl _) _;have ht:=told_errK c bb (w.alloc (.cells #[Str t.text,.int .i64 t.i,.int .i64 t.j] 223)) (h.later hB) e2 tv view t.text false;have HT:=Hy ht;have HB:=Hy hB;clear ht hB h;go_enter Tryz.func172,Tryz.ntmps172;go_wp2_with fail;refine HT.out.mono ?_
 rintro e w' ⟨rfl,h1,h2⟩;have HF:Hid (CkAt w' c bb { e:=5 }∧Keep (· = c) w w'):=⟨h1,(Keep.of_below HB.out).trans h2⟩
 clear h1 h2 HT HB;go_wp2_with fail;go_ret;exact⟨rfl,HF.out⟩
set_option maxRecDepth 20000 in
theorem two_found (c bb:Nat)(w:World)(h:CkAt w c bb {})(e tb op:Nat)(at_:Int)(ht:HeadAt w tb op at_)(view:Bool)(t:Pv.Two):
  Calls Tryz.prog 172 #[Ptr c,.int .i64 0,.int .i64 (e:Int),Ptr tb,.bool view,.agg #[Str t.text,.int .i64 t.i,.int .i64 t.j],.bool true] w fun en w'=>en = .returned (.bool false)∧CkAt w' c bb { e:=e,op:=op,at_:=at_,view:=view,text:=t.text,i:=t.i,j:=t.j }∧Keep (· = c) w w':=by
 have hB:Below w.heap.size w (w.alloc (.cells #[Str t.text,.int .i64 t.i,.int .i64 t.j] 223)):=(Below.refl _ _).alloc (Nat.le_refl _) _;have hcw:=blk_lt h;have htd:=told_found c bb {} (w.alloc (.cells #[Str t.text,.int .i64 t.i,.int .i64 t.j] 223)) (h.later hB) rfl e tb op at_ (ht.later hB) view t.text
 have hx:(w.alloc (.cells #[Str t.text,.int .i64 t.i,.int .i64 t.j] 223)).heap[w.heap.size]?=some (.cells #[Str t.text,.int .i64 t.i,.int .i64 t.j] 223):=blk_new rfl;have HT:=Hy htd;have HB:=Hy hB;have HX:=Hy hx;clear htd hB h ht hx;go_enter Tryz.func172,Tryz.ntmps172;go_wp2_with fail;refine HT.out.mono ?_;rintro en w2 ⟨rfl,hc2,hk2⟩;have hx2:=hk2.blk (show ¬w.heap.size=c by omega) HX.out
 have x1:=cB (o:=1) hx2 rfl;have x2:=cB (o:=2) hx2 rfl;have c6:=cB (o:=6) hc2 rfl;have c7:=cB (o:=7) hc2 rfl;have fr:∀o,w2.frozen? ⟨c,o,none⟩=false:=fun o=>fob hc2
 have HC2:=Hy hc2;have HK2:Hid (Keep (· = c) w w2):=(Keep.of_below HB.out).trans hk2;have nf:¬(fun x=>x=c) w.heap.size:=fun e=>by simp at e;omega
 clear hc2 hk2 hx2 HT HB HX;go_wp2_with fail;refine Eaq.region (Keep fun x=>x=c) (.mov 0 (.mov 1 (.mov 2 (.mov 3 (.mov 4 (.mov 5 (.mov 6 (.mov 7 (.mov 8 (.anc 9 (.mov 10 (.mov 11 (.mov 12 (.anc 13 Eag.Sch.fin)))))))))))))) [] [] (by kernel_rfl) (by kernel_rfl) (fun K ops hops hK => ?_);iterate 9
  first
   | (refine Eaq.mov hops rfl rfl rfl (fun w' hb => ?_) ?_
      ·have q0:=Keep.cell hb nf x1;have q1:=Keep.cell hb nf x2;clear hb;go_simp)
   | (refine Eaq.movA hops rfl rfl (fun w' => ?_) ?_
      ·go_simp)
  go_simp
 refine Eaq.anc hops rfl rfl ?_;go_wp2_with fail;refine⟨Keep.set rfl,?_⟩;iterate 3
  first
   | (refine Eaq.mov hops rfl rfl rfl (fun w' hb => ?_) ?_
      ·clear hb;go_simp)
   | (refine Eaq.movA hops rfl rfl (fun w' => ?_) ?_
      ·go_simp)
  go_simp
 refine Eaq.anc hops rfl rfl ?_;go_wp2_with fail;refine⟨Keep.set rfl,?_⟩;refine Eaq.fin (hK _ _ ?_);clear hK hops;go_simp;go_wp2_with fail;go_ret;refine⟨rfl,?_,?_⟩
 ·have h1:=HC2.out;unfold CkAt at h1 ⊢;show((w2.setCell ⟨c,6,none⟩ _).setCell ⟨c,7,none⟩ _).heap[c]?=_;rw[blk_set (blk_set h1)];rfl
 ·have K:∀(W:World) (o:Nat) (v:Value),Keep (· = c) W (W.setCell ⟨c,o,none⟩ v):=fun W o v=>Keep.set rfl
  exact(HK2.out.trans ((K _ _ _).trans (K _ _ _))).trans (Keep.drew _)
theorem two_all (r:Option (Option Pv.Two))(c bb l l':Nat)(w:World)(h:CkAt w c bb {})(e:Nat)(he:e≠0)(tb:Nat)(T:Pv.T)(ht:HeadAt w tb T.op T.at_)(view:Bool)(t:Pv.Two)(ok:Bool)(er:Nat)(hr:(match r with|none=>t=⟨[],0,0⟩∧ok=false∧er=5|some none=>t=⟨[],0,0⟩∧ok=false∧er=0|some (some t')=>t=t'∧ok=true∧er=0)):
  Calls Tryz.prog 172 #[Ptr c,.int .i64 (er:Int),.int .i64 (e:Int),Ptr tb,.bool view,.agg #[Str t.text,.int .i64 t.i,.int .i64 t.j],.bool ok] w fun en w'=>en = .returned (.bool (({ left:=l }:Pv.Ck).two e T view (l',r)).2)∧CkAt w' c bb (({ left:=l }:Pv.Ck).two e T view (l',r)).1.fault∧Keep (· = c) w w':=by
 match r with
 | none=>
   obtain⟨rfl,rfl,rfl⟩:=hr;exact two_err c bb w h e (Ptr tb) view _
 | some none=>
   obtain⟨rfl,rfl,rfl⟩:=hr;refine(two_quiet c bb w e (Ptr tb) view _).mono ?_;rintro en w' ⟨rfl,hb⟩;exact⟨rfl,h.later hb,Keep.of_below hb⟩
 | some (some q)=>
   obtain⟨rfl,rfl,rfl⟩:=hr;exact two_found c bb w h e tb T.op T.at_ ht view _
end Go.Proofs.YtamkfdlcdiadlaaGreatDoor
namespace Go.Proofs.YtamkfdlcdiadlaaGreatDoor
open Go.RowKit Go.Maps
variable {H:Nat→Prop}
theorem acat_all (x y:Pv.R)(bx by_ bb l u:Nat)(w:World)(hT:Tab w)(hx:ReAt H w x bx)(hy:ReAt H w y by_)(hbud:BudAt w bb l u)(hbb:H bb)(hH:∀h,H h→h<w.heap.size)
  (hsx:Pv.size x<549755813888) (hsy:Pv.size y<549755813888) (hl:l<274877906944)
  (hhd:∀A B l1,Pv.build x l=(l1,some A)→(Pv.build y l1).2=some B→A.parts.length+B.parts.length≤12):
  Calls Tryz.prog 147 #[Ptr bx,Ptr by_,Ptr bb] w fun e w'=>e = .returned (twoV (Pv.ambigCat x y l).2)∧BudAt w' bb (Pv.ambigCat x y l).1 (u+(l-(Pv.ambigCat x y l).1))∧Keep (· = bb) w w':=
 acat3_any _ x y bx by_ bb l u w hT hx hy hbud hbb hH hsx hsy hl hhd (fun w' h h1 h2=>⟨by rw[h];rfl,h1,h2⟩) (fun w' h h1 h2=>⟨by rw[h];rfl,h1,h2⟩) (fun t w' h h1 h2=>⟨by rw[h];rfl,h1,h2⟩)
theorem keep_zero3 {W:World}{g:Nat}{v0 v1 v2:Value}{B:Nat}{w:World}{bb:Nat}(hk:Keep (· = bb) w W)(hg:w.heap.size≤g):Keep (· = bb) w (((W.setCell ⟨g,0,none⟩ v0).setCell ⟨g,1,none⟩ v1).setCell ⟨g,2,none⟩ v2):=
 hk.trans_ (H1:=(· = g)) (keep_set3 rfl) fun x e=> .inr (by rw[e];exact hg)
set_option maxRecDepth 20000 in
theorem iter_all (x:Pv.R)(bx bb l u:Nat)(w:World)(hT:Tab w)(hx:ReAt H w x bx)(hbud:BudAt w bb l u)(hbb:H bb)(hH:∀h,H h→h<w.heap.size)
  (hsx:Pv.size x<274877906944) (hl:l<274877906944)
  (hhd:Pv.null x=false→∀A B l1,Pv.build x l=(l1,some A)→(Pv.build (Pv.many x) l1).2=some B→A.parts.length+B.parts.length≤12):
  Calls Tryz.prog 146 #[Ptr bx,Ptr bb] w fun e w'=>e = .returned (twoV (Pv.ambigIter x l).2)∧BudAt w' bb (Pv.ambigIter x l).1 (u+(l-(Pv.ambigIter x l).1))∧Keep (· = bb) w w':=by
 have hbw:=blk_lt hbud.2;obtain⟨w1,hw1⟩:∃w1,w.alloc (.cells #[.string ⟨#[]⟩,.int .i64 0,.int .i64 0] 223)=w1:=⟨_,rfl⟩
 have hB1:Below w.heap.size w w1:=by rw[←hw1];exact(Below.refl _ _).alloc (Nat.le_refl _) _
 have hr1:w1.heap[w.heap.size]?=some (.cells #[.string ⟨#[]⟩,.int .i64 0,.int .i64 0] 223):=by rw[←hw1];exact blk_new rfl
 have hnull:=null_any x bx w1 (hx.later hB1);have HW1:=Hy hw1;have HB1:=Hy hB1;have HR1:=Hy hr1;have HT1:=Hy (hT.later hB1);have HX1:=Hy (hx.later hB1);have HBud:=Hy hbud;have HH:=Hy hH;have HHd:=Hy hhd;have hq:Pv.ambigIter x l=if Pv.null x then(l,some (some ⟨[],0,0⟩)) else Pv.ambigCat x (Pv.many x) l:=rfl
 have HQ:=Hy hq;clear hw1 hB1 hr1 hT hx hbud hH hhd hq;cases hn:Pv.null x with
 | true=>
   rw[hn]at hnull;have hq:=HQ.out;rw[hn,if_pos rfl]at hq;rw[hq];have HN:=Hy hnull;clear hnull hn hq HQ;go_enter Tryz.func146,Tryz.ntmps146;go_wp2_with fail;rw[HW1.out];clear HW1;refine HN.out.mono ?_;rintro e w' ⟨rfl,rfl⟩;have r0:=cB (o:=0) HR1.out rfl;have r1:=cB (o:=1) HR1.out rfl;have r2:=cB (o:=2) HR1.out rfl;have fr:∀o,w1.frozen? ⟨w.heap.size,o,none⟩=false:=fun o=>fob HR1.out
   clear HN;go_wp2_with fail;refine bodyPost_ret (v:= .tuple #[.agg #[Str [],.int .i64 0,.int .i64 0],.bool true,.int .i64 0]) ?_ rfl ⟨rfl,?_,?_⟩
   ·simp[results,Tryz.results146,go_sem,r0,r1,r2,Str]
   ·show BudAt _ bb l (u+(l-l));rw[Nat.sub_self,Nat.add_zero];exact(HBud.out.later HB1.out).keep (keep_set3 (b:=w.heap.size) rfl) (show ¬bb=w.heap.size by omega)
   ·exact keep_zero3 (B:=0) (Keep.of_below HB1.out) (Nat.le_refl _)
 | false=>
   rw[hn]at hnull;have hq:=HQ.out;rw[hn,if_neg (by simp)]at hq;rw[hq];have hhd:=HHd.out hn;have HHd2:=Hy hhd;have hlt1:∀h,H h→h<w1.heap.size:=fun h hh=>by have:=HH.out h hh;have:=HB1.out.size;omega
   have hmany:=many_any (H:=H) x bx w1 HX1.out hlt1 (by omega);have hcat:∀(w2:World) (b2:Nat),ReAt H w2 (Pv.many x) b2→Below w1.heap.size w1 w2→Calls Tryz.prog 147 #[Ptr bx,Ptr b2,Ptr bb] w2 fun e w'=>e = .returned (twoV (Pv.ambigCat x (Pv.many x) l).2)∧BudAt w' bb (Pv.ambigCat x (Pv.many x) l).1 (u+(l-(Pv.ambigCat x (Pv.many x) l).1))∧Keep (· = bb) w2 w':=fun w2 b2 h2 hb2=>by
    have hs:=size_many x;exact acat_all (H:=H) x (Pv.many x) bx b2 bb l u w2 (HT1.out.later hb2) (HX1.out.later hb2) h2 ((HBud.out.later HB1.out).later hb2) hbb (fun h hh=>by have:=hlt1 h hh;have:=hb2.size;omega) (by omega) (by omega) hl HHd2.out
   have HN:=Hy hnull;have HMany:=Hy hmany;have HCat:=Hy hcat;generalize Pv.ambigCat x (Pv.many x) l=q at *;obtain⟨l1,o⟩:=q;obtain⟨t,ok,er,hv,hv2⟩:=twoV_form o;have HV:=Hy hv;clear hnull hn hq HQ HHd hhd hlt1 hmany hcat HHd2 hv hv2;go_enter Tryz.func146,Tryz.ntmps146;go_wp2_with fail;rw[HW1.out];clear HW1;refine HN.out.mono ?_;rintro e w' ⟨rfl,rfl⟩;clear HN;go_wp2_with fail;refine HMany.out.mono ?_
   rintro e w2 ⟨b2,rfl,hat2,hb2⟩;have hc2:=HCat.out w2 b2 hat2 hb2;simp only[HV.out]at hc2;have HC2:=Hy hc2;have HB2:=Hy hb2;clear hat2 hb2 hc2 HCat HMany;go_wp2_with fail;refine HC2.out.mono ?_;rintro e w3 ⟨rfl,hb3,hk3⟩;have hrb:=hk3.blk (show ¬w.heap.size=bb by omega) (later_blk HB2.out HR1.out);have r0:=cB (o:=0) hrb rfl;have r1:=cB (o:=1) hrb rfl;have r2:=cB (o:=2) hrb rfl
   have fr:∀o,w3.frozen? ⟨w.heap.size,o,none⟩=false:=fun o=>fob hrb
   have HB3:=Hy hb3;have HK3:Hid (Keep (· = bb) w w3):=(Keep.of_below (HB1.out.trans (HB2.out.mono HB1.out.size))).trans hk3;clear hrb hb3 hk3 HC2;go_wp2_with fail;refine bodyPost_ret (v:= .tuple #[.agg #[Str t.text,.int .i64 t.i,.int .i64 t.j],.bool ok,.int .i64 (er:Int)]) ?_ rfl ⟨congrArg _ HV.out.symm,?_,?_⟩
   ·simp[results,Tryz.results146,go_sem,r0,r1,r2,Str]
   ·exact HB3.out.keep (keep_set3 (b:=w.heap.size) rfl) (show ¬bb=w.heap.size by omega)
   ·exact keep_zero3 (B:=0) HK3.out (Nat.le_refl _)
end Go.Proofs.YtamkfdlcdiadlaaGreatDoor
namespace Go.Proofs.YtamkfdlcdiadlaaGreatDoor
open Go.RowKit Go.Maps
variable {H:Nat→Prop}
theorem canon_bad (tb op c bb:Nat)(at_:Int)(w:World)(hd:HeadAt w tb op at_)(hc:CkAt w c bb {})(hsh:Pure 92 #[Ptr tb] w (.bool false)):
  Calls Tryz.prog 57 #[Ptr c,Ptr tb] w fun en w'=>en = .returned (.pointer none)∧CkAt w' c bb { e:=8,op:=op,at_:=at_ }∧Keep (· = c) w w':=by
 have hf:=fail_some c bb {} w hc rfl 8 tb op at_ hd false [];have HF:=Hy hf;have HSh:=Hy hsh;clear hf hsh hd hc;go_enter Tryz.func57,Tryz.ntmps57;go_wp2_with fail;refine HSh.out.mono ?_;rintro e w' ⟨rfl,rfl⟩;go_wp2_with fail;refine HF.out.mono ?_;rintro e w1 ⟨rfl,hc1,hk1⟩;have HC1:=Hy hc1;have HK1:=Hy hk1;clear hc1 hk1 HF;go_wp2_with fail;go_ret;exact⟨rfl,HC1.out,HK1.out⟩
theorem canon_sort (tb op c bb:Nat)(at_:Int)(w:World)(hop:op=2∨op=3∨op=4∨op=5∨op=6∨op=10∨op=11∨op=12∨op=13∨op=14∨op=15)(hd:HeadAt w tb op at_)(hc:CkAt w c bb {})(hsh:Pure 92 #[Ptr tb] w (.bool true)):
  Calls Tryz.prog 57 #[Ptr c,Ptr tb] w fun en w'=>en = .returned (.pointer none)∧CkAt w' c bb { e:=8,op:=op,at_:=at_ }∧Keep (· = c) w w':=by
 have hf:=fail_some c bb {} w hc rfl 8 tb op at_ hd false [];have h0:w.cell? ⟨tb,0,none⟩=some (.int .i64 (op:Int)):=by obtain⟨cs,h1,h2,_⟩:=hd;exact cB h1 h2
 obtain⟨Q,hQ⟩:∃Q:World→Prop,(fun w'=>CkAt w' c bb { e:=8,op:=op,at_:=at_ }∧Keep (· = c) w w')=Q:=⟨_,rfl⟩
 have hf':Calls Tryz.prog 93 #[Ptr c,.int .i64 8,Ptr tb,.bool false,Str []] w fun en w'=>en = .returned (.bool false)∧Q w':=by rw[←hQ];exact hf
 show Calls _ _ _ _ fun en w'=>en = .returned (.pointer none)∧(fun w'=>CkAt w' c bb { e:=8,op:=op,at_:=at_ }∧Keep (· = c) w w') w'
 rw[hQ];have HF:=Hy hf';have HSh:=Hy hsh;clear hf hf' hsh hd hc hQ;have hcell:∀n:Nat,op=n→w.cell? ⟨tb,0,none⟩=some (.int .i64 (n:Int)):=fun n e=>by rw[h0,e]
 clear h0;rcases hop with e|e|e|e|e|e|e|e|e|e|e
 ·
  have h0:w.cell? ⟨tb,0,none⟩=some (.int .i64 2):=hcell 2 e;clear hcell e;go_enter Tryz.func57,Tryz.ntmps57;go_wp2_with fail;refine HSh.out.mono ?_;rintro e w' ⟨rfl,rfl⟩;go_wp2_with fail;refine HF.out.mono ?_;rintro e w1 ⟨rfl,hc1⟩;have HC1:=Hy hc1;clear hc1 HF h0;go_wp2_with fail;go_ret;exact⟨rfl,HC1.out⟩
 ·
  have h0:w.cell? ⟨tb,0,none⟩=some (.int .i64 3):=hcell 3 e;clear hcell e;go_enter Tryz.func57,Tryz.ntmps57;go_wp2_with fail;refine HSh.out.mono ?_;rintro e w' ⟨rfl,rfl⟩;go_wp2_with fail;refine HF.out.mono ?_;rintro e w1 ⟨rfl,hc1⟩;have HC1:=Hy hc1;clear hc1 HF h0;go_wp2_with fail;go_ret;exact⟨rfl,HC1.out⟩
 ·
  have h0:w.cell? ⟨tb,0,none⟩=some (.int .i64 4):=hcell 4 e;clear hcell e;go_enter Tryz.func57,Tryz.ntmps57;go_wp2_with fail;refine HSh.out.mono ?_;rintro e w' ⟨rfl,rfl⟩;go_wp2_with fail;refine HF.out.mono ?_;rintro e w1 ⟨rfl,hc1⟩;have HC1:=Hy hc1;clear hc1 HF h0;go_wp2_with fail;go_ret;exact⟨rfl,HC1.out⟩
 ·
  have h0:w.cell? ⟨tb,0,none⟩=some (.int .i64 5):=hcell 5 e;clear hcell e;go_enter Tryz.func57,Tryz.ntmps57;go_wp2_with fail;refine HSh.out.mono ?_;rintro e w' ⟨rfl,rfl⟩;go_wp2_with fail;refine HF.out.mono ?_;rintro e w1 ⟨rfl,hc1⟩;have HC1:=Hy hc1;clear hc1 HF h0;go_wp2_with fail;go_ret;exact⟨rfl,HC1.out⟩
 ·
  have h0:w.cell? ⟨tb,0,none⟩=some (.int .i64 6):=hcell 6 e;clear hcell e;go_enter Tryz.func57,Tryz.ntmps57;go_wp2_with fail;refine HSh.out.mono ?_;rintro e w' ⟨rfl,rfl⟩;go_wp2_with fail;refine HF.out.mono ?_;rintro e w1 ⟨rfl,hc1⟩;have HC1:=Hy hc1;clear hc1 HF h0;go_wp2_with fail;go_ret;exact⟨rfl,HC1.out⟩
 ·
  have h0:w.cell? ⟨tb,0,none⟩=some (.int .i64 10):=hcell 10 e;clear hcell e;go_enter Tryz.func57,Tryz.ntmps57;go_wp2_with fail;refine HSh.out.mono ?_;rintro e w' ⟨rfl,rfl⟩;go_wp2_with fail;refine HF.out.mono ?_;rintro e w1 ⟨rfl,hc1⟩;have HC1:=Hy hc1;clear hc1 HF h0;go_wp2_with fail;go_ret;exact⟨rfl,HC1.out⟩
 ·
  have h0:w.cell? ⟨tb,0,none⟩=some (.int .i64 11):=hcell 11 e;clear hcell e;go_enter Tryz.func57,Tryz.ntmps57;go_wp2_with fail;refine HSh.out.mono ?_;rintro e w' ⟨rfl,rfl⟩;go_wp2_with fail;refine HF.out.mono ?_;rintro e w1 ⟨rfl,hc1⟩;have HC1:=Hy hc1;clear hc1 HF h0;go_wp2_with fail;go_ret;exact⟨rfl,HC1.out⟩
 ·
  have h0:w.cell? ⟨tb,0,none⟩=some (.int .i64 12):=hcell 12 e;clear hcell e;go_enter Tryz.func57,Tryz.ntmps57;go_wp2_with fail;refine HSh.out.mono ?_;rintro e w' ⟨rfl,rfl⟩;go_wp2_with fail;refine HF.out.mono ?_;rintro e w1 ⟨rfl,hc1⟩;have HC1:=Hy hc1;clear hc1 HF h0;go_wp2_with fail;go_ret;exact⟨rfl,HC1.out⟩
 ·
  have h0:w.cell? ⟨tb,0,none⟩=some (.int .i64 13):=hcell 13 e;clear hcell e;go_enter Tryz.func57,Tryz.ntmps57;go_wp2_with fail;refine HSh.out.mono ?_;rintro e w' ⟨rfl,rfl⟩;go_wp2_with fail;refine HF.out.mono ?_;rintro e w1 ⟨rfl,hc1⟩;have HC1:=Hy hc1;clear hc1 HF h0;go_wp2_with fail;go_ret;exact⟨rfl,HC1.out⟩
 ·
  have h0:w.cell? ⟨tb,0,none⟩=some (.int .i64 14):=hcell 14 e;clear hcell e;go_enter Tryz.func57,Tryz.ntmps57;go_wp2_with fail;refine HSh.out.mono ?_;rintro e w' ⟨rfl,rfl⟩;go_wp2_with fail;refine HF.out.mono ?_;rintro e w1 ⟨rfl,hc1⟩;have HC1:=Hy hc1;clear hc1 HF h0;go_wp2_with fail;go_ret;exact⟨rfl,HC1.out⟩
 ·
  have h0:w.cell? ⟨tb,0,none⟩=some (.int .i64 15):=hcell 15 e;clear hcell e;go_enter Tryz.func57,Tryz.ntmps57;go_wp2_with fail;refine HSh.out.mono ?_;rintro e w' ⟨rfl,rfl⟩;go_wp2_with fail;refine HF.out.mono ?_;rintro e w1 ⟨rfl,hc1⟩;have HC1:=Hy hc1;clear hc1 HF h0;go_wp2_with fail;go_ret;exact⟨rfl,HC1.out⟩
end Go.Proofs.YtamkfdlcdiadlaaGreatDoor
namespace Go.Proofs.YtamkfdlcdiadlaaGreatDoor
open Go.RowKit Go.Maps
variable {H:Nat→Prop}
abbrev FV (f:Pv.Fault):Value:= .agg (faultC f)
theorem fl_set2 {w:World}{r:Nat}(f:Pv.Fault)(h:w.heap[r]?=some (.cells #[.int .i64 0,.int .i64 0,.int .i64 0,.bool false,Str [],.int .i64 0,.int .i64 0] 38)):
  (((((((w.setCell ⟨r,0,none⟩ (.int .i64 (f.e:Int))).setCell ⟨r,1,none⟩ (.int .i64 (f.op:Int))).setCell ⟨r,2,none⟩ (.int .i64 f.at_)).setCell ⟨r,3,none⟩ (.bool f.view)).setCell ⟨r,4,none⟩ (Str f.text)).setCell ⟨r,5,none⟩ (.int .i64 f.i)).setCell ⟨r,6,none⟩ (.int .i64 f.j)).heap[r]?=some (.cells (faultC f) 38) ∧
  Keep (· = r) w (((((((w.setCell ⟨r,0,none⟩ (.int .i64 (f.e:Int))).setCell ⟨r,1,none⟩ (.int .i64 (f.op:Int))).setCell ⟨r,2,none⟩ (.int .i64 f.at_)).setCell ⟨r,3,none⟩ (.bool f.view)).setCell ⟨r,4,none⟩ (Str f.text)).setCell ⟨r,5,none⟩ (.int .i64 f.i)).setCell ⟨r,6,none⟩ (.int .i64 f.j)):=by
 have K:∀(W:World) (o:Nat) (v:Value),Keep (· = r) W (W.setCell ⟨r,o,none⟩ v):=fun W o v=>Keep.set rfl
 refine⟨?_,((((((K _ _ _).trans (K _ _ _)).trans (K _ _ _)).trans (K _ _ _)).trans (K _ _ _)).trans (K _ _ _)).trans (K _ _ _)⟩;rw[blk_set (blk_set (blk_set (blk_set (blk_set (blk_set (blk_set h))))))];rfl
set_option maxRecDepth 20000 in
theorem types_normF (P:Pv.R→Prop)(hP:∀r c,P r→P (Pv.by_ c r))(hPs:∀r,P r→Pv.size r≤300000)(r:Pv.R)(hrP:P r)(c bb k tb rb:Nat)(at_:Int)(name text back:List UInt8)(kids kv:Value)(w:World)(hx:w.heap[k]?=some (.cells (CanC tb (.pointer none) (.pointer none) kv (.pointer none) (.pointer none)) 131))(ht:TermAt w tb 17 at_ name (Ptr rb) text back kids)
  (hr:ReAt H w r rb) (hH:∀h,H h→h<w.heap.size) (hHk:H k) (htl:text.length<549755813888) (hc:CkAt w c bb {}) (hq:Pv.matchR text r=false):
  Calls Tryz.prog 94 #[Ptr c,Ptr k] w fun e w'=>e = .returned (.bool false)∧CkAt w' c bb { e:=23,op:=17,at_:=at_,text:=text }∧Keep (fun x=>x=k∨x=c) w w':=by
 have x0:w.cell? ⟨k,0,none⟩=some (Ptr tb):=cB (o:=0) hx rfl;have t0:w.cell? ⟨tb,0,none⟩=some (.int .i64 17):=cB (o:=0) ht rfl;have t3:w.cell? ⟨tb,3,none⟩=some (Ptr rb):=cB (o:=3) ht rfl;have t4:w.cell? ⟨tb,4,none⟩=some (Str text):=cB (o:=4) ht rfl;have nft:¬(fun _:Nat=>False) tb:=fun h=>h
 have hwd:=word_any (H:=H) text w.drew hH (by omega);have HX:=Hy hx;have HT:=Hy ht;have HR:=Hy hr;have HC:=Hy hc;have HWd:=Hy hwd;have HH:=Hy hH;have HP:=Hy hP;have HPs:=Hy hPs;have HQ:=Hy hq;have hkc:k≠c:=by rintro rfl;have h2:=HC.out;unfold CkAt at h2;rw[HX.out]at h2;cases h2
 have hkt:k≠tb:=by rintro rfl;have h2:=HT.out;unfold TermAt at h2;rw[HX.out]at h2;cases h2
 clear hx ht hr hc hwd hH hP hPs hq;go_enter Tryz.func94,Tryz.ntmps94;go_wp2_with fail;refine Eaq.region (Keep fun _=>False) (.mov 0 (.mov 1 (.mov 2 (.mov 3 (.mov 4 (.mov 5 (.mov 6 (.mov 7 (.mov 8 (.mov 9 (.anc 10 (.mov 11 (.mov 12 (.anc 13 (.mov 14 (.mov 15 (.anc 16 Eag.Sch.fin))))))))))))))))) [13,16] [1] (by kernel_rfl) (by kernel_rfl) (fun K ops hops hK => ?_);iterate 10
  first
   | (refine Eaq.mov hops rfl rfl rfl (fun w' hb => ?_) ?_
      ·have q0:=Keep.cell hb nft t3;have q1:=Keep.cell hb nft t4;clear hb;go_simp)
   | (refine Eaq.movA hops rfl rfl (fun w' => ?_) ?_
      ·go_simp)
  go_simp
 refine Eaq.anc hops rfl rfl ?_;go_wp2_with fail;refine HWd.out.mono ?_;rintro e w1 ⟨wb,rfl,hat1,hb1⟩;refine⟨Keep.of_below hb1,?_⟩;have hB1:Below w.heap.size w w1:=(Below.refl _ w).drew.trans hb1;have hx1:=later_blk hB1 HX.out;have c1:w1.cell? ⟨k,1,none⟩=some (.pointer none):=cB (o:=1) hx1 rfl;have c2:w1.cell? ⟨k,2,none⟩=some (.pointer none):=cB (o:=2) hx1 rfl
 have fr:∀o,w1.frozen? ⟨k,o,none⟩=false:=fun o=>fob hx1
 have HX1:=Hy hx1;have HB1:=Hy hB1;have HA1:=Hy hat1;clear hx1 hB1 hb1 hat1 HWd t3 t4 t0 x0;iterate 2
  first
   | (refine Eaq.mov hops rfl rfl rfl (fun w' hb => ?_) ?_
      ·clear hb;go_simp)
   | (refine Eaq.movA hops rfl rfl (fun w' => ?_) ?_
      ·go_simp)
  go_simp
 refine Eaq.anc hops rfl rfl ?_;go_wp2_with fail;iterate 2
  first
   | (refine Eaq.mov hops rfl rfl rfl (fun w' hb => ?_) ?_
      ·clear hb;go_simp)
   | (refine Eaq.movA hops rfl rfl (fun w' => ?_) ?_
      ·go_simp)
  go_simp
 refine Eaq.anc hops rfl rfl ?_;go_wp2_with fail;refine Eaq.fin (hK _ _ ?_);clear hK hops;go_simp;obtain⟨w2,hw2⟩:∃w2,(w1.setCell ⟨k,1,none⟩ (Ptr rb)).setCell ⟨k,2,none⟩ (Ptr wb)=w2:=⟨_,rfl⟩
 have hk2:Keep (· = k) w1 w2:=by
  have K:∀(W:World) (o:Nat) (v:Value),Keep (· = k) W (W.setCell ⟨k,o,none⟩ v):=fun W o v=>Keep.set rfl
  rw[←hw2];exact(K _ _ _).trans (K _ _ _)
 have hx2:w2.heap[k]?=some (.cells (CanC tb (Ptr rb) (Ptr wb) kv (.pointer none) (.pointer none)) 131):=by rw[←hw2,blk_set (blk_set HX1.out)];rfl
 rw[hw2];clear hw2 c1 c2 fr;have hk02:Keep (· = k) w w2:=(Keep.of_below HB1.out).trans hk2;have ht2:=hk02.blk (show ¬tb=k by omega) HT.out;have t3:w2.cell? ⟨tb,3,none⟩=some (Ptr rb):=cB (o:=3) ht2 rfl;have t4:w2.cell? ⟨tb,4,none⟩=some (Str text):=cB (o:=4) ht2 rfl;have hc2:=HC.out.keep hk02 (fun e=>hkc e.symm);have hkH:Keep H w w2:=hk02.wide fun x e=> .inl (by rw[e];exact hHk)
 have htc:¬(fun x=>x=c) tb:=fun e=>by have h1:=ht2;unfold TermAt at h1;rw[show tb=c from e]at h1;have h2:=hc2;unfold CkAt at h2;rw[h1]at h2;cases h2
 have hwi:=within_any (H:=H) P HP.out HPs.out r hrP text rb c bb w2.drew ((HR.out.keep hkH).later (Below.refl _ _).drew) (fun h hh=>by have h1:=HH.out h hh;have h2:=hk02.size;exact Nat.lt_of_lt_of_le h1 h2) htl (hc2.later (Below.refl _ _).drew) tb 17 at_ (HeadAt.later (TermAt.head ht2) (Below.refl _ _).drew);rw[HQ.out]at hwi;simp only[Bool.false_eq_true,if_false]at hwi;have HWi:=Hy hwi
 have HK2:=Hy hk02;clear hk2 hx2 hk02 ht2 hc2 hkH hwi HA1;go_wp2_with fail;refine Eaq.region (Keep fun x=>x=c) (.mov 0 (.mov 1 (.mov 2 (.mov 3 (.mov 4 (.mov 5 (.mov 6 (.mov 7 (.mov 8 (.mov 9 (.anc 10 (.mov 11 Eag.Sch.fin)))))))))))) [] [] (by kernel_rfl) (by kernel_rfl) (fun K ops hops hK => ?_);iterate 10
  first
   | (refine Eaq.mov hops rfl rfl rfl (fun w' hb => ?_) ?_
      ·have q0:=Keep.cell hb htc t3;have q1:=Keep.cell hb htc t4;clear hb;go_simp)
   | (refine Eaq.movA hops rfl rfl (fun w' => ?_) ?_
      ·go_simp)
  go_simp
 refine Eaq.anc hops rfl rfl ?_;go_wp2_with fail;refine HWi.out.mono ?_;rintro e w3 ⟨rfl,hc3,hk3⟩;refine⟨hk3,?_⟩;have HC3:=Hy hc3;have HK3:=Hy ((HK2.out.wide fun x e=> .inl (.inl e)).trans (((Keep.drew w2).trans hk3).wide fun x e=> .inl (.inr e)):Keep (fun x=>x=k∨x=c) w w3);clear hc3 hk3 HWi t3 t4;iterate 1
  first
   | (refine Eaq.mov hops rfl rfl rfl (fun w' hb => ?_) ?_
      ·clear hb;go_simp)
   | (refine Eaq.movA hops rfl rfl (fun w' => ?_) ?_
      ·go_simp)
  go_simp
 refine Eaq.fin (hK _ _ ?_);clear hK hops;go_simp;go_wp2_with fail;refine bodyPost_ret (v:= .bool false) ?_ rfl ⟨rfl,HC3.out,HK3.out⟩;simp[results,Tryz.results94,go_sem]
end Go.Proofs.YtamkfdlcdiadlaaGreatDoor
namespace Go.Proofs.YtamkfdlcdiadlaaGreatDoor
open Go.RowKit Go.Maps
variable {H:Nat→Prop}
theorem fl_cells {w:World}{r:Nat}{f:Pv.Fault}(h:w.heap[r]?=some (.cells (faultC f) 38)):w.cell? ⟨r,0,none⟩=some (.int .i64 (f.e:Int))∧w.cell? ⟨r,1,none⟩=some (.int .i64 (f.op:Int))∧w.cell? ⟨r,2,none⟩=some (.int .i64 f.at_) ∧
  w.cell? ⟨r,3,none⟩=some (.bool f.view)∧w.cell? ⟨r,4,none⟩=some (Str f.text)∧w.cell? ⟨r,5,none⟩=some (.int .i64 f.i)∧w.cell? ⟨r,6,none⟩=some (.int .i64 f.j)∧∀o,w.frozen? ⟨r,o,none⟩=false:=
 ⟨cB (o:=0) h rfl,cB (o:=1) h rfl,cB (o:=2) h rfl,cB (o:=3) h rfl,cB (o:=4) h rfl,cB (o:=5) h rfl,cB (o:=6) h rfl,fun o=>fob h⟩
end Go.Proofs.YtamkfdlcdiadlaaGreatDoor
namespace Pv
def hit (f:Fault)(t:T):Bool:=decide (t.at_=f.at_)&&decide (t.op=f.op)
end Pv
namespace Go.Proofs.YtamkfdlcdiadlaaGreatDoor
open Go.RowKit Go.Maps
variable {H:Nat→Prop}
set_option maxRecDepth 20000 in
theorem agree_same (f:Pv.Fault)(w:World):Calls Tryz.prog 16 #[FV f,FV f] w fun e w'=>e = .returned (.bool true)∧Below w.heap.size w w':=by
 obtain⟨f0,f1,f2,f3,f4,f5,f6⟩:=f;by_cases h:f0=20
 ·subst h;go_enter Tryz.func16,Tryz.ntmps16;go_wp2_with fail;go_ret;exact⟨rfl,((Below.refl _ _).alloc (Nat.le_refl _) _).alloc (by simp) _⟩
 ·by_cases h2:f0=21
  ·subst h2;go_enter Tryz.func16,Tryz.ntmps16;go_wp2_with fail;go_ret;exact⟨rfl,((Below.refl _ _).alloc (Nat.le_refl _) _).alloc (by simp) _⟩
  ·have a1:((f0:Int)==20)=false:=by simp;omega
   have a2:((f0:Int)==21)=false:=by simp;omega
   have b1:decide ((f0:Int)=20)=false:=decide_eq_false (by omega);have b2:decide ((f0:Int)=21)=false:=decide_eq_false (by omega);clear h h2;go_enter Tryz.func16,Tryz.ntmps16;go_wp2_with fail;go_ret;exact⟨by simp,((Below.refl _ _).alloc (Nat.le_refl _) _).alloc (by simp) _⟩
end Go.Proofs.YtamkfdlcdiadlaaGreatDoor
