/- The types of a term of law 17, by the page. -/
import Derived.Test.YtinpjfnnfkjbmaaGreatDoorKm05
import Derived.Test.YtinpjfnnfkjbmaaGreatDoorKm35
import Derived.Test.YtinpjfnnfkjbmaaGreatDoorKm37
import Derived.Test.YtinpjfnnfkjbmaaGreatDoorKm38
import Derived.Test.YtinpjfnnfkjbmaaGreatDoorKm24
import Derived.Test.YtinpjfnnfkjbmaaGreatDoorKm29
import Derived.Test.YtinpjfnnfkjbmaaGreatDoorKm25
set_option linter.all false
namespace Go.Proofs.YtinpjfnnfkjbmaaGreatDoor
open Go.RowKit Go.Maps
variable {H:Nat→Prop}
def TypW (H:Nat→Prop)(r:Pv.R × Pv.R)(w:World)(e:Ending)(w':World):Prop:=∃x y,e = .returned (.tuple #[Ptr x,Ptr y])∧ReAt H w' r.1 x∧ReAt H w' r.2 y∧Below w.heap.size w w'
set_option maxRecDepth 20000 in
theorem typ17_16 (r:Pv.R)(rb tb:Nat)(at_:Int)(nm tx bk:List UInt8)(kv:Value)(w:World)(ht:TermAt w tb 16 at_ nm (Ptr rb) tx bk kv)(hr:ReAt H w r rb):
  Calls Tryz.prog 20 #[Ptr tb] w (TypW H (r,r) w):=by
 have t0:w.cell? ⟨tb,0,none⟩=some (.int .i64 16):=cB (o:=0) ht rfl;have t3:w.cell? ⟨tb,3,none⟩=some (Ptr rb):=cB (o:=3) ht rfl;have HR:=Hy hr;clear ht hr;go_enter Tryz.func20,Tryz.ntmps20;go_wp2_with fail;refine Eag.region (.mov 0 (.mov 1 (.mov 2 (.mov 3 (.mov 4 (.mov 5 (.mov 6 (.mov 7 (.mov 8 (.mov 9 Eag.Sch.fin)))))))))) [] (by kernel_rfl) (by kernel_rfl) (fun K ops hops hK => ?_);iterate 10
  refine Eag.mov hops rfl rfl (fun w' hb => ?_) ?_
  ·have q0:=later hb t3;clear hb;go_simp
  go_simp
 refine Eag.fin (hK _ _ ?_);clear hK hops;go_simp;go_wp2_with fail;have hd:Below w.heap.size w w.drew:=(Below.refl _ _).drew;refine bodyPost_ret (v:= .tuple #[Ptr rb,Ptr rb]) ?_ rfl ⟨rb,rb,rfl,HR.out.later hd,HR.out.later hd,hd⟩;simp[results,Tryz.results20,go_sem]
set_option maxRecDepth 20000 in
theorem typ17_17 (r:Pv.R)(rb tb:Nat)(at_:Int)(nm tx bk:List UInt8)(kv:Value)(w:World)(ht:TermAt w tb 17 at_ nm (Ptr rb) tx bk kv)(hr:ReAt H w r rb)(hH:∀h,H h→h<w.heap.size)(htx:tx.length<549755813888):
  Calls Tryz.prog 20 #[Ptr tb] w (TypW H (r,Pv.word tx) w):=by
 have t0:w.cell? ⟨tb,0,none⟩=some (.int .i64 17):=cB (o:=0) ht rfl;have t3:w.cell? ⟨tb,3,none⟩=some (Ptr rb):=cB (o:=3) ht rfl;have t4:w.cell? ⟨tb,4,none⟩=some (Str tx):=cB (o:=4) ht rfl;have HR:=Hy hr;have HH:=Hy hH;clear ht hr hH;go_enter Tryz.func20,Tryz.ntmps20;go_wp2_with fail
 refine Eag.region (.mov 0 (.mov 1 (.mov 2 (.mov 3 (.mov 4 (.mov 5 (.mov 6 (.mov 7 (.anc 8 (.mov 9 (.mov 10 Eag.Sch.fin))))))))))) [] (by kernel_rfl) (by kernel_rfl) (fun K ops hops hK => ?_);iterate 8
  refine Eag.mov hops rfl rfl (fun w' hb => ?_) ?_
  ·have q0:=later hb t3;have q1:=later hb t4;clear hb;go_simp
  go_simp
 clear t0 t3 t4;refine Eag.anc hops rfl rfl ?_;go_wp2_with fail;have hd:Below w.heap.size w w.drew:=(Below.refl _ _).drew;refine(word_any (H:=H) tx w.drew HH.out htx).mono ?_;rintro e w1 ⟨x,rfl,hx,hb⟩;refine⟨hb,?_⟩;have HB:=Hy (hd.trans (hb.mono hd.size));have HX:=Hy hx;clear hb hx hd;iterate 2
  refine Eag.mov hops rfl rfl (fun w' hb => ?_) ?_
  ·clear hb;go_simp
  go_simp
 refine Eag.fin (hK _ _ ?_);clear hK hops;go_simp;go_wp2_with fail;refine bodyPost_ret (v:= .tuple #[Ptr rb,Ptr x]) ?_ rfl ⟨rb,x,rfl,HR.out.later HB.out,HX.out,HB.out⟩;simp[results,Tryz.results20,go_sem]
set_option maxRecDepth 20000 in
theorem typ17_9 (r:Pv.R × Pv.R)(tb ka off n kc b0:Nat)(w:World)(t0:w.cell? ⟨tb,0,none⟩=some (.int .i64 9))(t6:w.cell? ⟨tb,6,none⟩=some (.slice (some ⟨ka,off,none⟩) n kc))(hn:0<n)(k0:w.cell? ⟨ka,off,none⟩=some (Ptr b0))
  (hH:∀h,H h→h<w.heap.size) (hc:Calls Tryz.prog 20 #[Ptr b0] w (TypW H r w)) (hs1:Pv.size r.1<549755813888) (hs2:Pv.size r.2<549755813888):
  Calls Tryz.prog 20 #[Ptr tb] w (TypW H (Pv.many r.1,Pv.many r.2) w):=by
 have hn':(0:Int)<n:=by omega
 have HC:=Hy hc;have HH:=Hy hH;clear hc hH;go_enter Tryz.func20,Tryz.ntmps20;go_wp2_with fail;refine HC.out.mono ?_;rintro e w1 ⟨x,y,rfl,hx,hy,hb⟩;have z0:=later hb t0;have HB:=Hy hb;have HX:=Hy hx;have HY:=Hy hy;clear hb hx hy HC t0 t6 k0;go_wp2_with fail;refine(many_any (H:=H) r.1 x w1 HX.out (fun h hh=>Nat.lt_of_lt_of_le (HH.out h hh) HB.out.size) hs1).mono ?_;rintro e w2 ⟨x2,rfl,hx,hb⟩
 replace HY:=Hy (HY.out.later hb);replace HB:=Hy (HB.out.trans (hb.mono HB.out.size));replace HX:=Hy hx;clear hx hb z0;go_wp2_with fail;refine(many_any (H:=H) r.2 y w2 HY.out (fun h hh=>Nat.lt_of_lt_of_le (HH.out h hh) HB.out.size) hs2).mono ?_;rintro e w3 ⟨y2,rfl,hy,hb⟩;replace HX:=Hy (HX.out.later hb);replace HB:=Hy (HB.out.trans (hb.mono HB.out.size));replace HY:=Hy hy;clear hy hb
 go_wp2_with fail;refine bodyPost_ret (v:= .tuple #[Ptr x2,Ptr y2]) ?_ rfl ⟨x2,y2,rfl,HX.out,HY.out,HB.out⟩;simp[results,Tryz.results20,go_sem]
set_option maxRecDepth 20000 in
theorem typ17_7 (r q:Pv.R × Pv.R)(tb ka off n kc b0 b1:Nat)(w:World)(t0:w.cell? ⟨tb,0,none⟩=some (.int .i64 7))(t6:w.cell? ⟨tb,6,none⟩=some (.slice (some ⟨ka,off,none⟩) n kc))(hn:1<n)(k0:w.cell? ⟨ka,off,none⟩=some (Ptr b0))(k1:w.cell? ⟨ka,off+1,none⟩=some (Ptr b1))
  (hH:∀h,H h→h<w.heap.size) (hc:Calls Tryz.prog 20 #[Ptr b0] w (TypW H r w)) (hc2:∀W,Below w.heap.size w W→Calls Tryz.prog 20 #[Ptr b1] W (TypW H q W)) (hs1:Pv.size r.1+Pv.size q.1<549755813888) (hs2:Pv.size r.2+Pv.size q.2<549755813888):
  Calls Tryz.prog 20 #[Ptr tb] w (TypW H (Pv.any [r.1,q.1],Pv.any [r.2,q.2]) w):=by
 have hn':(1:Int)<n:=by omega
 have hn0:(0:Int)<n:=by omega
 have HC:=Hy hc;have HC2:=Hy hc2;have HH:=Hy hH;clear hc hc2 hH;go_enter Tryz.func20,Tryz.ntmps20;go_wp2_with fail;refine HC.out.mono ?_;rintro e w1 ⟨x,y,rfl,hx,hy,hb⟩;have z0:=later hb t0;have z6:=later hb t6;have z1:=later hb k1;have HB:=Hy hb;have HX:=Hy hx;have HY:=Hy hy;have HC3:=Hy (HC2.out w1 hb);clear hb hx hy HC HC2 t0 t6 k0 k1;go_wp2_with fail;refine HC3.out.mono ?_
 rintro e w2 ⟨x2,y2,rfl,hx,hy,hb⟩;have t0:=later hb z0;replace HX:=Hy (HX.out.later hb);replace HY:=Hy (HY.out.later hb);replace HB:=Hy (HB.out.trans (hb.mono HB.out.size));have HX2:=Hy hx;have HY2:=Hy hy;clear hb hx hy HC3 z0 z6 z1;go_wp2_with fail;obtain⟨g,hg⟩:∃n,w2.heap.size=n:=⟨_,rfl⟩
 obtain⟨w3,hw3⟩:∃w3,w2.alloc (.cells #[Ptr x,Ptr x2] 51)=w3:=⟨_,rfl⟩
 have hb:Below w2.heap.size w2 w3:=by rw[←hw3];exact(Below.refl _ _).alloc (Nat.le_refl _) _
 have hx3:w3.heap[g]?=some (.cells #[Ptr x,Ptr x2] 51):=by rw[←hw3];exact blk_new hg
 rw[hg,hw3];clear hw3 t0;replace HX:=Hy (HX.out.later hb);replace HY:=Hy (HY.out.later hb);replace HX2:=Hy (HX2.out.later hb);replace HY2:=Hy (HY2.out.later hb);replace HB:=Hy (HB.out.trans (hb.mono HB.out.size));have HX3:=Hy hx3;clear hb hx3
 refine(any_any (H:=H) [r.1,q.1] (some ⟨g,0,none⟩) 2 [x,x2] w3 (Sl.of_blk2 HX3.out) (res2 HX.out HX2.out) (fun h hh=>Nat.lt_of_lt_of_le (HH.out h hh) HB.out.size) (by simp only[Pv.sizes];omega)).mono ?_;rintro e w4 ⟨xx,rfl,hxx,hb⟩;replace HY:=Hy (HY.out.later hb);replace HY2:=Hy (HY2.out.later hb);replace HB:=Hy (HB.out.trans (hb.mono HB.out.size));have HXX:=Hy hxx;clear hb hxx HX HX2 HX3
 go_wp2_with fail;obtain⟨g5,hg5⟩:∃n,w4.heap.size=n:=⟨_,rfl⟩
 obtain⟨w5,hw5⟩:∃w5,w4.alloc (.cells #[Ptr y,Ptr y2] 51)=w5:=⟨_,rfl⟩
 have hb:Below w4.heap.size w4 w5:=by rw[←hw5];exact(Below.refl _ _).alloc (Nat.le_refl _) _
 have hx5:w5.heap[g5]?=some (.cells #[Ptr y,Ptr y2] 51):=by rw[←hw5];exact blk_new hg5
 rw[hg5,hw5];clear hw5;replace HXX:=Hy (HXX.out.later hb);replace HY:=Hy (HY.out.later hb);replace HY2:=Hy (HY2.out.later hb);replace HB:=Hy (HB.out.trans (hb.mono HB.out.size));have HX5:=Hy hx5;clear hb hx5
 refine(any_any (H:=H) [r.2,q.2] (some ⟨g5,0,none⟩) 2 [y,y2] w5 (Sl.of_blk2 HX5.out) (res2 HY.out HY2.out) (fun h hh=>Nat.lt_of_lt_of_le (HH.out h hh) HB.out.size) (by simp only[Pv.sizes];omega)).mono ?_;rintro e w6 ⟨yy,rfl,hyy,hb⟩;replace HXX:=Hy (HXX.out.later hb);replace HB:=Hy (HB.out.trans (hb.mono HB.out.size));have HYY:=Hy hyy;clear hb hyy HY HY2 HX5;go_wp2_with fail
 refine bodyPost_ret (v:= .tuple #[Ptr xx,Ptr yy]) ?_ rfl ⟨xx,yy,rfl,HXX.out,HYY.out,HB.out⟩;simp[results,Tryz.results20,go_sem]
set_option maxRecDepth 20000 in
theorem typ17_8 (r q:Pv.R × Pv.R)(tb ka off n kc b0 b1:Nat)(w:World)(t0:w.cell? ⟨tb,0,none⟩=some (.int .i64 8))(t6:w.cell? ⟨tb,6,none⟩=some (.slice (some ⟨ka,off,none⟩) n kc))(hn:1<n)(k0:w.cell? ⟨ka,off,none⟩=some (Ptr b0))(k1:w.cell? ⟨ka,off+1,none⟩=some (Ptr b1))
  (hH:∀h,H h→h<w.heap.size) (hc:Calls Tryz.prog 20 #[Ptr b0] w (TypW H r w)) (hc2:∀W,Below w.heap.size w W→Calls Tryz.prog 20 #[Ptr b1] W (TypW H q W)) (hs1:Pv.size r.1+Pv.size q.1<549755813888) (hs2:Pv.size r.2+Pv.size q.2<549755813888):
  Calls Tryz.prog 20 #[Ptr tb] w (TypW H (Pv.cat [r.1,q.1],Pv.cat [r.2,q.2]) w):=by
 have hn':(1:Int)<n:=by omega
 have hn0:(0:Int)<n:=by omega
 have HC:=Hy hc;have HC2:=Hy hc2;have HH:=Hy hH;clear hc hc2 hH;go_enter Tryz.func20,Tryz.ntmps20;go_wp2_with fail;refine HC.out.mono ?_;rintro e w1 ⟨x,y,rfl,hx,hy,hb⟩;have z0:=later hb t0;have z6:=later hb t6;have z1:=later hb k1;have HB:=Hy hb;have HX:=Hy hx;have HY:=Hy hy;have HC3:=Hy (HC2.out w1 hb);clear hb hx hy HC HC2 t0 t6 k0 k1;go_wp2_with fail;refine HC3.out.mono ?_
 rintro e w2 ⟨x2,y2,rfl,hx,hy,hb⟩;have t0:=later hb z0;replace HX:=Hy (HX.out.later hb);replace HY:=Hy (HY.out.later hb);replace HB:=Hy (HB.out.trans (hb.mono HB.out.size));have HX2:=Hy hx;have HY2:=Hy hy;clear hb hx hy HC3 z0 z6 z1;go_wp2_with fail;obtain⟨g,hg⟩:∃n,w2.heap.size=n:=⟨_,rfl⟩
 obtain⟨w3,hw3⟩:∃w3,w2.alloc (.cells #[Ptr x,Ptr x2] 51)=w3:=⟨_,rfl⟩
 have hb:Below w2.heap.size w2 w3:=by rw[←hw3];exact(Below.refl _ _).alloc (Nat.le_refl _) _
 have hx3:w3.heap[g]?=some (.cells #[Ptr x,Ptr x2] 51):=by rw[←hw3];exact blk_new hg
 rw[hg,hw3];clear hw3 t0;replace HX:=Hy (HX.out.later hb);replace HY:=Hy (HY.out.later hb);replace HX2:=Hy (HX2.out.later hb);replace HY2:=Hy (HY2.out.later hb);replace HB:=Hy (HB.out.trans (hb.mono HB.out.size));have HX3:=Hy hx3;clear hb hx3
 refine(cat_any (H:=H) [r.1,q.1] (some ⟨g,0,none⟩) 2 [x,x2] w3 (Sl.of_blk2 HX3.out) (res2 HX.out HX2.out) (fun h hh=>Nat.lt_of_lt_of_le (HH.out h hh) HB.out.size) (by simp only[Pv.sizes];omega)).mono ?_;rintro e w4 ⟨xx,rfl,hxx,hb⟩;replace HY:=Hy (HY.out.later hb);replace HY2:=Hy (HY2.out.later hb);replace HB:=Hy (HB.out.trans (hb.mono HB.out.size));have HXX:=Hy hxx;clear hb hxx HX HX2 HX3
 go_wp2_with fail;obtain⟨g5,hg5⟩:∃n,w4.heap.size=n:=⟨_,rfl⟩
 obtain⟨w5,hw5⟩:∃w5,w4.alloc (.cells #[Ptr y,Ptr y2] 51)=w5:=⟨_,rfl⟩
 have hb:Below w4.heap.size w4 w5:=by rw[←hw5];exact(Below.refl _ _).alloc (Nat.le_refl _) _
 have hx5:w5.heap[g5]?=some (.cells #[Ptr y,Ptr y2] 51):=by rw[←hw5];exact blk_new hg5
 rw[hg5,hw5];clear hw5;replace HXX:=Hy (HXX.out.later hb);replace HY:=Hy (HY.out.later hb);replace HY2:=Hy (HY2.out.later hb);replace HB:=Hy (HB.out.trans (hb.mono HB.out.size));have HX5:=Hy hx5;clear hb hx5
 refine(cat_any (H:=H) [r.2,q.2] (some ⟨g5,0,none⟩) 2 [y,y2] w5 (Sl.of_blk2 HX5.out) (res2 HY.out HY2.out) (fun h hh=>Nat.lt_of_lt_of_le (HH.out h hh) HB.out.size) (by simp only[Pv.sizes];omega)).mono ?_;rintro e w6 ⟨yy,rfl,hyy,hb⟩;replace HXX:=Hy (HXX.out.later hb);replace HB:=Hy (HB.out.trans (hb.mono HB.out.size));have HYY:=Hy hyy;clear hb hyy HY HY2 HX5;go_wp2_with fail
 refine bodyPost_ret (v:= .tuple #[Ptr xx,Ptr yy]) ?_ rfl ⟨xx,yy,rfl,HXX.out,HYY.out,HB.out⟩;simp[results,Tryz.results20,go_sem]
theorem types17_any:∀(m:Nat) (H:Nat→Prop) (t:Pv.T) (tb:Nat) (w:World),Pv.tsize t≤m→Pv.tsize t<100000→Pv.CG t→TAt H w t tb→(∀h,H h→h<w.heap.size) →
  Calls Tryz.prog 20 #[Ptr tb] w (TypW H (Pv.typesOf t) w)
 | 0,_,t,_,_,hm,_,_,_,_=>by have:=tsize_eq t;omega
 | m+1,H,t,tb,w,hm,hz,hg,hat,hH=>by
   have hseq:=tsize_eq t;have ho:=hg.open_;obtain⟨_,rv,a,kc,bs,hr,ha,hterm,hsl,hts⟩:=hat.open_;rw[Pv.typesOf_eq];unfold Pv.tyEnd;rcases hg.op5 with e|e|e|e|e
   ·obtain⟨r,hre,_,_⟩:=hg.leaf (.inl e);rw[hre]at hr;obtain⟨rb,rfl,hrb⟩:=hr;rw[if_pos e,hre];rw[e]at hterm;exact typ17_16 r rb tb _ _ _ _ _ w hterm hrb
   ·obtain⟨r,hre,_,_⟩:=hg.leaf (.inr e);rw[hre]at hr;obtain⟨rb,rfl,hrb⟩:=hr;rw[if_neg (by omega),if_pos e,hre];rw[e]at hterm;have:=Pv.len_txL _ ho.2.2.2.1;exact typ17_17 r rb tb _ _ _ _ _ w hterm hrb hH (by omega)
   ·obtain⟨x,y,hk,hx,hy⟩:=hg.two (.inl e);rw[if_neg (by omega),if_neg (by omega),if_neg (by omega),if_pos e];rw[hk]at hseq hts ⊢;obtain⟨h0,a0⟩:=hts.get 0 (by simp);obtain⟨h1,a1⟩:=hts.get 1 (by simp);simp only[Pv.tsizes]at hseq;obtain⟨ka,off,rfl,c0⟩:=hsl.cell 0 (by simpa using h0);obtain⟨ka',off',e',c1⟩:=hsl.cell 1 (by simpa using h1);cases e';rw[List.getElem_map]at c0 c1
    have gx:=Pv.types_good _ x (Nat.le_refl _) hx;have gy:=Pv.types_good _ y (Nat.le_refl _) hy;have:=gx.s1;have:=gx.s2;have:=gy.s1;have:=gy.s2
    have t0:w.cell? ⟨tb,0,none⟩=some (.int .i64 (t.op:Int)):=cB (o:=0) hterm rfl;rw[e]at t0;exact typ17_7 (Pv.typesOf x) (Pv.typesOf y) tb ka off _ kc bs[0] bs[1] w t0 (cB (o:=6) hterm rfl) h1 c0 c1 hH (types17_any m H x _ w (by omega) (by omega) hx a0 hH) (fun W hW=>types17_any m H y _ W (by omega) (by omega) hy (a1.later hW) (fun h hh=>Nat.lt_of_lt_of_le (hH h hh) hW.size)) (by omega) (by omega)
   ·obtain⟨x,y,hk,hx,hy⟩:=hg.two (.inr e);rw[if_neg (by omega),if_neg (by omega),if_neg (by omega),if_neg (by omega)];rw[hk]at hseq hts ⊢;obtain⟨h0,a0⟩:=hts.get 0 (by simp);obtain⟨h1,a1⟩:=hts.get 1 (by simp);simp only[Pv.tsizes]at hseq;obtain⟨ka,off,rfl,c0⟩:=hsl.cell 0 (by simpa using h0);obtain⟨ka',off',e',c1⟩:=hsl.cell 1 (by simpa using h1);cases e';rw[List.getElem_map]at c0 c1
    have gx:=Pv.types_good _ x (Nat.le_refl _) hx;have gy:=Pv.types_good _ y (Nat.le_refl _) hy;have:=gx.s1;have:=gx.s2;have:=gy.s1;have:=gy.s2
    have t0:w.cell? ⟨tb,0,none⟩=some (.int .i64 (t.op:Int)):=cB (o:=0) hterm rfl;rw[e]at t0;exact typ17_8 (Pv.typesOf x) (Pv.typesOf y) tb ka off _ kc bs[0] bs[1] w t0 (cB (o:=6) hterm rfl) h1 c0 c1 hH (types17_any m H x _ w (by omega) (by omega) hx a0 hH) (fun W hW=>types17_any m H y _ W (by omega) (by omega) hy (a1.later hW) (fun h hh=>Nat.lt_of_lt_of_le (hH h hh) hW.size)) (by omega) (by omega)
   ·obtain⟨x,hk,hx⟩:=hg.one e;rw[if_neg (by omega),if_neg (by omega),if_pos e];rw[hk]at hseq hts ⊢;obtain⟨h0,a0⟩:=hts.get 0 (by simp);simp only[Pv.tsizes]at hseq;obtain⟨ka,off,rfl,c0⟩:=hsl.cell 0 (by simpa using h0);rw[List.getElem_map]at c0;have gx:=Pv.types_good _ x (Nat.le_refl _) hx;have:=gx.s1;have:=gx.s2
    have t0:w.cell? ⟨tb,0,none⟩=some (.int .i64 (t.op:Int)):=cB (o:=0) hterm rfl;rw[e]at t0;exact typ17_9 (Pv.typesOf x) tb ka off _ kc bs[0] w t0 (cB (o:=6) hterm rfl) h0 c0 hH (types17_any m H x _ w (by omega) (by omega) hx a0 hH) (by omega) (by omega)
end Go.Proofs.YtinpjfnnfkjbmaaGreatDoor
namespace Go.Proofs.YtinpjfnnfkjbmaaGreatDoor
open Go.RowKit Go.Maps
variable {H:Nat→Prop}
def CkB (w w':World)(c bb l u:Nat)(q:Pv.Ck):Prop:=CkAt w' c bb q.fault∧(∃u',BudAt w' bb q.left u'∧q.left+u'=l+u)∧Keep (askT c bb) w w'
theorem CkB.mk {w w1 w2:World}{c bb l u r:Nat}{q:Pv.Ck}(hq:q.left=r)(hr:r≤l)(hne:c≠bb)(hb:BudAt w1 bb r (u+(l-r)))(hk:Keep (· = bb) w w1)(hc:CkAt w2 c bb q.fault)(hk2:Keep (· = c) w1 w2):CkB w w2 c bb l u q:=
 ⟨hc,⟨u+(l-r),by rw[hq];exact hb.keep hk2 (fun e=>hne e.symm),by omega⟩,(hk.wide fun k e=> .inl (.inr e)).trans (hk2.wide fun k e=> .inl (.inl e))⟩
set_option maxRecDepth 20000 in
theorem apart_all (x y:Pv.R)(bx by_ c bb l u:Nat)(w:World)(hT:Tab w)(hx:ReAt H w x bx)(hy:ReAt H w y by_)(hbud:BudAt w bb l u)(hbb:H bb)(hH:∀h,H h→h<w.heap.size)(hsz:Pv.size x+Pv.size y<68719476736)(hl:l<274877906944)
  (hc:CkAt w c bb {}) (tb:Nat) (T:Pv.T) (ht:HeadAt w tb T.op T.at_) (view:Bool):
  Calls Tryz.prog 114 #[Ptr c,Ptr tb,.bool view,Ptr bx,Ptr by_] w fun en w'=>en = .returned (.bool (({ left:=l }:Pv.Ck).apart T view x y).2)∧CkB w w' c bb l u (({ left:=l }:Pv.Ck).apart T view x y).1:=by
 have hok:=ok_any c bb {} w hc;have hsh:=shared_any (H:=H) x y bx by_ bb l u w hT hx hy hbud hbb hH (by omega) hl;have hq:({ left:=l }:Pv.Ck).apart T view x y=({ left:=l }:Pv.Ck).told 22 T view ((Pv.shared x y l).1,(Pv.shared x y l).2):=rfl;have hle:(Pv.shared x y l).1≤l:=Pv.witness_le _ l;rw[hq];obtain⟨l1,hl1⟩:∃l1,(Pv.shared x y l).1=l1:=⟨_,rfl⟩
 obtain⟨r,hr⟩:∃r,(Pv.shared x y l).2=r:=⟨_,rfl⟩
 rw[hr,hl1]at hsh;rw[hl1]at hle;rw[hr,hl1];clear hq hr hl1;have hne:=hc.ne_bud hbud;have htn:=ht.ne hbud.2 (by decide);obtain⟨t,ok,er,hv⟩:=witV_form r;rw[hv]at hsh;have x0:w.cell? ⟨c,0,none⟩=some (Ptr bb):=cB (o:=0) hc rfl;have HOk:=Hy hok;have HSh:=Hy hsh;have HC:=Hy hc;have HTm:=Hy ht;have HV:=Hy hv;clear hok hsh hc ht hT hx hy hbud hH hv;go_enter Tryz.func114,Tryz.ntmps114;go_wp2_with fail
 refine HOk.out.mono ?_;rintro e w' ⟨rfl,rfl⟩;go_wp2_with fail;refine HSh.out.mono ?_;rintro e w1 ⟨rfl,hb1,hk1⟩;have htold:=told_all r c bb l l1 w1 (HC.out.keep hk1 hne) 22 tb T (HTm.out.keep hk1 htn) view t ok er HV.out;have HTold:=Hy htold;have HB1:=Hy hb1;have HK1:=Hy hk1;clear htold hb1 hk1 HSh x0;go_wp2_with fail;refine HTold.out.mono ?_;rintro e w2 ⟨rfl,hc2,hk2⟩
 have HF:Hid (CkB w w2 c bb l u (({ left:=l }:Pv.Ck).told 22 T view (l1,r)).1):=CkB.mk (Pv.Ck.told_left _ _ _ _ _) hle hne HB1.out HK1.out hc2 hk2;clear hc2 hk2 HB1 HK1 HTold;go_wp2_with fail;go_ret;exact⟨rfl,HF.out⟩
set_option maxRecDepth 20000 in
theorem side_all (R:Ending→World→Prop)(r:Pv.R)(b c bb l u:Nat)(w:World)(hT:Tab w)(hat:ReAt H w r b)(hbud:BudAt w bb l u)(hbb:H bb)(hH:∀h,H h→h<w.heap.size)(hsz:Pv.size r<137438953472)(hl:l<274877906944)(hc:CkAt w c bb {})
  (r1:∀w',(({ left:=l }:Pv.Ck).side r).2=none→CkB w w' c bb l u (({ left:=l }:Pv.Ck).side r).1→R (.returned (.pointer none)) w')
  (r2:∀w' S s,(({ left:=l }:Pv.Ck).side r).2=some S→SideAt H w' S s→S.Ok→w.heap.size≤s→CkB w w' c bb l u (({ left:=l }:Pv.Ck).side r).1→R (.returned (Ptr s)) w'):
  Calls Tryz.prog 77 #[Ptr c,Ptr b] w R:=by
 have hok:=ok_any c bb {} w hc;have hne:=hc.ne_bud hbud;have hle:=Pv.side_le r l;have hq:({ left:=l }:Pv.Ck).side r=(match Pv.side r l with|(l,none)=>(({ left:=l,fault:={ e:=5 } }:Pv.Ck),none)|(l,some s)=>(({ left:=l }:Pv.Ck),some s)):=rfl;rw[hq]at r1 r2
 have hsb:=sbuild_any (H:=H) (fun e w'=>(e = .returned (.tuple #[.pointer none,.int .i64 5])∧(Pv.side r l).2=none∧BudAt w' bb (Pv.side r l).1 (u+(l-(Pv.side r l).1))∧Keep (· = bb) w w') ∨
   (∃S s,e = .returned (.tuple #[Ptr s,.int .i64 0])∧(Pv.side r l).2=some S∧SideAt H w' S s∧S.Ok∧w.heap.size≤s∧BudAt w' bb (Pv.side r l).1 (u+(l-(Pv.side r l).1))∧Keep (· = bb) w w')) r b bb l u w hT hat hbud hbb hH hsz hl
  (fun w' h h1 h2=> .inl ⟨rfl,h,h1,h2⟩) (fun w' S s h h1 h2 h3 h4 h5=> .inr ⟨S,s,rfl,h,h1,h2,h3,h4,h5⟩)
 generalize Pv.side r l=q at *;obtain⟨l1,o⟩:=q;have x0:w.cell? ⟨c,0,none⟩=some (Ptr bb):=cB (o:=0) hc rfl;have HOk:=Hy hok;have HSb:=Hy hsb;have HC:=Hy hc;have R1:=Hy r1;have R2:=Hy r2;clear hok hsb hc hT hat hbud hH hq r1 r2;simp only at hle;go_enter Tryz.func77,Tryz.ntmps77;go_wp2_with fail;refine HOk.out.mono ?_;rintro e w' ⟨rfl,rfl⟩;go_wp2_with fail;refine HSb.out.mono ?_
 rintro e w1 (⟨rfl,ho,hb1,hk1⟩|⟨S,s,rfl,ho,hs1,hs2,hs3,hb1,hk1⟩)
 ·try simp only at ho hb1
  subst ho;have HB1:=Hy hb1;have HK1:=Hy hk1;clear hb1 hk1 HSb x0;go_wp2_with fail;refine(told_errK c bb w1 (HC.out.keep HK1.out hne) _ _ _ [] false).mono ?_;rintro e w2 ⟨rfl,hc2,hk2⟩;have HF:=Hy (R1.out w2 trivial (CkB.mk rfl hle hne HB1.out HK1.out hc2 hk2));clear hc2 hk2 HB1 HK1 R1 R2;go_wp2_with fail;exact HF.out
 ·try simp only at ho hb1
  subst ho;have HF:=Hy (R2.out w1 S s rfl hs1 hs2 hs3 (CkB.mk rfl hle hne hb1 hk1 (HC.out.keep hk1 hne) (Keep.refl _ _)));clear hs1 hs2 hs3 hb1 hk1 HSb x0 R1 R2;go_wp2_with fail;refine(told_true c bb _ _ _ _ []).mono ?_;rintro e w' ⟨rfl,rfl⟩;go_wp2_with fail;exact HF.out
end Go.Proofs.YtinpjfnnfkjbmaaGreatDoor
namespace Go.Proofs.YtinpjfnnfkjbmaaGreatDoor
open Go.RowKit Go.Maps
variable {H:Nat→Prop}
set_option maxRecDepth 20000 in
theorem splits_all (x y:Pv.R)(bx by_ c bb l u:Nat)(w:World)(hT:Tab w)(hx:ReAt H w x bx)(hy:ReAt H w y by_)(hbud:BudAt w bb l u)(hbb:H bb)(hH:∀h,H h→h<w.heap.size)(hsx:Pv.size x<549755813888)(hsy:Pv.size y<549755813888)(hl:l<274877906944)
  (hhd:∀A B l1,Pv.build x l=(l1,some A)→(Pv.build y l1).2=some B→A.parts.length+B.parts.length≤12)
  (hc:CkAt w c bb {}) (tb:Nat) (T:Pv.T) (ht:HeadAt w tb T.op T.at_) (view:Bool):
  Calls Tryz.prog 115 #[Ptr c,Ptr tb,.bool view,Ptr bx,Ptr by_] w fun en w'=>en = .returned (.bool (({ left:=l }:Pv.Ck).splits T view x y).2)∧CkB w w' c bb l u (({ left:=l }:Pv.Ck).splits T view x y).1:=by
 have hsh:=acat_all (H:=H) x y bx by_ bb l u w hT hx hy hbud hbb hH hsx hsy hl hhd;have hq:({ left:=l }:Pv.Ck).splits T view x y=({ left:=l }:Pv.Ck).two 20 T view ((Pv.ambigCat x y l).1,(Pv.ambigCat x y l).2):=rfl;clear hy;have hok:=ok_any c bb {} w hc;have hle:(Pv.ambigCat x y l).1≤l:=Pv.ambigCat_le x y l;rw[hq];obtain⟨l1,hl1⟩:∃l1,(Pv.ambigCat x y l).1=l1:=⟨_,rfl⟩
 obtain⟨r,hr⟩:∃r,(Pv.ambigCat x y l).2=r:=⟨_,rfl⟩
 rw[hr,hl1]at hsh;rw[hl1]at hle;rw[hr,hl1];clear hq hr hl1;have hne:=hc.ne_bud hbud;have htn:=ht.ne hbud.2 (by decide);obtain⟨t,ok,er,hv,hv2⟩:=twoV_form r;rw[hv]at hsh;have x0:w.cell? ⟨c,0,none⟩=some (Ptr bb):=cB (o:=0) hc rfl;have HOk:=Hy hok;have HSh:=Hy hsh;have HC:=Hy hc;have HTm:=Hy ht;have HV:=Hy hv2;clear hok hsh hc ht hT hx hbud hH hv hv2 hhd;go_enter Tryz.func115,Tryz.ntmps115
 go_wp2_with fail;refine HOk.out.mono ?_;rintro e w' ⟨rfl,rfl⟩;go_wp2_with fail;refine HSh.out.mono ?_;rintro e w1 ⟨rfl,hb1,hk1⟩;have HB1:=Hy hb1;have HK1:=Hy hk1;clear hb1 hk1 HSh x0;go_wp2_with fail;have hA:Below w1.heap.size w1 (w1.alloc (.cells #[Str t.text,.int .i64 t.i,.int .i64 t.j] 148)):=(Below.refl _ _).alloc (Nat.le_refl _) _
 refine(two_all r c bb l l1 (w1.alloc (.cells #[Str t.text,.int .i64 t.i,.int .i64 t.j] 148)) ((HC.out.keep HK1.out hne).later hA) 20 (by decide) tb T ((HTm.out.keep HK1.out htn).later hA) view t ok er HV.out).mono ?_;rintro e w2 ⟨rfl,hc2,hk2⟩
 have HF:Hid (CkB w w2 c bb l u (({ left:=l }:Pv.Ck).two 20 T view (l1,r)).1):=CkB.mk (Pv.Ck.two_left _ _ _ _ _) hle hne (HB1.out.later hA) (HK1.out.trans (Keep.of_below hA)) hc2 hk2;clear hc2 hk2 HB1 HK1 hA;go_wp2_with fail;go_ret;exact⟨rfl,HF.out⟩
set_option maxRecDepth 20000 in
theorem iterates_all (x:Pv.R)(bx c bb l u:Nat)(w:World)(hT:Tab w)(hx:ReAt H w x bx)(hbud:BudAt w bb l u)(hbb:H bb)(hH:∀h,H h→h<w.heap.size)(hsx:Pv.size x<274877906944)(hl:l<274877906944)
  (hhd:Pv.null x=false→∀A B l1,Pv.build x l=(l1,some A)→(Pv.build (Pv.many x) l1).2=some B→A.parts.length+B.parts.length≤12)
  (hc:CkAt w c bb {}) (tb:Nat) (T:Pv.T) (ht:HeadAt w tb T.op T.at_) (view:Bool):
  Calls Tryz.prog 113 #[Ptr c,Ptr tb,.bool view,Ptr bx] w fun en w'=>en = .returned (.bool (({ left:=l }:Pv.Ck).iterates T view x).2)∧CkB w w' c bb l u (({ left:=l }:Pv.Ck).iterates T view x).1:=by
 have hsh:=iter_all (H:=H) x bx bb l u w hT hx hbud hbb hH hsx hl hhd;have hq:({ left:=l }:Pv.Ck).iterates T view x=({ left:=l }:Pv.Ck).two 21 T view ((Pv.ambigIter x l).1,(Pv.ambigIter x l).2):=rfl;have hok:=ok_any c bb {} w hc;have hle:(Pv.ambigIter x l).1≤l:=Pv.ambigIter_le x l;rw[hq];obtain⟨l1,hl1⟩:∃l1,(Pv.ambigIter x l).1=l1:=⟨_,rfl⟩
 obtain⟨r,hr⟩:∃r,(Pv.ambigIter x l).2=r:=⟨_,rfl⟩
 rw[hr,hl1]at hsh;rw[hl1]at hle;rw[hr,hl1];clear hq hr hl1;have hne:=hc.ne_bud hbud;have htn:=ht.ne hbud.2 (by decide);obtain⟨t,ok,er,hv,hv2⟩:=twoV_form r;rw[hv]at hsh;have x0:w.cell? ⟨c,0,none⟩=some (Ptr bb):=cB (o:=0) hc rfl;have HOk:=Hy hok;have HSh:=Hy hsh;have HC:=Hy hc;have HTm:=Hy ht;have HV:=Hy hv2;clear hok hsh hc ht hT hx hbud hH hv hv2 hhd;go_enter Tryz.func113,Tryz.ntmps113
 go_wp2_with fail;refine HOk.out.mono ?_;rintro e w' ⟨rfl,rfl⟩;go_wp2_with fail;refine HSh.out.mono ?_;rintro e w1 ⟨rfl,hb1,hk1⟩;have HB1:=Hy hb1;have HK1:=Hy hk1;clear hb1 hk1 HSh x0;go_wp2_with fail;have hA:Below w1.heap.size w1 (w1.alloc (.cells #[Str t.text,.int .i64 t.i,.int .i64 t.j] 148)):=(Below.refl _ _).alloc (Nat.le_refl _) _
 refine(two_all r c bb l l1 (w1.alloc (.cells #[Str t.text,.int .i64 t.i,.int .i64 t.j] 148)) ((HC.out.keep HK1.out hne).later hA) 21 (by decide) tb T ((HTm.out.keep HK1.out htn).later hA) view t ok er HV.out).mono ?_;rintro e w2 ⟨rfl,hc2,hk2⟩
 have HF:Hid (CkB w w2 c bb l u (({ left:=l }:Pv.Ck).two 21 T view (l1,r)).1):=CkB.mk (Pv.Ck.two_left _ _ _ _ _) hle hne (HB1.out.later hA) (HK1.out.trans (Keep.of_below hA)) hc2 hk2;clear hc2 hk2 HB1 HK1 hA;go_wp2_with fail;go_ret;exact⟨rfl,HF.out⟩
end Go.Proofs.YtinpjfnnfkjbmaaGreatDoor
namespace Go.Eaq
open Go Go.RowKit
open Go.Eag (Sch runVal)
open Go.Eak
section
variable {P:Program}{ops:Array Oper}{Q:Exit→Act→World→Prop}
variable {Rl:World→World→Prop}[hPre:Pre Rl]
theorem movS {l:List Oper}(hops:Hid (ops=l.toArray)){K:Act→World→Prop}{i:Nat}{s:Sch}{ex an:Nat→Bool}{a:Act}{w:World}{o:Oper}(hi:l.toArray[i]?=some o)(hg:Region.wanted o (yielded l.toArray a.tmps)=false)
  (h:wpSch Rl P ops K ex an s (a.put o.dst undef) w):wpSch Rl P ops K ex an (.mov i s) a w:=
 ⟨o,_,(congrArg (fun q:Array Oper=>q[i]?) hops.out).trans hi,.inr ⟨by rw[hops.out];exact hg,rfl⟩,h⟩
theorem ancS {l:List Oper}(hops:Hid (ops=l.toArray)){K:Act→World→Prop}{i:Nat}{s:Sch}{ex an:Nat→Bool}{a:Act}{w:World}{o:Oper}(hi:l.toArray[i]?=some o)(hg:Region.wanted o (yielded l.toArray a.tmps)=false)
  (h:wpSch Rl P ops K ex an s (a.put o.dst undef) w):wpSch Rl P ops K ex an (.anc i s) a w:=by
 show wpOp P ops noEnd i _ a w;have hi':ops[i]?=some o:=(congrArg (fun q:Array Oper=>q[i]?) hops.out).trans hi;unfold wpOp;simp only[hi'];rw[if_neg (by rw[hops.out,hg];decide)];exact⟨.inr (hPre.rf w),h⟩
end
end Go.Eaq
