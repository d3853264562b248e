/- The types of a term of law 17, by the page. -/
import Derived.Test.YtamkfdlcdiadlaaGreatDoorKb05
import Derived.Test.YtamkfdlcdiadlaaGreatDoorKb35
import Derived.Test.YtamkfdlcdiadlaaGreatDoorKb37
import Derived.Test.YtamkfdlcdiadlaaGreatDoorKb38
set_option linter.all false
namespace Go.Proofs.YtamkfdlcdiadlaaGreatDoor
open Go.RowKit Go.Maps
variable {H:Nat→Prop}
def TypW (H:Nat→Prop)(r:Pv.R × Pv.R)(w:World)(e:Ending)(w':World):Prop:=∃x y,e = .returned (.tuple #[Ptr x,Ptr y])∧ReAt H w' r.1 x∧ReAt H w' r.2 y∧Below w.heap.size w w'
set_option maxRecDepth 20000 in
theorem typ17_16 (r:Pv.R)(rb tb:Nat)(at_:Int)(nm tx bk:List UInt8)(kv:Value)(w:World)(ht:TermAt w tb 16 at_ nm (Ptr rb) tx bk kv)(hr:ReAt H w r rb):
  Calls Tryz.prog 51 #[Ptr tb] w (TypW H (r,r) w):=by
 have t0:w.cell? ⟨tb,0,none⟩=some (.int .i64 16):=cB (o:=0) ht rfl;have t3:w.cell? ⟨tb,3,none⟩=some (Ptr rb):=cB (o:=3) ht rfl;have HR:=Hy hr;clear ht hr;go_enter Tryz.func51,Tryz.ntmps51;go_wp2_with fail;refine Eag.region (.mov 0 (.mov 1 (.mov 2 (.mov 3 (.mov 4 (.mov 5 (.mov 6 (.mov 7 (.mov 8 (.mov 9 Eag.Sch.fin)))))))))) [] (by kernel_rfl) (by kernel_rfl) (fun K ops hops hK => ?_);iterate 10
  refine Eag.mov hops rfl rfl (fun w' hb => ?_) ?_
  ·have q0:=later hb t3;clear hb;go_simp
  go_simp
 refine Eag.fin (hK _ _ ?_);clear hK hops;go_simp;go_wp2_with fail;have hd:Below w.heap.size w w.drew:=(Below.refl _ _).drew;refine bodyPost_ret (v:= .tuple #[Ptr rb,Ptr rb]) ?_ rfl ⟨rb,rb,rfl,HR.out.later hd,HR.out.later hd,hd⟩;simp[results,Tryz.results51,go_sem]
set_option maxRecDepth 20000 in
theorem typ17_17 (r:Pv.R)(rb tb:Nat)(at_:Int)(nm tx bk:List UInt8)(kv:Value)(w:World)(ht:TermAt w tb 17 at_ nm (Ptr rb) tx bk kv)(hr:ReAt H w r rb)(hH:∀h,H h→h<w.heap.size)(htx:tx.length<549755813888):
  Calls Tryz.prog 51 #[Ptr tb] w (TypW H (r,Pv.word tx) w):=by
 have t0:w.cell? ⟨tb,0,none⟩=some (.int .i64 17):=cB (o:=0) ht rfl;have t3:w.cell? ⟨tb,3,none⟩=some (Ptr rb):=cB (o:=3) ht rfl;have t4:w.cell? ⟨tb,4,none⟩=some (Str tx):=cB (o:=4) ht rfl;have HR:=Hy hr;have HH:=Hy hH;clear ht hr hH;go_enter Tryz.func51,Tryz.ntmps51;go_wp2_with fail
 refine Eag.region (.mov 0 (.mov 1 (.mov 2 (.mov 3 (.mov 4 (.mov 5 (.mov 6 (.mov 7 (.anc 8 (.mov 9 (.mov 10 Eag.Sch.fin))))))))))) [] (by kernel_rfl) (by kernel_rfl) (fun K ops hops hK => ?_);iterate 8
  refine Eag.mov hops rfl rfl (fun w' hb => ?_) ?_
  ·have q0:=later hb t3;have q1:=later hb t4;clear hb;go_simp
  go_simp
 clear t0 t3 t4;refine Eag.anc hops rfl rfl ?_;go_wp2_with fail;have hd:Below w.heap.size w w.drew:=(Below.refl _ _).drew;refine(word_any (H:=H) tx w.drew HH.out htx).mono ?_;rintro e w1 ⟨x,rfl,hx,hb⟩;refine⟨hb,?_⟩;have HB:=Hy (hd.trans (hb.mono hd.size));have HX:=Hy hx;clear hb hx hd;iterate 2
  refine Eag.mov hops rfl rfl (fun w' hb => ?_) ?_
  ·clear hb;go_simp
  go_simp
 refine Eag.fin (hK _ _ ?_);clear hK hops;go_simp;go_wp2_with fail;refine bodyPost_ret (v:= .tuple #[Ptr rb,Ptr x]) ?_ rfl ⟨rb,x,rfl,HR.out.later HB.out,HX.out,HB.out⟩;simp[results,Tryz.results51,go_sem]
set_option maxRecDepth 20000 in
theorem typ17_9 (r:Pv.R × Pv.R)(tb ka off n kc b0:Nat)(w:World)(t0:w.cell? ⟨tb,0,none⟩=some (.int .i64 9))(t6:w.cell? ⟨tb,6,none⟩=some (.slice (some ⟨ka,off,none⟩) n kc))(hn:0<n)(k0:w.cell? ⟨ka,off,none⟩=some (Ptr b0))
  (hH:∀h,H h→h<w.heap.size) (hc:Calls Tryz.prog 51 #[Ptr b0] w (TypW H r w)) (hs1:Pv.size r.1<549755813888) (hs2:Pv.size r.2<549755813888):
  Calls Tryz.prog 51 #[Ptr tb] w (TypW H (Pv.many r.1,Pv.many r.2) w):=by
 have hn':(0:Int)<n:=by omega
 have HC:=Hy hc;have HH:=Hy hH;clear hc hH;go_enter Tryz.func51,Tryz.ntmps51;go_wp2_with fail;refine HC.out.mono ?_;rintro e w1 ⟨x,y,rfl,hx,hy,hb⟩;have z0:=later hb t0;have HB:=Hy hb;have HX:=Hy hx;have HY:=Hy hy;clear hb hx hy HC t0 t6 k0;go_wp2_with fail;refine(many_any (H:=H) r.1 x w1 HX.out (fun h hh=>Nat.lt_of_lt_of_le (HH.out h hh) HB.out.size) hs1).mono ?_;rintro e w2 ⟨x2,rfl,hx,hb⟩
 replace HY:=Hy (HY.out.later hb);replace HB:=Hy (HB.out.trans (hb.mono HB.out.size));replace HX:=Hy hx;clear hx hb z0;go_wp2_with fail;refine(many_any (H:=H) r.2 y w2 HY.out (fun h hh=>Nat.lt_of_lt_of_le (HH.out h hh) HB.out.size) hs2).mono ?_;rintro e w3 ⟨y2,rfl,hy,hb⟩;replace HX:=Hy (HX.out.later hb);replace HB:=Hy (HB.out.trans (hb.mono HB.out.size));replace HY:=Hy hy;clear hy hb
 go_wp2_with fail;refine bodyPost_ret (v:= .tuple #[Ptr x2,Ptr y2]) ?_ rfl ⟨x2,y2,rfl,HX.out,HY.out,HB.out⟩;simp[results,Tryz.results51,go_sem]
set_option maxRecDepth 20000 in
theorem typ17_7 (r q:Pv.R × Pv.R)(tb ka off n kc b0 b1:Nat)(w:World)(t0:w.cell? ⟨tb,0,none⟩=some (.int .i64 7))(t6:w.cell? ⟨tb,6,none⟩=some (.slice (some ⟨ka,off,none⟩) n kc))(hn:1<n)(k0:w.cell? ⟨ka,off,none⟩=some (Ptr b0))(k1:w.cell? ⟨ka,off+1,none⟩=some (Ptr b1))
  (hH:∀h,H h→h<w.heap.size) (hc:Calls Tryz.prog 51 #[Ptr b0] w (TypW H r w)) (hc2:∀W,Below w.heap.size w W→Calls Tryz.prog 51 #[Ptr b1] W (TypW H q W)) (hs1:Pv.size r.1+Pv.size q.1<549755813888) (hs2:Pv.size r.2+Pv.size q.2<549755813888):
  Calls Tryz.prog 51 #[Ptr tb] w (TypW H (Pv.any [r.1,q.1],Pv.any [r.2,q.2]) w):=by
 have hn':(1:Int)<n:=by omega
 have hn0:(0:Int)<n:=by omega
 have HC:=Hy hc;have HC2:=Hy hc2;have HH:=Hy hH;clear hc hc2 hH;go_enter Tryz.func51,Tryz.ntmps51;go_wp2_with fail;refine HC.out.mono ?_;rintro e w1 ⟨x,y,rfl,hx,hy,hb⟩;have z0:=later hb t0;have z6:=later hb t6;have z1:=later hb k1;have HB:=Hy hb;have HX:=Hy hx;have HY:=Hy hy;have HC3:=Hy (HC2.out w1 hb);clear hb hx hy HC HC2 t0 t6 k0 k1;go_wp2_with fail;refine HC3.out.mono ?_
 rintro e w2 ⟨x2,y2,rfl,hx,hy,hb⟩;have t0:=later hb z0;replace HX:=Hy (HX.out.later hb);replace HY:=Hy (HY.out.later hb);replace HB:=Hy (HB.out.trans (hb.mono HB.out.size));have HX2:=Hy hx;have HY2:=Hy hy;clear hb hx hy HC3 z0 z6 z1;go_wp2_with fail;obtain⟨g,hg⟩:∃n,w2.heap.size=n:=⟨_,rfl⟩
 obtain⟨w3,hw3⟩:∃w3,w2.alloc (.cells #[Ptr x,Ptr x2] 59)=w3:=⟨_,rfl⟩
 have hb:Below w2.heap.size w2 w3:=by rw[←hw3];exact(Below.refl _ _).alloc (Nat.le_refl _) _
 have hx3:w3.heap[g]?=some (.cells #[Ptr x,Ptr x2] 59):=by rw[←hw3];exact blk_new hg
 rw[hg,hw3];clear hw3 t0;replace HX:=Hy (HX.out.later hb);replace HY:=Hy (HY.out.later hb);replace HX2:=Hy (HX2.out.later hb);replace HY2:=Hy (HY2.out.later hb);replace HB:=Hy (HB.out.trans (hb.mono HB.out.size));have HX3:=Hy hx3;clear hb hx3
 refine(any_any (H:=H) [r.1,q.1] (some ⟨g,0,none⟩) 2 [x,x2] w3 (Sl.of_blk2 HX3.out) (res2 HX.out HX2.out) (fun h hh=>Nat.lt_of_lt_of_le (HH.out h hh) HB.out.size) (by simp only[Pv.sizes];omega)).mono ?_;rintro e w4 ⟨xx,rfl,hxx,hb⟩;replace HY:=Hy (HY.out.later hb);replace HY2:=Hy (HY2.out.later hb);replace HB:=Hy (HB.out.trans (hb.mono HB.out.size));have HXX:=Hy hxx;clear hb hxx HX HX2 HX3
 go_wp2_with fail;obtain⟨g5,hg5⟩:∃n,w4.heap.size=n:=⟨_,rfl⟩
 obtain⟨w5,hw5⟩:∃w5,w4.alloc (.cells #[Ptr y,Ptr y2] 59)=w5:=⟨_,rfl⟩
 have hb:Below w4.heap.size w4 w5:=by rw[←hw5];exact(Below.refl _ _).alloc (Nat.le_refl _) _
 have hx5:w5.heap[g5]?=some (.cells #[Ptr y,Ptr y2] 59):=by rw[←hw5];exact blk_new hg5
 rw[hg5,hw5];clear hw5;replace HXX:=Hy (HXX.out.later hb);replace HY:=Hy (HY.out.later hb);replace HY2:=Hy (HY2.out.later hb);replace HB:=Hy (HB.out.trans (hb.mono HB.out.size));have HX5:=Hy hx5;clear hb hx5
 refine(any_any (H:=H) [r.2,q.2] (some ⟨g5,0,none⟩) 2 [y,y2] w5 (Sl.of_blk2 HX5.out) (res2 HY.out HY2.out) (fun h hh=>Nat.lt_of_lt_of_le (HH.out h hh) HB.out.size) (by simp only[Pv.sizes];omega)).mono ?_;rintro e w6 ⟨yy,rfl,hyy,hb⟩;replace HXX:=Hy (HXX.out.later hb);replace HB:=Hy (HB.out.trans (hb.mono HB.out.size));have HYY:=Hy hyy;clear hb hyy HY HY2 HX5;go_wp2_with fail
 refine bodyPost_ret (v:= .tuple #[Ptr xx,Ptr yy]) ?_ rfl ⟨xx,yy,rfl,HXX.out,HYY.out,HB.out⟩;simp[results,Tryz.results51,go_sem]
set_option maxRecDepth 20000 in
theorem typ17_8 (r q:Pv.R × Pv.R)(tb ka off n kc b0 b1:Nat)(w:World)(t0:w.cell? ⟨tb,0,none⟩=some (.int .i64 8))(t6:w.cell? ⟨tb,6,none⟩=some (.slice (some ⟨ka,off,none⟩) n kc))(hn:1<n)(k0:w.cell? ⟨ka,off,none⟩=some (Ptr b0))(k1:w.cell? ⟨ka,off+1,none⟩=some (Ptr b1))
  (hH:∀h,H h→h<w.heap.size) (hc:Calls Tryz.prog 51 #[Ptr b0] w (TypW H r w)) (hc2:∀W,Below w.heap.size w W→Calls Tryz.prog 51 #[Ptr b1] W (TypW H q W)) (hs1:Pv.size r.1+Pv.size q.1<549755813888) (hs2:Pv.size r.2+Pv.size q.2<549755813888):
  Calls Tryz.prog 51 #[Ptr tb] w (TypW H (Pv.cat [r.1,q.1],Pv.cat [r.2,q.2]) w):=by
 have hn':(1:Int)<n:=by omega
 have hn0:(0:Int)<n:=by omega
 have HC:=Hy hc;have HC2:=Hy hc2;have HH:=Hy hH;clear hc hc2 hH;go_enter Tryz.func51,Tryz.ntmps51;go_wp2_with fail;refine HC.out.mono ?_;rintro e w1 ⟨x,y,rfl,hx,hy,hb⟩;have z0:=later hb t0;have z6:=later hb t6;have z1:=later hb k1;have HB:=Hy hb;have HX:=Hy hx;have HY:=Hy hy;have HC3:=Hy (HC2.out w1 hb);clear hb hx hy HC HC2 t0 t6 k0 k1;go_wp2_with fail;refine HC3.out.mono ?_
 rintro e w2 ⟨x2,y2,rfl,hx,hy,hb⟩;have t0:=later hb z0;replace HX:=Hy (HX.out.later hb);replace HY:=Hy (HY.out.later hb);replace HB:=Hy (HB.out.trans (hb.mono HB.out.size));have HX2:=Hy hx;have HY2:=Hy hy;clear hb hx hy HC3 z0 z6 z1;go_wp2_with fail;obtain⟨g,hg⟩:∃n,w2.heap.size=n:=⟨_,rfl⟩
 obtain⟨w3,hw3⟩:∃w3,w2.alloc (.cells #[Ptr x,Ptr x2] 59)=w3:=⟨_,rfl⟩
 have hb:Below w2.heap.size w2 w3:=by rw[←hw3];exact(Below.refl _ _).alloc (Nat.le_refl _) _
 have hx3:w3.heap[g]?=some (.cells #[Ptr x,Ptr x2] 59):=by rw[←hw3];exact blk_new hg
 rw[hg,hw3];clear hw3 t0;replace HX:=Hy (HX.out.later hb);replace HY:=Hy (HY.out.later hb);replace HX2:=Hy (HX2.out.later hb);replace HY2:=Hy (HY2.out.later hb);replace HB:=Hy (HB.out.trans (hb.mono HB.out.size));have HX3:=Hy hx3;clear hb hx3
 refine(cat_any (H:=H) [r.1,q.1] (some ⟨g,0,none⟩) 2 [x,x2] w3 (Sl.of_blk2 HX3.out) (res2 HX.out HX2.out) (fun h hh=>Nat.lt_of_lt_of_le (HH.out h hh) HB.out.size) (by simp only[Pv.sizes];omega)).mono ?_;rintro e w4 ⟨xx,rfl,hxx,hb⟩;replace HY:=Hy (HY.out.later hb);replace HY2:=Hy (HY2.out.later hb);replace HB:=Hy (HB.out.trans (hb.mono HB.out.size));have HXX:=Hy hxx;clear hb hxx HX HX2 HX3
 go_wp2_with fail;obtain⟨g5,hg5⟩:∃n,w4.heap.size=n:=⟨_,rfl⟩
 obtain⟨w5,hw5⟩:∃w5,w4.alloc (.cells #[Ptr y,Ptr y2] 59)=w5:=⟨_,rfl⟩
 have hb:Below w4.heap.size w4 w5:=by rw[←hw5];exact(Below.refl _ _).alloc (Nat.le_refl _) _
 have hx5:w5.heap[g5]?=some (.cells #[Ptr y,Ptr y2] 59):=by rw[←hw5];exact blk_new hg5
 rw[hg5,hw5];clear hw5;replace HXX:=Hy (HXX.out.later hb);replace HY:=Hy (HY.out.later hb);replace HY2:=Hy (HY2.out.later hb);replace HB:=Hy (HB.out.trans (hb.mono HB.out.size));have HX5:=Hy hx5;clear hb hx5
 refine(cat_any (H:=H) [r.2,q.2] (some ⟨g5,0,none⟩) 2 [y,y2] w5 (Sl.of_blk2 HX5.out) (res2 HY.out HY2.out) (fun h hh=>Nat.lt_of_lt_of_le (HH.out h hh) HB.out.size) (by simp only[Pv.sizes];omega)).mono ?_;rintro e w6 ⟨yy,rfl,hyy,hb⟩;replace HXX:=Hy (HXX.out.later hb);replace HB:=Hy (HB.out.trans (hb.mono HB.out.size));have HYY:=Hy hyy;clear hb hyy HY HY2 HX5;go_wp2_with fail
 refine bodyPost_ret (v:= .tuple #[Ptr xx,Ptr yy]) ?_ rfl ⟨xx,yy,rfl,HXX.out,HYY.out,HB.out⟩;simp[results,Tryz.results51,go_sem]
theorem types17_any:∀(m:Nat) (H:Nat→Prop) (t:Pv.T) (tb:Nat) (w:World),Pv.tsize t≤m→Pv.tsize t<100000→Pv.CG t→TAt H w t tb→(∀h,H h→h<w.heap.size) →
  Calls Tryz.prog 51 #[Ptr tb] w (TypW H (Pv.typesOf t) w)
 | 0,_,t,_,_,hm,_,_,_,_=>by have:=tsize_eq t;omega
 | m+1,H,t,tb,w,hm,hz,hg,hat,hH=>by
   have hseq:=tsize_eq t;have ho:=hg.open_;obtain⟨_,rv,a,kc,bs,hr,ha,hterm,hsl,hts⟩:=hat.open_;rw[Pv.typesOf_eq];unfold Pv.tyEnd;rcases hg.op5 with e|e|e|e|e
   ·obtain⟨r,hre,_,_⟩:=hg.leaf (.inl e);rw[hre]at hr;obtain⟨rb,rfl,hrb⟩:=hr;rw[if_pos e,hre];rw[e]at hterm;exact typ17_16 r rb tb _ _ _ _ _ w hterm hrb
   ·obtain⟨r,hre,_,_⟩:=hg.leaf (.inr e);rw[hre]at hr;obtain⟨rb,rfl,hrb⟩:=hr;rw[if_neg (by omega),if_pos e,hre];rw[e]at hterm;have:=Pv.len_txL _ ho.2.2.2.1;exact typ17_17 r rb tb _ _ _ _ _ w hterm hrb hH (by omega)
   ·obtain⟨x,y,hk,hx,hy⟩:=hg.two (.inl e);rw[if_neg (by omega),if_neg (by omega),if_neg (by omega),if_pos e];rw[hk]at hseq hts ⊢;obtain⟨h0,a0⟩:=hts.get 0 (by simp);obtain⟨h1,a1⟩:=hts.get 1 (by simp);simp only[Pv.tsizes]at hseq;obtain⟨ka,off,rfl,c0⟩:=hsl.cell 0 (by simpa using h0);obtain⟨ka',off',e',c1⟩:=hsl.cell 1 (by simpa using h1);cases e';rw[List.getElem_map]at c0 c1
    have gx:=Pv.types_good _ x (Nat.le_refl _) hx;have gy:=Pv.types_good _ y (Nat.le_refl _) hy;have:=gx.s1;have:=gx.s2;have:=gy.s1;have:=gy.s2
    have t0:w.cell? ⟨tb,0,none⟩=some (.int .i64 (t.op:Int)):=cB (o:=0) hterm rfl;rw[e]at t0;exact typ17_7 (Pv.typesOf x) (Pv.typesOf y) tb ka off _ kc bs[0] bs[1] w t0 (cB (o:=6) hterm rfl) h1 c0 c1 hH (types17_any m H x _ w (by omega) (by omega) hx a0 hH) (fun W hW=>types17_any m H y _ W (by omega) (by omega) hy (a1.later hW) (fun h hh=>Nat.lt_of_lt_of_le (hH h hh) hW.size)) (by omega) (by omega)
   ·obtain⟨x,y,hk,hx,hy⟩:=hg.two (.inr e);rw[if_neg (by omega),if_neg (by omega),if_neg (by omega),if_neg (by omega)];rw[hk]at hseq hts ⊢;obtain⟨h0,a0⟩:=hts.get 0 (by simp);obtain⟨h1,a1⟩:=hts.get 1 (by simp);simp only[Pv.tsizes]at hseq;obtain⟨ka,off,rfl,c0⟩:=hsl.cell 0 (by simpa using h0);obtain⟨ka',off',e',c1⟩:=hsl.cell 1 (by simpa using h1);cases e';rw[List.getElem_map]at c0 c1
    have gx:=Pv.types_good _ x (Nat.le_refl _) hx;have gy:=Pv.types_good _ y (Nat.le_refl _) hy;have:=gx.s1;have:=gx.s2;have:=gy.s1;have:=gy.s2
    have t0:w.cell? ⟨tb,0,none⟩=some (.int .i64 (t.op:Int)):=cB (o:=0) hterm rfl;rw[e]at t0;exact typ17_8 (Pv.typesOf x) (Pv.typesOf y) tb ka off _ kc bs[0] bs[1] w t0 (cB (o:=6) hterm rfl) h1 c0 c1 hH (types17_any m H x _ w (by omega) (by omega) hx a0 hH) (fun W hW=>types17_any m H y _ W (by omega) (by omega) hy (a1.later hW) (fun h hh=>Nat.lt_of_lt_of_le (hH h hh) hW.size)) (by omega) (by omega)
   ·obtain⟨x,hk,hx⟩:=hg.one e;rw[if_neg (by omega),if_neg (by omega),if_pos e];rw[hk]at hseq hts ⊢;obtain⟨h0,a0⟩:=hts.get 0 (by simp);simp only[Pv.tsizes]at hseq;obtain⟨ka,off,rfl,c0⟩:=hsl.cell 0 (by simpa using h0);rw[List.getElem_map]at c0;have gx:=Pv.types_good _ x (Nat.le_refl _) hx;have:=gx.s1;have:=gx.s2
    have t0:w.cell? ⟨tb,0,none⟩=some (.int .i64 (t.op:Int)):=cB (o:=0) hterm rfl;rw[e]at t0;exact typ17_9 (Pv.typesOf x) tb ka off _ kc bs[0] w t0 (cB (o:=6) hterm rfl) h0 c0 hH (types17_any m H x _ w (by omega) (by omega) hx a0 hH) (by omega) (by omega)
end Go.Proofs.YtamkfdlcdiadlaaGreatDoor
