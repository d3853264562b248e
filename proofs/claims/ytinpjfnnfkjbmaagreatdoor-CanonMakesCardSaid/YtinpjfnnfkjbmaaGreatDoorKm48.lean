/- Is a canonizer's fault of two ways shown by its text? -/
import Derived.Test.YtinpjfnnfkjbmaaGreatDoorKm05
import Derived.Test.YtinpjfnnfkjbmaaGreatDoorKm47
import Derived.Test.YtinpjfnnfkjbmaaGreatDoorKm40
set_option linter.all false
namespace Go.Proofs.YtinpjfnnfkjbmaaGreatDoor
open Go.RowKit Go.Maps
variable {H:Nat→Prop}
def ShI (f:Pv.Fault)(fb r:Nat)(s:Bool)(w:World):Prop:=w.heap[r]?=some (.cells #[.bool s] 4)∧w.heap[fb]?=some (.cells (faultC f) 45)
theorem ShI.ne {f:Pv.Fault}{fb r:Nat}{s:Bool}{w:World}(h:ShI f fb r s w):¬fb=r:=fun e=>by have h1:=h.1;rw[←e,h.2]at h1;simp at h1
def ClW (f:Pv.Fault)(fb r:Nat)(ret s:Bool)(w:World)(e:Ending)(w':World):Prop:=e = .returned (.bool ret)∧ShI f fb r s w'∧Keep (· = r) w w'
set_option maxRecDepth 20000 in
theorem clo_no (f:Pv.Fault)(fb r:Nat)(t:Pv.T)(tb:Nat)(w:World)(hp:Pv.hit f t=false)(hat:TAt (· = r) w t tb)(hI:ShI f fb r false w):
  Calls Tryz.prog 56 #[Ptr tb,Ptr fb,Ptr r] w (ClW f fb r true false w):=by
 obtain⟨_,rv,a,kc,bs,_,ha,hterm,hsl,hts⟩:=hat.open_;have t0:w.cell? ⟨tb,0,none⟩=some (.int .i64 (t.op:Int)):=cB (o:=0) hterm rfl;have t1:w.cell? ⟨tb,1,none⟩=some (.int .i64 t.at_):=cB (o:=1) hterm rfl;obtain⟨y0,y1,y2,y3,y4,y5,y6,yf⟩:=fl_cells hI.2;have nft:∀x,¬(fun _:Nat=>False) x:=fun _ h=>h
 have nt:=nft tb;have nf:=nft fb;unfold Pv.hit at hp;have HI:=Hy hI;by_cases h1:t.at_=f.at_
 ·have h2:¬t.op=f.op:=fun e=>by rw[h1,e]at hp;simp at hp
  have a2:((t.op:Int)==(f.op:Int))=false:=by simp;omega
  have b2:decide ((t.op:Int)=(f.op:Int))=false:=decide_eq_false (by omega);have c2:decide (t.op=f.op)=false:=decide_eq_false h2;rw[h1]at t1;clear hp h1 h2 hat hI hterm hsl hts ha y0 y3 y4 y5 y6 yf nft;go_enter Tryz.func56,Tryz.ntmps56;go_wp2_with fail
  refine Eaq.region (Keep fun _=>False) (.mov 0 (.mov 1 (.mov 2 (.mov 3 (.mov 4 (.mov 5 (.mov 6 (.mov 7 (.mov 8 (.mov 9 (.mov 10 (.mov 11 (.mov 12 (.mov 13 (.mov 14 (.mov 15 Eag.Sch.fin)))))))))))))))) [] [] (by kernel_rfl) (by kernel_rfl) (fun K ops hops hK => ?_);iterate 8
   first
    | (refine Eaq.mov hops rfl rfl rfl (fun w' hb => ?_) ?_
       ·have q0:=Keep.cell hb nt t1;have q1:=Keep.cell hb nf y2;clear hb;go_simp)
    | (refine Eaq.movA hops rfl rfl (fun w' => ?_) ?_
       ·go_simp)
   go_simp
  iterate 7
   refine Eaq.movG hops rfl rfl rfl (fun w' hb => ?_) ?_
   ·have q0:=Keep.cell hb nt t0;have q1:=Keep.cell hb nf y1;clear hb;go_simp
   go_simp
  iterate 1
   first
    | (refine Eaq.mov hops rfl rfl rfl (fun w' hb => ?_) ?_
       ·clear hb;go_simp)
    | (refine Eaq.movA hops rfl rfl (fun w' => ?_) ?_
       ·go_simp)
   go_simp
  refine Eaq.fin (hK _ _ ?_);clear hK hops;go_simp;go_wp2_with fail;go_ret;exact⟨rfl,HI.out,Keep.drew _⟩
 ·have a2:(t.at_ != f.at_)=true:=by simp[h1]
  clear hp h1 hat hI hterm hsl hts ha y0 y3 y4 y5 y6 yf nft;go_enter Tryz.func56,Tryz.ntmps56;go_wp2_with fail;refine Eaq.region (Keep fun _=>False) (.mov 0 (.mov 1 (.mov 2 (.mov 3 (.mov 4 (.mov 5 (.mov 6 (.mov 7 (.mov 8 (.mov 9 (.mov 10 (.mov 11 (.mov 12 (.mov 13 (.mov 14 (.mov 15 Eag.Sch.fin)))))))))))))))) [] [] (by kernel_rfl) (by kernel_rfl) (fun K ops hops hK => ?_);iterate 8
   first
    | (refine Eaq.mov hops rfl rfl rfl (fun w' hb => ?_) ?_
       ·have q0:=Keep.cell hb nt t1;have q1:=Keep.cell hb nf y2;clear hb;go_simp)
    | (refine Eaq.movA hops rfl rfl (fun w' => ?_) ?_
       ·go_simp)
   go_simp
  iterate 7
   first
    | refine Eaq.movS hops rfl rfl ?_
    | refine Eaq.ancS hops rfl rfl ?_
   go_simp
  iterate 1
   first
    | (refine Eaq.mov hops rfl rfl rfl (fun w' hb => ?_) ?_
       ·clear hb;go_simp)
    | (refine Eaq.movA hops rfl rfl (fun w' => ?_) ?_
       ·go_simp)
   go_simp
  refine Eaq.fin (hK _ _ ?_);clear hK hops;go_simp;go_wp2_with fail;go_ret;exact⟨rfl,HI.out,Keep.drew _⟩
set_option maxRecDepth 20000 in
set_option maxHeartbeats 2000000 in
theorem clo_8 (f:Pv.Fault)(fb r:Nat)(t:Pv.T)(tb:Nat)(w:World)(hp:Pv.hit f t=true)(hop:t.op=8)(hg:Pv.CG t)(hz:Pv.tsize t<100000)(hF:Pv.FactF f t)(hat:TAt (· = r) w t tb)(hI:ShI f fb r false w):
  Calls Tryz.prog 56 #[Ptr tb,Ptr fb,Ptr r] w (ClW f fb r false true w):=by
 have gt:=hg;unfold Pv.hit at hp;simp only[Bool.and_eq_true]at hp;have hpa:t.at_=f.at_:=of_decide_eq_true hp.1;have hpo:t.op=f.op:=of_decide_eq_true hp.2;obtain⟨_,rv,a,kc,bs,_,ha,hterm,hsl,hts⟩:=hat.open_;have t0:w.cell? ⟨tb,0,none⟩=some (.int .i64 (t.op:Int)):=cB (o:=0) hterm rfl;have t1:w.cell? ⟨tb,1,none⟩=some (.int .i64 t.at_):=cB (o:=1) hterm rfl;obtain⟨y0,y1,y2,y3,y4,y5,y6,yf⟩:=fl_cells hI.2
 have nft:∀x,¬(fun _:Nat=>False) x:=fun _ h=>h
 have nt:=nft tb;have nf:=nft fb;rw[hpa]at t1;rw[hop]at t0;have y1':w.cell? ⟨fb,1,none⟩=some (.int .i64 8):=by rw[y1,←hpo,hop];rfl
 obtain⟨x,y,hkx,hgx,hgy⟩:=gt.two (.inr hop);rw[hkx]at hts;obtain⟨h0,a0⟩:=hts.get 0 (by simp);obtain⟨h1,a1⟩:=hts.get 1 (by simp);obtain⟨ka,off,rfl,c0⟩:=hsl.cell 0 (by simpa using h0);obtain⟨ka',off',e',c1⟩:=hsl.cell 1 (by simpa using h1);cases e';rw[List.getElem_map]at c0 c1;replace c0:w.cell? ⟨ka,off,none⟩=some (Ptr bs[0]):=c0
 have t6:w.cell? ⟨tb,6,none⟩=some (.slice (some ⟨ka,off,none⟩) bs.length kc):=cB (o:=6) hterm rfl;have hn':(0:Int)<bs.length:=by omega
 have hn1:(1:Int)<bs.length:=by omega
 have hzx:Pv.tsize x<100000∧Pv.tsize y<100000:=by have h1:=tsize_eq t;rw[hkx]at h1;simp only[Pv.tsizes]at h1;omega
 have HA0:=Hy a0;have HA1:=Hy a1;have HF:=Hy hF;have HKx:=Hy hkx;have Hgx:=Hy hgx;have Hgy:=Hy hgy;have HHop:=Hy hop;clear a0 a1 hF hkx hgx hgy hterm hsl hts ha gt hg hop;have HI:=Hy hI;have hfr:=hI.ne;clear y1 hp hpa hpo hat hI y0 y4 y5 y6 yf nft;go_enter Tryz.func56,Tryz.ntmps56;go_wp2_with fail
 refine Eaq.region (Keep fun _=>False) (.mov 0 (.mov 1 (.mov 2 (.mov 3 (.mov 4 (.mov 5 (.mov 6 (.mov 7 (.mov 8 (.mov 9 (.mov 10 (.mov 11 (.mov 12 (.mov 13 (.mov 14 (.mov 15 Eag.Sch.fin)))))))))))))))) [] [] (by kernel_rfl) (by kernel_rfl) (fun K ops hops hK => ?_);iterate 8
  first
   | (refine Eaq.mov hops rfl rfl rfl (fun w' hb => ?_) ?_
      ·have q0:=Keep.cell hb nt t1;have q1:=Keep.cell hb nf y2;clear hb;go_simp)
   | (refine Eaq.movA hops rfl rfl (fun w' => ?_) ?_
      ·go_simp)
  go_simp
 iterate 7
  refine Eaq.movG hops rfl rfl rfl (fun w' hb => ?_) ?_
  ·have q0:=Keep.cell hb nt t0;have q1:=Keep.cell hb nf y1';clear hb;go_simp
  go_simp
 iterate 1
  first
   | (refine Eaq.mov hops rfl rfl rfl (fun w' hb => ?_) ?_
      ·clear hb;go_simp)
   | (refine Eaq.movA hops rfl rfl (fun w' => ?_) ?_
      ·go_simp)
  go_simp
 refine Eaq.fin (hK _ _ ?_);clear hK hops;go_simp;obtain⟨w1,hw1⟩:∃W,w.drew=W:=⟨_,rfl⟩
 have hb1:Below w.heap.size w w1:=by rw[←hw1];exact(Below.refl _ _).drew
 rw[hw1];clear hw1 y1' y2 t1;have HB:=Hy hb1;replace HI:=Hy (show ShI f fb r false w1 from⟨later_blk hb1 HI.out.1,later_blk hb1 HI.out.2⟩);replace t0:=later hb1 t0;replace y3:=later hb1 y3;replace t6:=later hb1 t6;replace c0:=later hb1 c0;replace c1:=later hb1 c1;have hrl:r<w1.heap.size:=blk_lt HI.out.1
 have HTy:=Hy (types17_any _ (· = r) x bs[0] w1 (Nat.le_refl _) hzx.1 Hgx.out (HA0.out.later hb1) (fun h e=>by rw[e];exact hrl));have HTy2:=Hy (fun(W:World) (hW:Below w1.heap.size w1 W)=>types17_any _ (· = r) y bs[1] W (Nat.le_refl _) hzx.2 Hgy.out ((HA1.out.later hb1).later hW) (fun h e=>by rw[e];have:=hW.size;omega));have hfact:=HF.out;unfold Pv.FactF at hfact;rw[HKx.out]at hfact
 obtain⟨hlen,hfact⟩:=hfact;rcases hfact with⟨_,e,_⟩|⟨he,he2,hfact⟩
 ·rw[HHop.out]at e;omega
 have HFa:=Hy hfact;clear hfact he he2 hb1 HA0 HA1;cases hv:f.view with
 | false=>
   have hfa:=HFa.out;rw[hv]at hfa y3;simp only[Bool.false_eq_true,if_false,Pv.typesL,Pv.nthR_cons0,Pv.nthR_cons1]at hfa;obtain⟨wf1,wf2,bu1,bu2,hsh⟩:=hfa;have HSh:=Hy hsh;have HB1:=Hy bu1;have HB2:=Hy bu2;have HW1:=Hy wf1;have HW2:=Hy wf2;clear hsh bu1 bu2 wf1 wf2 hv HFa;go_wp2_with fail;refine HTy.out.mono ?_;rintro e w2 ⟨x1,x2,rfl,hx1,hx2,hb2⟩;replace t0:=later hb2 t0;replace y3:=later hb2 y3
   replace t6:=later hb2 t6;replace c1:=later hb2 c1;replace HI:=Hy (show ShI f fb r false w2 from⟨later_blk hb2 HI.out.1,later_blk hb2 HI.out.2⟩);replace HB:=Hy (HB.out.trans (hb2.mono HB.out.size));have HX1:=Hy hx1;have HX2:=Hy hx2;have HTy3:=Hy (HTy2.out w2 hb2);have hsz2:=hb2.size;clear hb2 hx1 hx2 HTy HTy2 c0;go_wp2_with fail;refine HTy3.out.mono ?_;rintro e w3 ⟨z1,z2,rfl,hz1,hz2,hb3⟩
   replace y3:=later hb3 y3;replace HI:=Hy (show ShI f fb r false w3 from⟨later_blk hb3 HI.out.1,later_blk hb3 HI.out.2⟩);replace HB:=Hy (HB.out.trans (hb3.mono HB.out.size));replace HX1:=Hy (HX1.out.later hb3);replace HX2:=Hy (HX2.out.later hb3);have HZ1:=Hy hz1;have HZ2:=Hy hz2;have hsz3:=hb3.size;clear hb3 hz1 hz2 HTy3 t0 t6 c1;go_upto_region 12 with fail
   clear y3;obtain⟨v0,v1,v2,v3,v4,v5,v6,vf⟩:=fl_cells HI.out.2;go_wp2_with fail;clear v0 v1 v2 v3 v4 v5 v6 vf
   refine(Shown_true (H:=(· = r)) f (Pv.typesOf x).1 (Pv.typesOf y).1 x1 z1 w3 (fun z=>∃s,z=Pv.bys (Pv.typesOf x).1 s) (fun z=>∃s,z=Pv.bys (Pv.typesOf y).1 s) (fun z c ⟨s,e⟩=>⟨s++[c],by rw[e,Pv.bys_append];rfl⟩) (fun z ⟨s,e⟩=>by rw[e];exact HB1.out.small HW1.out s) ⟨[],rfl⟩ (fun z c ⟨s,e⟩=>⟨s++[c],by rw[e,Pv.bys_append];rfl⟩) (fun z ⟨s,e⟩=>by rw[e];exact HB2.out.small HW2.out s) ⟨[],rfl⟩ HX1.out HZ1.out (fun h e=>by rw[e];omega) hlen HSh.out).mono ?_
   rintro e w4 ⟨rfl,hb4⟩;have HI4:=Hy (show ShI f fb r false w4 from⟨later_blk hb4 HI.out.1,later_blk hb4 HI.out.2⟩);replace HB:=Hy (HB.out.trans (hb4.mono HB.out.size));clear hb4 HI HX1 HX2 HZ1 HZ2;have x0:w4.cell? ⟨r,0,none⟩=some (.bool false):=cB (o:=0) HI4.out.1 rfl;have xf:∀o,w4.frozen? ⟨r,o,none⟩=false:=fun o=>fob HI4.out.1
   go_wp2_with fail;have hk:Keep (· = r) w4 (w4.setCell ⟨r,0,none⟩ (.bool true)):=Keep.set rfl;go_ret;exact⟨rfl,⟨by rw[blk_set HI4.out.1];rfl,hk.blk hfr HI4.out.2⟩,(Keep.of_below HB.out).trans hk⟩
 | true=>
   have hfa:=HFa.out;rw[hv]at hfa y3;simp only[if_true,Pv.typesL,Pv.nthR_cons0,Pv.nthR_cons1]at hfa;obtain⟨wf1,wf2,bu1,bu2,hsh⟩:=hfa;have HSh:=Hy hsh;have HB1:=Hy bu1;have HB2:=Hy bu2;have HW1:=Hy wf1;have HW2:=Hy wf2;clear hsh bu1 bu2 wf1 wf2 hv HFa;go_wp2_with fail;refine HTy.out.mono ?_;rintro e w2 ⟨x1,x2,rfl,hx1,hx2,hb2⟩;replace t0:=later hb2 t0;replace y3:=later hb2 y3;replace t6:=later hb2 t6
   replace c1:=later hb2 c1;replace HI:=Hy (show ShI f fb r false w2 from⟨later_blk hb2 HI.out.1,later_blk hb2 HI.out.2⟩);replace HB:=Hy (HB.out.trans (hb2.mono HB.out.size));have HX1:=Hy hx1;have HX2:=Hy hx2;have HTy3:=Hy (HTy2.out w2 hb2);have hsz2:=hb2.size;clear hb2 hx1 hx2 HTy HTy2 c0;go_wp2_with fail;refine HTy3.out.mono ?_;rintro e w3 ⟨z1,z2,rfl,hz1,hz2,hb3⟩;replace y3:=later hb3 y3
   replace HI:=Hy (show ShI f fb r false w3 from⟨later_blk hb3 HI.out.1,later_blk hb3 HI.out.2⟩);replace HB:=Hy (HB.out.trans (hb3.mono HB.out.size));replace HX1:=Hy (HX1.out.later hb3);replace HX2:=Hy (HX2.out.later hb3);have HZ1:=Hy hz1;have HZ2:=Hy hz2;have hsz3:=hb3.size;clear hb3 hz1 hz2 HTy3 t0 t6 c1;go_upto_region 12 with fail
   clear y3;obtain⟨v0,v1,v2,v3,v4,v5,v6,vf⟩:=fl_cells HI.out.2;go_wp2_with fail;clear v0 v1 v2 v3 v4 v5 v6 vf
   refine(Shown_true (H:=(· = r)) f (Pv.typesOf x).2 (Pv.typesOf y).2 x2 z2 w3 (fun z=>∃s,z=Pv.bys (Pv.typesOf x).2 s) (fun z=>∃s,z=Pv.bys (Pv.typesOf y).2 s) (fun z c ⟨s,e⟩=>⟨s++[c],by rw[e,Pv.bys_append];rfl⟩) (fun z ⟨s,e⟩=>by rw[e];exact HB1.out.small HW1.out s) ⟨[],rfl⟩ (fun z c ⟨s,e⟩=>⟨s++[c],by rw[e,Pv.bys_append];rfl⟩) (fun z ⟨s,e⟩=>by rw[e];exact HB2.out.small HW2.out s) ⟨[],rfl⟩ HX2.out HZ2.out (fun h e=>by rw[e];omega) hlen HSh.out).mono ?_
   rintro e w4 ⟨rfl,hb4⟩;have HI4:=Hy (show ShI f fb r false w4 from⟨later_blk hb4 HI.out.1,later_blk hb4 HI.out.2⟩);replace HB:=Hy (HB.out.trans (hb4.mono HB.out.size));clear hb4 HI HX1 HX2 HZ1 HZ2;have x0:w4.cell? ⟨r,0,none⟩=some (.bool false):=cB (o:=0) HI4.out.1 rfl;have xf:∀o,w4.frozen? ⟨r,o,none⟩=false:=fun o=>fob HI4.out.1
   go_wp2_with fail;have hk:Keep (· = r) w4 (w4.setCell ⟨r,0,none⟩ (.bool true)):=Keep.set rfl;go_ret;exact⟨rfl,⟨by rw[blk_set HI4.out.1];rfl,hk.blk hfr HI4.out.2⟩,(Keep.of_below HB.out).trans hk⟩
set_option maxRecDepth 20000 in
set_option maxHeartbeats 4000000 in
theorem clo_9 (f:Pv.Fault)(fb r:Nat)(t:Pv.T)(tb:Nat)(w:World)(hp:Pv.hit f t=true)(hop:t.op=9)(hg:Pv.CG t)(hz:Pv.tsize t<100000)(hF:Pv.FactF f t)(hat:TAt (· = r) w t tb)(hI:ShI f fb r false w):
  Calls Tryz.prog 56 #[Ptr tb,Ptr fb,Ptr r] w (ClW f fb r false true w):=by
 have gt:=hg;unfold Pv.hit at hp;simp only[Bool.and_eq_true]at hp;have hpa:t.at_=f.at_:=of_decide_eq_true hp.1;have hpo:t.op=f.op:=of_decide_eq_true hp.2;obtain⟨_,rv,a,kc,bs,_,ha,hterm,hsl,hts⟩:=hat.open_;have t0:w.cell? ⟨tb,0,none⟩=some (.int .i64 (t.op:Int)):=cB (o:=0) hterm rfl;have t1:w.cell? ⟨tb,1,none⟩=some (.int .i64 t.at_):=cB (o:=1) hterm rfl;obtain⟨y0,y1,y2,y3,y4,y5,y6,yf⟩:=fl_cells hI.2
 have nft:∀x,¬(fun _:Nat=>False) x:=fun _ h=>h
 have nt:=nft tb;have nf:=nft fb;rw[hpa]at t1;rw[hop]at t0;have y1':w.cell? ⟨fb,1,none⟩=some (.int .i64 9):=by rw[y1,←hpo,hop];rfl
 obtain⟨x,hkx,hgx⟩:=gt.one hop;rw[hkx]at hts;obtain⟨h0,a0⟩:=hts.get 0 (by simp);obtain⟨ka,off,rfl,c0⟩:=hsl.cell 0 (by simpa using h0);rw[List.getElem_map]at c0;replace c0:w.cell? ⟨ka,off,none⟩=some (Ptr bs[0]):=c0;have t6:w.cell? ⟨tb,6,none⟩=some (.slice (some ⟨ka,off,none⟩) bs.length kc):=cB (o:=6) hterm rfl;have hn':(0:Int)<bs.length:=by omega
 have hzx:Pv.tsize x<100000:=by have h1:=tsize_eq t;rw[hkx]at h1;simp only[Pv.tsizes]at h1;omega
 have gx:=Pv.types_good _ x (Nat.le_refl _) hgx;have hzm1:Pv.size (Pv.typesOf x).1<549755813888:=by have:=gx.s1;omega
 have hzm2:Pv.size (Pv.typesOf x).2<549755813888:=by have:=gx.s2;omega
 have HA0:=Hy a0;have HF:=Hy hF;have HKx:=Hy hkx;have Hgx:=Hy hgx;have HHop:=Hy hop;clear a0 hF hkx hgx hterm hsl hts ha gt hg hop gx;have HI:=Hy hI;have hfr:=hI.ne;clear y1 hp hpa hpo hat hI y0 y4 y5 y6 yf nft;go_enter Tryz.func56,Tryz.ntmps56;go_wp2_with fail
 refine Eaq.region (Keep fun _=>False) (.mov 0 (.mov 1 (.mov 2 (.mov 3 (.mov 4 (.mov 5 (.mov 6 (.mov 7 (.mov 8 (.mov 9 (.mov 10 (.mov 11 (.mov 12 (.mov 13 (.mov 14 (.mov 15 Eag.Sch.fin)))))))))))))))) [] [] (by kernel_rfl) (by kernel_rfl) (fun K ops hops hK => ?_);iterate 8
  first
   | (refine Eaq.mov hops rfl rfl rfl (fun w' hb => ?_) ?_
      ·have q0:=Keep.cell hb nt t1;have q1:=Keep.cell hb nf y2;clear hb;go_simp)
   | (refine Eaq.movA hops rfl rfl (fun w' => ?_) ?_
      ·go_simp)
  go_simp
 iterate 7
  refine Eaq.movG hops rfl rfl rfl (fun w' hb => ?_) ?_
  ·have q0:=Keep.cell hb nt t0;have q1:=Keep.cell hb nf y1';clear hb;go_simp
  go_simp
 iterate 1
  first
   | (refine Eaq.mov hops rfl rfl rfl (fun w' hb => ?_) ?_
      ·clear hb;go_simp)
   | (refine Eaq.movA hops rfl rfl (fun w' => ?_) ?_
      ·go_simp)
  go_simp
 refine Eaq.fin (hK _ _ ?_);clear hK hops;go_simp;obtain⟨w1,hw1⟩:∃W,w.drew=W:=⟨_,rfl⟩
 have hb1:Below w.heap.size w w1:=by rw[←hw1];exact(Below.refl _ _).drew
 rw[hw1];clear hw1 y1' y2 t1;have HB:=Hy hb1;replace HI:=Hy (show ShI f fb r false w1 from⟨later_blk hb1 HI.out.1,later_blk hb1 HI.out.2⟩);replace t0:=later hb1 t0;replace y3:=later hb1 y3;replace t6:=later hb1 t6;replace c0:=later hb1 c0;have hrl:r<w1.heap.size:=blk_lt HI.out.1
 have HTy:=Hy (types17_any _ (· = r) x bs[0] w1 (Nat.le_refl _) hzx Hgx.out (HA0.out.later hb1) (fun h e=>by rw[e];exact hrl));have hfact:=HF.out;unfold Pv.FactF at hfact;rw[HKx.out]at hfact;obtain⟨hlen,hfact⟩:=hfact;rcases hfact with⟨he,he2,hfact⟩|⟨_,e,_⟩
 ·have HFa:=Hy hfact;clear hfact he he2 hb1 HA0;cases hv:f.view with
  | false=>
    have hfa:=HFa.out;rw[hv]at hfa y3;simp only[Bool.false_eq_true,if_false,Pv.typesL,Pv.nthR_cons0]at hfa;obtain⟨wf1,hsh⟩:=hfa;have HW1:=Hy wf1;clear hv HFa wf1;go_wp2_with fail;refine HTy.out.mono ?_;rintro e w2 ⟨x1,x2,rfl,hx1,hx2,hb2⟩;replace t0:=later hb2 t0;replace y3:=later hb2 y3;replace HI:=Hy (show ShI f fb r false w2 from⟨later_blk hb2 HI.out.1,later_blk hb2 HI.out.2⟩)
    replace HB:=Hy (HB.out.trans (hb2.mono HB.out.size));have HX1:=Hy hx1;have HX2:=Hy hx2;have hsz2:=hb2.size;clear hb2 hx1 hx2 HTy c0 t6;go_upto_region 7 with fail
    clear y3 t0;have nft:∀x,¬(fun _:Nat=>False) x:=fun _ h=>h
    have nf:=nft fb;clear nft;rcases hsh with⟨hnu,ht4,ht5,ht6⟩|⟨hnu,bu1,bu2,hsh⟩
    ·obtain⟨v0,v1,v2,v3,v4,v5,v6,vf⟩:=fl_cells HI.out.2;rw[ht4]at v4;rw[ht5]at v5;rw[ht6]at v6;have hnul:=null_any (Pv.typesOf x).1 x1 w2.drew (HX1.out.later (Below.refl _ _).drew);rw[hnu]at hnul;have HNu:=Hy hnul;clear hnul hnu ht4 ht5 ht6 v0 v1 v2 v3 vf
     refine Eaq.region (Keep fun _=>False) (.mov 0 (.anc 1 (.mov 2 (.mov 3 (.mov 4 (.mov 5 (.mov 6 (.mov 7 (.mov 8 (.mov 9 (.mov 10 (.mov 11 (.mov 12 (.mov 13 (.mov 14 (.mov 15 (.mov 16 (.mov 17 (.mov 18 (.anc 19 (.mov 20 (.mov 21 (.mov 22 (.mov 23 (.mov 24 (.anc 25 (.anc 26 (.mov 27 (.mov 28 (.anc 29 Eag.Sch.fin)))))))))))))))))))))))))))))) [29] [] (by kernel_rfl) (by kernel_rfl) (fun K ops hops hK => ?_)
     iterate 1
      first
       | (refine Eaq.mov hops rfl rfl rfl (fun w' hb => ?_) ?_
          ·clear hb;go_simp)
       | (refine Eaq.movA hops rfl rfl (fun w' => ?_) ?_
          ·go_simp)
      go_simp
     refine Eaq.anc hops rfl rfl ?_;go_wp2_with fail;refine HNu.out.mono ?_;rintro e w' ⟨rfl,e1⟩;subst e1;refine⟨Keep.refl _ _,?_⟩;iterate 1
      first
       | (refine Eaq.mov hops rfl rfl rfl (fun w' hb => ?_) ?_
          ·clear hb;go_simp)
       | (refine Eaq.movA hops rfl rfl (fun w' => ?_) ?_
          ·go_simp)
      go_simp
     iterate 3
      refine Eaq.movG hops rfl rfl rfl (fun w' hb => ?_) ?_
      ·have q0:=Keep.cell hb nf v4;clear hb;go_simp
      go_simp
     iterate 2
      first
       | (refine Eaq.mov hops rfl rfl rfl (fun w' hb => ?_) ?_
          ·clear hb;go_simp)
       | (refine Eaq.movA hops rfl rfl (fun w' => ?_) ?_
          ·go_simp)
      go_simp
     iterate 3
      refine Eaq.movG hops rfl rfl rfl (fun w' hb => ?_) ?_
      ·have q0:=Keep.cell hb nf v5;clear hb;go_simp
      go_simp
     iterate 2
      first
       | (refine Eaq.mov hops rfl rfl rfl (fun w' hb => ?_) ?_
          ·clear hb;go_simp)
       | (refine Eaq.movA hops rfl rfl (fun w' => ?_) ?_
          ·go_simp)
      go_simp
     iterate 3
      refine Eaq.movG hops rfl rfl rfl (fun w' hb => ?_) ?_
      ·have q0:=Keep.cell hb nf v6;clear hb;go_simp
      go_simp
     iterate 2
      first
       | (refine Eaq.mov hops rfl rfl rfl (fun w' hb => ?_) ?_
          ·clear hb;go_simp)
       | (refine Eaq.movA hops rfl rfl (fun w' => ?_) ?_
          ·go_simp)
      go_simp
     iterate 10
      first
       | refine Eaq.movS hops rfl rfl ?_
       | refine Eaq.ancS hops rfl rfl ?_
      go_simp
     iterate 1
      first
       | (refine Eaq.mov hops rfl rfl rfl (fun w' hb => ?_) ?_
          ·clear hb;go_simp)
       | (refine Eaq.movA hops rfl rfl (fun w' => ?_) ?_
          ·go_simp)
      go_simp
     clear v4 v5 v6 HNu;have hd:Below w2.heap.size w2 w2.drew:=(Below.refl _ _).drew;replace HI:=Hy (show ShI f fb r false w2.drew from⟨later_blk hd HI.out.1,later_blk hd HI.out.2⟩);replace HB:=Hy (HB.out.trans (hd.mono HB.out.size));clear hd;generalize w2.drew=w4 at *;have x0:w4.cell? ⟨r,0,none⟩=some (.bool false):=cB (o:=0) HI.out.1 rfl;have xf:∀o,w4.frozen? ⟨r,o,none⟩=false:=fun o=>fob HI.out.1
     refine Eaq.anc hops rfl rfl ?_;go_wp2_with fail;refine Eaq.fin (hK _ _ ?_);clear hK hops;go_simp;go_wp2_with fail;have hk:Keep (· = r) w4 (w4.setCell ⟨r,0,none⟩ (.bool true)):=Keep.set rfl;go_ret;exact⟨rfl,⟨by rw[blk_set HI.out.1];rfl,hk.blk hfr HI.out.2⟩,(Keep.of_below HB.out).trans hk⟩
    ·have HSh:=Hy hsh;have HB1:=Hy bu1;have HB2:=Hy bu2;clear hsh bu1 bu2;have hd:Below w2.heap.size w2 w2.drew:=(Below.refl _ _).drew;obtain⟨v0,v1,v2,v3,v4,v5,v6,vf⟩:=fl_cells HI.out.2;have hnul:=fun(W:World) (hW:Below w2.heap.size w2 W)=>null_any (Pv.typesOf x).1 x1 W (HX1.out.later hW)
     rw[hnu]at hnul;have HNu:=Hy (hnul w2.drew hd);clear hnul hnu
     refine Eaq.region (Keep fun _=>False) (.mov 0 (.anc 1 (.mov 2 (.mov 3 (.mov 4 (.mov 5 (.mov 6 (.mov 7 (.mov 8 (.mov 9 (.mov 10 (.mov 11 (.mov 12 (.mov 13 (.mov 14 (.mov 15 (.mov 16 (.mov 17 (.mov 18 (.anc 19 (.mov 20 (.mov 21 (.mov 22 (.mov 23 (.mov 24 (.anc 25 (.anc 26 (.mov 27 (.mov 28 (.anc 29 Eag.Sch.fin)))))))))))))))))))))))))))))) [29] [] (by kernel_rfl) (by kernel_rfl) (fun K ops hops hK => ?_)
     iterate 1
      first
       | (refine Eaq.mov hops rfl rfl rfl (fun w' hb => ?_) ?_
          ·clear hb;go_simp)
       | (refine Eaq.movA hops rfl rfl (fun w' => ?_) ?_
          ·go_simp)
      go_simp
     refine Eaq.anc hops rfl rfl ?_;go_wp2_with fail;refine HNu.out.mono ?_;rintro e w' ⟨rfl,e1⟩;subst e1;refine⟨Keep.refl _ _,?_⟩;iterate 1
      first
       | (refine Eaq.mov hops rfl rfl rfl (fun w' hb => ?_) ?_
          ·clear hb;go_simp)
       | (refine Eaq.movA hops rfl rfl (fun w' => ?_) ?_
          ·go_simp)
      go_simp
     iterate 3
      first
       | refine Eaq.movS hops rfl rfl ?_
       | refine Eaq.ancS hops rfl rfl ?_
      go_simp
     iterate 2
      first
       | (refine Eaq.mov hops rfl rfl rfl (fun w' hb => ?_) ?_
          ·clear hb;go_simp)
       | (refine Eaq.movA hops rfl rfl (fun w' => ?_) ?_
          ·go_simp)
      go_simp
     iterate 3
      first
       | refine Eaq.movS hops rfl rfl ?_
       | refine Eaq.ancS hops rfl rfl ?_
      go_simp
     iterate 2
      first
       | (refine Eaq.mov hops rfl rfl rfl (fun w' hb => ?_) ?_
          ·clear hb;go_simp)
       | (refine Eaq.movA hops rfl rfl (fun w' => ?_) ?_
          ·go_simp)
      go_simp
     iterate 3
      first
       | refine Eaq.movS hops rfl rfl ?_
       | refine Eaq.ancS hops rfl rfl ?_
      go_simp
     iterate 2
      first
       | (refine Eaq.mov hops rfl rfl rfl (fun w' hb => ?_) ?_
          ·clear hb;go_simp)
       | (refine Eaq.movA hops rfl rfl (fun w' => ?_) ?_
          ·go_simp)
      go_simp
     iterate 1
      refine Eaq.movG hops rfl rfl rfl (fun w' hb => ?_) ?_
      ·clear hb;go_simp
      go_simp
     refine Eaq.ancG hops rfl rfl ?_;go_wp2_with fail;refine HNu.out.mono ?_;rintro e w' ⟨rfl,e1⟩;subst e1;refine⟨Keep.refl _ _,?_⟩;iterate 2
      refine Eaq.movG hops rfl rfl rfl (fun w' hb => ?_) ?_
      ·clear hb;go_simp
      go_simp
     iterate 3
      refine Eaq.movG hops rfl rfl rfl (fun w' hb => ?_) ?_
      ·have q0:=Keep.cell hb nf v0;have q1:=Keep.cell hb nf v1;have q2:=Keep.cell hb nf v2;have q3:=Keep.cell hb nf v3;have q4:=Keep.cell hb nf v4;have q5:=Keep.cell hb nf v5;have q6:=Keep.cell hb nf v6;clear hb;go_simp
      go_simp
     clear v0 v1 v2 v3 v4 v5 v6 vf HNu;replace HI:=Hy (show ShI f fb r false w2.drew from⟨later_blk hd HI.out.1,later_blk hd HI.out.2⟩);replace HB:=Hy (HB.out.trans (hd.mono HB.out.size));replace HX1:=Hy (HX1.out.later hd);have hszd:=hd.size;clear hd;generalize w2.drew=w3 at *;refine Eaq.ancG hops rfl rfl ?_;go_wp2_with fail
     refine(many_any (H:=(· = r)) (Pv.typesOf x).1 x1 w3 HX1.out (fun h e=>by rw[e];omega) hzm1).mono ?_;rintro e w4 ⟨xm,rfl,hxm,hb4⟩;refine⟨Keep.of_below hb4,?_⟩;replace HI:=Hy (show ShI f fb r false w4 from⟨later_blk hb4 HI.out.1,later_blk hb4 HI.out.2⟩);replace HB:=Hy (HB.out.trans (hb4.mono HB.out.size));replace HX1:=Hy (HX1.out.later hb4);have HXm:=Hy hxm;have hsz4:=hb4.size;clear hb4 hxm
     refine Eaq.ancG hops rfl rfl ?_;go_wp2_with fail
     refine(Shown_true (H:=(· = r)) f (Pv.typesOf x).1 (Pv.many (Pv.typesOf x).1) x1 xm w4 (fun z=>∃s,z=Pv.bys (Pv.typesOf x).1 s) (fun z=>∃s,z=Pv.bys (Pv.many (Pv.typesOf x).1) s) (fun z c ⟨s,e⟩=>⟨s++[c],by rw[e,Pv.bys_append];rfl⟩) (fun z ⟨s,e⟩=>by rw[e];exact HB1.out.small HW1.out s) ⟨[],rfl⟩ (fun z c ⟨s,e⟩=>⟨s++[c],by rw[e,Pv.bys_append];rfl⟩) (fun z ⟨s,e⟩=>by rw[e];exact HB2.out.small (Pv.wf_many HW1.out) s) ⟨[],rfl⟩ HX1.out HXm.out (fun h e=>by rw[e];omega) hlen HSh.out).mono ?_
     rintro e w5 ⟨rfl,hb5⟩;refine⟨Keep.of_below hb5,?_⟩;replace HI:=Hy (show ShI f fb r false w5 from⟨later_blk hb5 HI.out.1,later_blk hb5 HI.out.2⟩);replace HB:=Hy (HB.out.trans (hb5.mono HB.out.size));clear hb5 HX1 HXm;iterate 1
      refine Eaq.movG hops rfl rfl rfl (fun w' hb => ?_) ?_
      ·clear hb;go_simp
      go_simp
     iterate 1
      first
       | (refine Eaq.mov hops rfl rfl rfl (fun w' hb => ?_) ?_
          ·clear hb;go_simp)
       | (refine Eaq.movA hops rfl rfl (fun w' => ?_) ?_
          ·go_simp)
      go_simp
     have x0:w5.cell? ⟨r,0,none⟩=some (.bool false):=cB (o:=0) HI.out.1 rfl;have xf:∀o,w5.frozen? ⟨r,o,none⟩=false:=fun o=>fob HI.out.1
     refine Eaq.anc hops rfl rfl ?_;go_wp2_with fail;refine Eaq.fin (hK _ _ ?_);clear hK hops;go_simp;go_wp2_with fail;have hk:Keep (· = r) w5 (w5.setCell ⟨r,0,none⟩ (.bool true)):=Keep.set rfl;go_ret;exact⟨rfl,⟨by rw[blk_set HI.out.1];rfl,hk.blk hfr HI.out.2⟩,(Keep.of_below HB.out).trans hk⟩
  | true=>
    have hfa:=HFa.out;rw[hv]at hfa y3;simp only[if_true,Pv.typesL,Pv.nthR_cons0]at hfa;obtain⟨wf1,hsh⟩:=hfa;have HW1:=Hy wf1;clear hv HFa wf1;go_wp2_with fail;refine HTy.out.mono ?_;rintro e w2 ⟨x1,x2,rfl,hx1,hx2,hb2⟩;replace t0:=later hb2 t0;replace y3:=later hb2 y3;replace HI:=Hy (show ShI f fb r false w2 from⟨later_blk hb2 HI.out.1,later_blk hb2 HI.out.2⟩)
    replace HB:=Hy (HB.out.trans (hb2.mono HB.out.size));have HX1:=Hy hx1;have HX2:=Hy hx2;have hsz2:=hb2.size;clear hb2 hx1 hx2 HTy c0 t6;go_upto_region 7 with fail
    clear y3 t0;have nft:∀x,¬(fun _:Nat=>False) x:=fun _ h=>h
    have nf:=nft fb;clear nft;rcases hsh with⟨hnu,ht4,ht5,ht6⟩|⟨hnu,bu1,bu2,hsh⟩
    ·obtain⟨v0,v1,v2,v3,v4,v5,v6,vf⟩:=fl_cells HI.out.2;rw[ht4]at v4;rw[ht5]at v5;rw[ht6]at v6;have hnul:=null_any (Pv.typesOf x).2 x2 w2.drew (HX2.out.later (Below.refl _ _).drew);rw[hnu]at hnul;have HNu:=Hy hnul;clear hnul hnu ht4 ht5 ht6 v0 v1 v2 v3 vf
     refine Eaq.region (Keep fun _=>False) (.mov 0 (.anc 1 (.mov 2 (.mov 3 (.mov 4 (.mov 5 (.mov 6 (.mov 7 (.mov 8 (.mov 9 (.mov 10 (.mov 11 (.mov 12 (.mov 13 (.mov 14 (.mov 15 (.mov 16 (.mov 17 (.mov 18 (.anc 19 (.mov 20 (.mov 21 (.mov 22 (.mov 23 (.mov 24 (.anc 25 (.anc 26 (.mov 27 (.mov 28 (.anc 29 Eag.Sch.fin)))))))))))))))))))))))))))))) [29] [] (by kernel_rfl) (by kernel_rfl) (fun K ops hops hK => ?_)
     iterate 1
      first
       | (refine Eaq.mov hops rfl rfl rfl (fun w' hb => ?_) ?_
          ·clear hb;go_simp)
       | (refine Eaq.movA hops rfl rfl (fun w' => ?_) ?_
          ·go_simp)
      go_simp
     refine Eaq.anc hops rfl rfl ?_;go_wp2_with fail;refine HNu.out.mono ?_;rintro e w' ⟨rfl,e1⟩;subst e1;refine⟨Keep.refl _ _,?_⟩;iterate 1
      first
       | (refine Eaq.mov hops rfl rfl rfl (fun w' hb => ?_) ?_
          ·clear hb;go_simp)
       | (refine Eaq.movA hops rfl rfl (fun w' => ?_) ?_
          ·go_simp)
      go_simp
     iterate 3
      refine Eaq.movG hops rfl rfl rfl (fun w' hb => ?_) ?_
      ·have q0:=Keep.cell hb nf v4;clear hb;go_simp
      go_simp
     iterate 2
      first
       | (refine Eaq.mov hops rfl rfl rfl (fun w' hb => ?_) ?_
          ·clear hb;go_simp)
       | (refine Eaq.movA hops rfl rfl (fun w' => ?_) ?_
          ·go_simp)
      go_simp
     iterate 3
      refine Eaq.movG hops rfl rfl rfl (fun w' hb => ?_) ?_
      ·have q0:=Keep.cell hb nf v5;clear hb;go_simp
      go_simp
     iterate 2
      first
       | (refine Eaq.mov hops rfl rfl rfl (fun w' hb => ?_) ?_
          ·clear hb;go_simp)
       | (refine Eaq.movA hops rfl rfl (fun w' => ?_) ?_
          ·go_simp)
      go_simp
     iterate 3
      refine Eaq.movG hops rfl rfl rfl (fun w' hb => ?_) ?_
      ·have q0:=Keep.cell hb nf v6;clear hb;go_simp
      go_simp
     iterate 2
      first
       | (refine Eaq.mov hops rfl rfl rfl (fun w' hb => ?_) ?_
          ·clear hb;go_simp)
       | (refine Eaq.movA hops rfl rfl (fun w' => ?_) ?_
          ·go_simp)
      go_simp
     iterate 10
      first
       | refine Eaq.movS hops rfl rfl ?_
       | refine Eaq.ancS hops rfl rfl ?_
      go_simp
     iterate 1
      first
       | (refine Eaq.mov hops rfl rfl rfl (fun w' hb => ?_) ?_
          ·clear hb;go_simp)
       | (refine Eaq.movA hops rfl rfl (fun w' => ?_) ?_
          ·go_simp)
      go_simp
     clear v4 v5 v6 HNu;have hd:Below w2.heap.size w2 w2.drew:=(Below.refl _ _).drew;replace HI:=Hy (show ShI f fb r false w2.drew from⟨later_blk hd HI.out.1,later_blk hd HI.out.2⟩);replace HB:=Hy (HB.out.trans (hd.mono HB.out.size));clear hd;generalize w2.drew=w4 at *;have x0:w4.cell? ⟨r,0,none⟩=some (.bool false):=cB (o:=0) HI.out.1 rfl;have xf:∀o,w4.frozen? ⟨r,o,none⟩=false:=fun o=>fob HI.out.1
     refine Eaq.anc hops rfl rfl ?_;go_wp2_with fail;refine Eaq.fin (hK _ _ ?_);clear hK hops;go_simp;go_wp2_with fail;have hk:Keep (· = r) w4 (w4.setCell ⟨r,0,none⟩ (.bool true)):=Keep.set rfl;go_ret;exact⟨rfl,⟨by rw[blk_set HI.out.1];rfl,hk.blk hfr HI.out.2⟩,(Keep.of_below HB.out).trans hk⟩
    ·have HSh:=Hy hsh;have HB1:=Hy bu1;have HB2:=Hy bu2;clear hsh bu1 bu2;have hd:Below w2.heap.size w2 w2.drew:=(Below.refl _ _).drew;obtain⟨v0,v1,v2,v3,v4,v5,v6,vf⟩:=fl_cells HI.out.2;have hnul:=fun(W:World) (hW:Below w2.heap.size w2 W)=>null_any (Pv.typesOf x).2 x2 W (HX2.out.later hW)
     rw[hnu]at hnul;have HNu:=Hy (hnul w2.drew hd);clear hnul hnu
     refine Eaq.region (Keep fun _=>False) (.mov 0 (.anc 1 (.mov 2 (.mov 3 (.mov 4 (.mov 5 (.mov 6 (.mov 7 (.mov 8 (.mov 9 (.mov 10 (.mov 11 (.mov 12 (.mov 13 (.mov 14 (.mov 15 (.mov 16 (.mov 17 (.mov 18 (.anc 19 (.mov 20 (.mov 21 (.mov 22 (.mov 23 (.mov 24 (.anc 25 (.anc 26 (.mov 27 (.mov 28 (.anc 29 Eag.Sch.fin)))))))))))))))))))))))))))))) [29] [] (by kernel_rfl) (by kernel_rfl) (fun K ops hops hK => ?_)
     iterate 1
      first
       | (refine Eaq.mov hops rfl rfl rfl (fun w' hb => ?_) ?_
          ·clear hb;go_simp)
       | (refine Eaq.movA hops rfl rfl (fun w' => ?_) ?_
          ·go_simp)
      go_simp
     refine Eaq.anc hops rfl rfl ?_;go_wp2_with fail;refine HNu.out.mono ?_;rintro e w' ⟨rfl,e1⟩;subst e1;refine⟨Keep.refl _ _,?_⟩;iterate 1
      first
       | (refine Eaq.mov hops rfl rfl rfl (fun w' hb => ?_) ?_
          ·clear hb;go_simp)
       | (refine Eaq.movA hops rfl rfl (fun w' => ?_) ?_
          ·go_simp)
      go_simp
     iterate 3
      first
       | refine Eaq.movS hops rfl rfl ?_
       | refine Eaq.ancS hops rfl rfl ?_
      go_simp
     iterate 2
      first
       | (refine Eaq.mov hops rfl rfl rfl (fun w' hb => ?_) ?_
          ·clear hb;go_simp)
       | (refine Eaq.movA hops rfl rfl (fun w' => ?_) ?_
          ·go_simp)
      go_simp
     iterate 3
      first
       | refine Eaq.movS hops rfl rfl ?_
       | refine Eaq.ancS hops rfl rfl ?_
      go_simp
     iterate 2
      first
       | (refine Eaq.mov hops rfl rfl rfl (fun w' hb => ?_) ?_
          ·clear hb;go_simp)
       | (refine Eaq.movA hops rfl rfl (fun w' => ?_) ?_
          ·go_simp)
      go_simp
     iterate 3
      first
       | refine Eaq.movS hops rfl rfl ?_
       | refine Eaq.ancS hops rfl rfl ?_
      go_simp
     iterate 2
      first
       | (refine Eaq.mov hops rfl rfl rfl (fun w' hb => ?_) ?_
          ·clear hb;go_simp)
       | (refine Eaq.movA hops rfl rfl (fun w' => ?_) ?_
          ·go_simp)
      go_simp
     iterate 1
      refine Eaq.movG hops rfl rfl rfl (fun w' hb => ?_) ?_
      ·clear hb;go_simp
      go_simp
     refine Eaq.ancG hops rfl rfl ?_;go_wp2_with fail;refine HNu.out.mono ?_;rintro e w' ⟨rfl,e1⟩;subst e1;refine⟨Keep.refl _ _,?_⟩;iterate 2
      refine Eaq.movG hops rfl rfl rfl (fun w' hb => ?_) ?_
      ·clear hb;go_simp
      go_simp
     iterate 3
      refine Eaq.movG hops rfl rfl rfl (fun w' hb => ?_) ?_
      ·have q0:=Keep.cell hb nf v0;have q1:=Keep.cell hb nf v1;have q2:=Keep.cell hb nf v2;have q3:=Keep.cell hb nf v3;have q4:=Keep.cell hb nf v4;have q5:=Keep.cell hb nf v5;have q6:=Keep.cell hb nf v6;clear hb;go_simp
      go_simp
     clear v0 v1 v2 v3 v4 v5 v6 vf HNu;replace HI:=Hy (show ShI f fb r false w2.drew from⟨later_blk hd HI.out.1,later_blk hd HI.out.2⟩);replace HB:=Hy (HB.out.trans (hd.mono HB.out.size));replace HX2:=Hy (HX2.out.later hd);have hszd:=hd.size;clear hd;generalize w2.drew=w3 at *;refine Eaq.ancG hops rfl rfl ?_;go_wp2_with fail
     refine(many_any (H:=(· = r)) (Pv.typesOf x).2 x2 w3 HX2.out (fun h e=>by rw[e];omega) hzm2).mono ?_;rintro e w4 ⟨xm,rfl,hxm,hb4⟩;refine⟨Keep.of_below hb4,?_⟩;replace HI:=Hy (show ShI f fb r false w4 from⟨later_blk hb4 HI.out.1,later_blk hb4 HI.out.2⟩);replace HB:=Hy (HB.out.trans (hb4.mono HB.out.size));replace HX2:=Hy (HX2.out.later hb4);have HXm:=Hy hxm;have hsz4:=hb4.size;clear hb4 hxm
     refine Eaq.ancG hops rfl rfl ?_;go_wp2_with fail
     refine(Shown_true (H:=(· = r)) f (Pv.typesOf x).2 (Pv.many (Pv.typesOf x).2) x2 xm w4 (fun z=>∃s,z=Pv.bys (Pv.typesOf x).2 s) (fun z=>∃s,z=Pv.bys (Pv.many (Pv.typesOf x).2) s) (fun z c ⟨s,e⟩=>⟨s++[c],by rw[e,Pv.bys_append];rfl⟩) (fun z ⟨s,e⟩=>by rw[e];exact HB1.out.small HW1.out s) ⟨[],rfl⟩ (fun z c ⟨s,e⟩=>⟨s++[c],by rw[e,Pv.bys_append];rfl⟩) (fun z ⟨s,e⟩=>by rw[e];exact HB2.out.small (Pv.wf_many HW1.out) s) ⟨[],rfl⟩ HX2.out HXm.out (fun h e=>by rw[e];omega) hlen HSh.out).mono ?_
     rintro e w5 ⟨rfl,hb5⟩;refine⟨Keep.of_below hb5,?_⟩;replace HI:=Hy (show ShI f fb r false w5 from⟨later_blk hb5 HI.out.1,later_blk hb5 HI.out.2⟩);replace HB:=Hy (HB.out.trans (hb5.mono HB.out.size));clear hb5 HX2 HXm;iterate 1
      refine Eaq.movG hops rfl rfl rfl (fun w' hb => ?_) ?_
      ·clear hb;go_simp
      go_simp
     iterate 1
      first
       | (refine Eaq.mov hops rfl rfl rfl (fun w' hb => ?_) ?_
          ·clear hb;go_simp)
       | (refine Eaq.movA hops rfl rfl (fun w' => ?_) ?_
          ·go_simp)
      go_simp
     have x0:w5.cell? ⟨r,0,none⟩=some (.bool false):=cB (o:=0) HI.out.1 rfl;have xf:∀o,w5.frozen? ⟨r,o,none⟩=false:=fun o=>fob HI.out.1
     refine Eaq.anc hops rfl rfl ?_;go_wp2_with fail;refine Eaq.fin (hK _ _ ?_);clear hK hops;go_simp;go_wp2_with fail;have hk:Keep (· = r) w5 (w5.setCell ⟨r,0,none⟩ (.bool true)):=Keep.set rfl;go_ret;exact⟨rfl,⟨by rw[blk_set HI.out.1];rfl,hk.blk hfr HI.out.2⟩,(Keep.of_below HB.out).trans hk⟩
 ·rw[HHop.out]at e;omega
end Go.Proofs.YtinpjfnnfkjbmaaGreatDoor
