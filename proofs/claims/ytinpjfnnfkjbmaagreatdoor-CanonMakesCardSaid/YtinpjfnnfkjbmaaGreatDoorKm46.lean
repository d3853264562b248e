/- Judge at Star. -/
import Derived.Test.YtinpjfnnfkjbmaaGreatDoorKm05
import Derived.Test.YtinpjfnnfkjbmaaGreatDoorKm44
import Derived.Test.YtinpjfnnfkjbmaaGreatDoorKm45
set_option linter.all false
namespace Go.Proofs.YtinpjfnnfkjbmaaGreatDoor
open Go.RowKit Go.Maps
variable {H:Nat→Prop}
def jst (t:Pv.T)(k:Pv.R × Pv.R)(j l:Nat):Pv.Ck:=
 if j=0 then(Pv.Ck.both (({ left:=l }:Pv.Ck).iterates t false k.1) (·.iterates t true k.2)).1
 else if j=1 then(({ left:=l }:Pv.Ck).iterates t true k.2).1 else { left:=l }
theorem jst_step (t:Pv.T)(k:Pv.R × Pv.R)(j l:Nat)(hj:j<2):jst t k j l=if(twoF (badF t) 21 (decide (j=1)) (Pv.ambigIter (if j=0 then k.1 else k.2) l).2).e=0 then jst t k (j+1) (Pv.ambigIter (if j=0 then k.1 else k.2) l).1
  else { left:=(Pv.ambigIter (if j=0 then k.1 else k.2) l).1,fault:=twoF (badF t) 21 (decide (j=1)) (Pv.ambigIter (if j=0 then k.1 else k.2) l).2 }:=by
 match j,hj with
 | 0,_=>exact both_fst (e:=21) (by decide) (r:=Pv.ambigIter k.1 l)
 | 1,_=>
   have h:(({ left:=l }:Pv.Ck).iterates t true k.2).1={ left:=(Pv.ambigIter k.2 l).1,fault:=twoF (badF t) 21 true (Pv.ambigIter k.2 l).2 }:=two_fst (r:=Pv.ambigIter k.2 l);show(({ left:=l }:Pv.Ck).iterates t true k.2).1=_;rw[h];simp only[Nat.one_ne_zero,if_false,decide_true];split
   ·rename_i e;rw[twoF_zero (by decide) e];rfl
   ·rfl
def JI9 (H:Nat→Prop)(bb s r gb sb x1 x2:Nat)(t x:Pv.T)(l:Nat)(w wD:World)(j:Nat)(wr:World):Prop:=∃(lj uj:Nat),jst t (Pv.typesOf x) 0 l=jst t (Pv.typesOf x) j lj∧BudAt wr bb lj uj∧lj+uj=s∧wr.heap[r]?=some (.cells (faultC {}) 45)∧wr.heap[gb]?=some (.cells (faultC (badF t)) 45) ∧
 wr.heap[sb]?=some (.cells #[Ptr x1,Ptr x2] 51)∧ReAt H wr (Pv.typesOf x).1 x1∧ReAt H wr (Pv.typesOf x).2 x2∧Tab wr∧wD.heap.size≤wr.heap.size∧Keep (· = bb) w wr
set_option maxRecDepth 20000 in
set_option maxHeartbeats 4000000 in
theorem jud17_9 (P:Pv.R→Prop)(hP:∀r c,P r→P (Pv.by_ c r))(hPs:∀r,P r→Pv.size r≤300000)(hPx:∀r∈Pv.exL,P r)(t:Pv.T)(tb bb l u:Nat)(w:World)(hop:t.op=9)(hz:Pv.tsize t<100000)(hg:Pv.CG t)(hat:TAt H w t tb)(hT:Tab w)(hbud:BudAt w bb l u)(hbb:H bb)(hH:∀h,H h→h<w.heap.size)(hlu:l+u<274877906944)
  (hih:∀(k:Pv.T) (kb l u:Nat) (W:World),k∈t.kids→TAt H W k kb→Tab W→BudAt W bb l u→(∀h,H h→h<W.heap.size)→l+u<274877906944→Calls Tryz.prog 25 #[Ptr kb,Ptr bb] W (JudW bb (l+u) (Pv.judge k { left:=l }) W)):
  Calls Tryz.prog 25 #[Ptr tb,Ptr bb] w (JudW bb (l+u) (Pv.judge t { left:=l }) w):=by
 have hseq:=tsize_eq t;have ho:=hg.open_;obtain⟨htb,rv,a,kc,bs,hr,ha,hterm,hsl,hts⟩:=hat.open_;have hlen:=hts.length;have hbs2:bs.length≤2:=by have:=shaped_len ho.2.1;omega
 have t6:w.cell? ⟨tb,6,none⟩=some (.slice a bs.length kc):=cB (o:=6) hterm rfl;have htbl:=blk_lt hterm;have hbbl:=hH bb hbb;have htbb:¬tb=bb:=fun e=>htb (by rw[e];exact hbb)
 have HG:=Hy hg;have HAt:=Hy hat;have HT:=Hy hT;have HBud:=Hy hbud;have HH:=Hy hH;have HTm:=Hy hterm;have HSl:=Hy hsl;have HTs:=Hy hts;have HA:=Hy ha;have HL:=Hy hlen;have HZ:=Hy hz;have HIH:=Hy hih;have HOpp:=Hy hop;have HSe:=Hy hseq;have HRe:=Hy hr;have HP:=Hy hP;have HPs:=Hy hPs;have HPx:=Hy hPx;have hn0:¬0=bb:=fun e=>HT.out.bud HBud.out e.symm
 clear hg hat hT hbud hH hterm hsl hts ha hlen hz hseq hr ho hP hPs hPx hih hop;go_enter Tryz.func25,Tryz.ntmps25;go_wp2_with fail;obtain⟨r,hr⟩:∃r,w.heap.size=r:=⟨_,rfl⟩
 obtain⟨w1,hw1⟩:∃w1,w.alloc (.cells (faultC {}) 45)=w1:=⟨_,rfl⟩
 have hb1:Below w.heap.size w w1:=by rw[←hw1];exact(Below.refl _ _).alloc (Nat.le_refl _) _
 have hr1:w1.heap[r]?=some (.cells (faultC {}) 45):=by rw[←hw1];exact blk_new hr
 rw[show w.alloc (.cells #[.int .i64 0,.int .i64 0,.int .i64 0,.bool false,.string ⟨#[]⟩,.int .i64 0,.int .i64 0] 45)=w1 from hw1];rw[hr];clear hw1 t6;have hrbb:¬r=bb:=by omega
 have HB1:=Hy hb1;have HR1:=Hy hr1;clear hb1 hr1;go_loopw [25] (fun i wr=>∃(j:Nat),i = .int .i64 j∧j≤bs.length∧Hid (JudI bb (l+u) r t l w j wr)) (fun i _=>(bs.length-intOf i).toNat)
 case atStart=>exact⟨0,rfl,by omega,l,u,(by rw[List.drop_zero]),HBud.out.later HB1.out,rfl,HR1.out,Keep.of_below HB1.out⟩
 case round=>
  obtain⟨j,rfl,hj,HI⟩:=hrel;obtain⟨lj,uj,hpure,hbj,hsum,hrj,hkj⟩:=HI.out;clear HI;have HPu:=Hy hpure;have HBj:=Hy hbj;have HRj:=Hy hrj;have HKj:=Hy hkj;have hszj:=hkj.size;have hsub:∀x,x=bb→H x∨w.heap.size≤x:=fun x e=> .inl (by rw[e];exact hbb)
  have HAtj:=Hy (HAt.out.keep (hkj.wide hsub));have HTj:Hid (Tab wr):=HT.out.keep hkj hn0;clear hpure hbj hrj hkj;by_cases hjn:j<bs.length
  ·have hjt:j<t.kids.length:=by rw[←HL.out];exact hjn
   obtain⟨hjb,hatj⟩:=HTs.out.get j hjt;obtain⟨blk,off,rfl,hbl,hcl⟩:=HSl.out.at_ (by simp;omega);have hnb:¬blk=bb:=fun e=>(HA.out blk off rfl).1 (by rw[e];exact hbb)
   have hc0:=HKj.out.cell hnb (hcl j (by simpa using hjn));rw[List.getElem_map]at hc0;have hca:=HIH.out t.kids[j] bs[j] lj uj wr (List.getElem_mem hjt) (hatj.keep (HKj.out.wide hsub)) HTj.out HBj.out (fun h hh=>Nat.lt_of_lt_of_le (HH.out h hh) hszj) (by omega);have hbad:=Pv.judgeL_bad (l:=lj) hjt;have hok:=Pv.judge_ok (t:=t.kids[j]) (l:=lj);have hgood:=fun l1=>Pv.judgeL_good (l:=lj) (l1:=l1) hjt
   obtain⟨q,hq⟩:∃q,Pv.judge t.kids[j] { left:=lj }=q:=⟨_,rfl⟩
   rw[hq]at hca hbad hok;simp only[hq]at hgood;have HCa:=Hy hca;have HBa:=Hy hbad;have HOk:=Hy hok;have HGo:=Hy hgood;have hj':(j:Int)<bs.length:=by omega
   have hj40:(j:Int)<1099511627776:=by omega
   clear hca hbad hok hgood hcl hatj hq;go_wp2_with fail;refine HCa.out.mono ?_;rintro e w2 ⟨rfl,⟨u2,hb2,hu2⟩,hk2⟩;have HR2:=Hy (hk2.blk hrbb HRj.out);have HB2:=Hy hb2;have HK2:=Hy (HKj.out.trans hk2);clear hb2 hk2 HCa hc0;obtain⟨f,hf⟩:∃f,q.fault=f:=⟨_,rfl⟩
   rw[hf];go_upto_region 5 with fail
   obtain⟨fb,hfb⟩:∃n,w2.heap.size=n:=⟨_,rfl⟩
   obtain⟨w3,hw3⟩:∃w3,w2.alloc (.cells (faultC f) 45)=w3:=⟨_,rfl⟩
   have hb3:Below w2.heap.size w2 w3:=by rw[←hw3];exact(Below.refl _ _).alloc (Nat.le_refl _) _
   have hf3:w3.heap[fb]?=some (.cells (faultC f) 45):=by rw[←hw3];exact blk_new hfb
   rw[hfb,hw3];clear hw3;have HF:=Hy hf3;have HR:=Hy (later_blk hb3 HR2.out);have HB3:=Hy (HB2.out.later hb3);have HK3:=Hy (HK2.out.trans (Keep.of_below hb3));clear hb3 hf3 HR2 HB2 HK2;obtain⟨y0,y1,y2,y3,y4,y5,y6,yf⟩:=fl_cells HF.out;obtain⟨x0,x1,x2,x3,x4,x5,x6,fr⟩:=fl_cells HR.out;by_cases hfe:f.e=0
   ·have hf0:q.fault={}:=HOk.out (by rw[hf];exact hfe);have hq0:=Pv.Ck.eta hf0;have hpn:=HGo.out q.left hq0;have HI5:=Hy (show JudI bb (l+u) r t l w (j+1) w3 from⟨q.left,u2,HPu.out.trans hpn,HB3.out,hu2.trans hsum,HR.out,HK3.out⟩);rw[hfe]at y0;have y0':w3.cell? ⟨fb,0,none⟩=some (.int .i64 0):=y0;clear y0 hf0 hq0 hpn HB3 HR HF HK3 x0 x1 x2 x3 x4 x5 x6 fr y1 y2 y3 y4 y5 y6 yf;go_wp2_with fail;go_roundw
    case rel=>exact⟨j+1,by go_num,by omega,HI5.out⟩
    case measure=>simp[intOf];omega
   ·have hfi:((f.e:Int)==0)=false:=by simp;omega
    have hfd:decide ((f.e:Int)=0)=false:=decide_eq_false (by omega);have hqj:=HBa.out (by rw[hf];exact hfe);have HFin0:=Hy (Pv.judge_of_bad (HPu.out.trans hqj) (by rw[hf];exact hfe));clear hfe hqj;clear hj40 hj';go_wp2_with fail;clear y0 y1 y2 y3 y4 y5 y6 yf x0 x1 x2 x3 x4 x5 x6 fr;have hst:=fl_set2 (f) HR.out
    obtain⟨wz,hwz⟩:∃W,(((((((w3.setCell ⟨r,0,none⟩ (.int .i64 ((f).e:Int))).setCell ⟨r,1,none⟩ (.int .i64 ((f).op:Int))).setCell ⟨r,2,none⟩ (.int .i64 (f).at_)).setCell ⟨r,3,none⟩ (.bool (f).view)).setCell ⟨r,4,none⟩ (Str (f).text)).setCell ⟨r,5,none⟩ (.int .i64 (f).i)).setCell ⟨r,6,none⟩ (.int .i64 (f).j))=W:=⟨_,rfl⟩
    rw[hwz]at hst;try rw[hwz]
    clear hwz;obtain⟨x0,x1,x2,x3,x4,x5,x6,fr⟩:=fl_cells hst.1;refine bodyPost_ret (v:=FV f) ?_ rfl ?_
    ·simp[results,Tryz.results25,go_sem,x0,x1,x2,x3,x4,x5,x6]
    ·rw[HFin0.out];exact⟨by rw[hf],⟨u2,HB3.out.keep hst.2 (fun e=>hrbb e.symm),hu2.trans hsum⟩,HK3.out.trans_ hst.2 fun x e=> .inr (by omega)⟩
  ·have hjn2:j=bs.length:=by omega
   have hjn3:¬(j:Int)<bs.length:=by omega
   have hp:=HPu.out;rw[hjn2,HL.out,List.drop_length]at hp;have hp2:Pv.judgeL t.kids { left:=l }={ left:=lj }:=by rw[hp];rfl
   have HJ:=Hy (Pv.judge_of_ok hp2);clear hp hp2 HPu;have t0:wr.cell? ⟨tb,0,none⟩=some (.int .i64 (t.op:Int)):=HKj.out.cell htbb (cB (o:=0) HTm.out rfl);have t1:wr.cell? ⟨tb,1,none⟩=some (.int .i64 t.at_):=HKj.out.cell htbb (cB (o:=1) HTm.out rfl);go_wp2_with fail
   refine Eag.region (.mov 0 (.mov 1 (.mov 2 (.mov 3 (.mov 4 (.mov 5 (.mov 6 (.mov 7 (.mov 8 (.anc 9 (.anc 10 Eag.Sch.fin))))))))))) [10] (by kernel_rfl) (by kernel_rfl) (fun K ops hops hK => ?_);iterate 9
    refine Eag.mov hops rfl rfl (fun w' hb => ?_) ?_
    ·have q0:=later hb t0;have q1:=later hb t1;clear hb;go_simp
    go_simp
   refine Eag.anc hops rfl rfl ?_;go_wp2_with fail;refine⟨show Below wr.heap.size wr.drew (wr.drew.alloc (.cells (faultC {}) 45)) from(Below.refl wr.heap.size wr.drew).alloc (Nat.le_refl _) _,?_⟩;refine Eag.anc hops rfl rfl ?_;go_wp2_with fail;refine Eag.fin (hK _ _ ?_);clear hK hops;go_simp;go_upto_region 9 with fail
   obtain⟨gb,hgb⟩:∃n,wr.heap.size=n:=⟨_,rfl⟩
   obtain⟨wA,hwA⟩:∃W,(wr.alloc (.cells (faultC { op:=t.op,at_:=t.at_ }) 45)).drew=W:=⟨_,rfl⟩
   have hbA:Below wr.heap.size wr wA:=by rw[←hwA];exact((Below.refl _ _).alloc (Nat.le_refl _) _).drew
   have hgA:wA.heap[gb]?=some (.cells (faultC { op:=t.op,at_:=t.at_ }) 45):=by rw[←hwA];exact blk_new hgb
   rw[show(wr.alloc (.cells #[.int .i64 0,.int .i64 (t.op:Int),.int .i64 t.at_,.bool false,.string ⟨#[]⟩,.int .i64 0,.int .i64 0] 45)).drew=wA from hwA];rw[hgb];clear hwA;have HBd:=Hy hgA;have HR:=Hy (later_blk hbA HRj.out);have HB:=Hy (HBj.out.later hbA);have HK:=Hy (HKj.out.trans (Keep.of_below hbA));have HAA:=Hy (HAtj.out.later hbA);have HTA:=Hy (HTj.out.later hbA);have hszA:=hbA.size
   have hgbr:¬gb=r:=by have:=blk_lt HRj.out;omega
   have hgbb:¬gb=bb:=by omega
   have s0:=later hbA t0;have s3:wA.cell? ⟨tb,3,none⟩=some rv:=later hbA (HKj.out.cell htbb (cB (o:=3) HTm.out rfl));have s4:wA.cell? ⟨tb,4,none⟩=some (Str t.text):=later hbA (HKj.out.cell htbb (cB (o:=4) HTm.out rfl));have hHA:∀h,H h→h<wA.heap.size:=fun h hh=>by have:=HH.out h hh;omega
   have HHA:=Hy hHA;have nft:∀x,¬(fun _:Nat=>False) x:=fun _ h=>h
   have nt:=nft tb;have ng:=nft gb;clear hbA hgA HRj HBj HKj HAtj HTj t0 t1 hHA;have e:=HOpp.out;rw[e]at s0;obtain⟨x,hkx,hgx⟩:=HG.out.one e;have hq:Pv.judge t { left:=l }=(Pv.Ck.both (({ left:=lj }:Pv.Ck).iterates t false (Pv.typesOf x).1) (·.iterates t true (Pv.typesOf x).2)).1:=by rw[HJ.out,hkx];unfold Pv.conds;rw[if_neg (by omega),if_neg (by omega),if_pos e];rfl
   have HQ:=Hy hq;have hzx:Pv.tsize x<100000:=by have h1:=HSe.out;have h2:=HZ.out;rw[hkx]at h1;simp only[Pv.tsizes]at h1;omega
   have gx:=Pv.types_good _ x (Nat.le_refl _) hgx;have HGx:=Hy gx;have HKx:=Hy hkx;have Hgx:=Hy hgx;clear hq e hkx gx hgx;refine Eaq.region (Keep fun _=>False) (.mov 0 (.mov 1 (.mov 2 (.mov 3 (.mov 4 (.mov 5 (.mov 6 (.mov 7 (.mov 8 (.mov 9 (.mov 10 (.mov 11 (.mov 12 (.mov 13 (.anc 14 (.mov 15 (.mov 16 Eag.Sch.fin))))))))))))))))) [] [] (by kernel_rfl) (by kernel_rfl) (fun K ops hops hK => ?_)
   iterate 6
    first
     | (refine Eaq.mov hops rfl rfl rfl (fun w' hb => ?_) ?_
        ·have q0:=Keep.cell hb nt s0;clear hb;go_simp)
     | (refine Eaq.movA hops rfl rfl (fun w' => ?_) ?_
        ·go_simp)
    go_simp
   iterate 10
    first
     | refine Eaq.movS hops rfl rfl ?_
     | refine Eaq.ancS hops rfl rfl ?_
    go_simp
   iterate 1
    first
     | (refine Eaq.mov hops rfl rfl rfl (fun w' hb => ?_) ?_
        ·clear hb;go_simp)
     | (refine Eaq.movA hops rfl rfl (fun w' => ?_) ?_
        ·go_simp)
    go_simp
   refine Eaq.fin (hK _ _ ?_);clear hK hops;go_simp;obtain⟨wB,hwB⟩:∃W,wA.drew=W:=⟨_,rfl⟩
   have hbB:Below wA.heap.size wA wB:=by rw[←hwB];exact(Below.refl _ _).drew
   rw[hwB];clear hwB;replace s0:=later hbB s0;replace s3:=later hbB s3;replace s4:=later hbB s4;replace HR:=Hy (later_blk hbB HR.out);replace HBd:=Hy (later_blk hbB HBd.out);replace HB:=Hy (HB.out.later hbB);replace HK:=Hy (HK.out.trans (Keep.of_below hbB));replace HAA:=Hy (HAA.out.later hbB);replace HTA:=Hy (HTA.out.later hbB);have hszB:=hbB.size;clear hbB
   obtain⟨_,rvA,aA,kcA,bsA,_,haA,htermA,hslA,htsA⟩:=HAA.out.open_;rw[HKx.out]at htsA;obtain⟨h0,a0⟩:=htsA.get 0 (by simp);obtain⟨ka,off,rfl,c0⟩:=hslA.cell 0 (by simpa using h0);rw[List.getElem_map]at c0;replace c0:wB.cell? ⟨ka,off,none⟩=some (Ptr bsA[0]):=c0;have s6:wB.cell? ⟨tb,6,none⟩=some (.slice (some ⟨ka,off,none⟩) bsA.length kcA):=cB (o:=6) htermA rfl;have hn':(0:Int)<bsA.length:=by omega
   have hHB:∀h,H h→h<wB.heap.size:=fun h hh=>by have:=HHA.out h hh;omega
   have HTy:=Hy (types17_any _ H x bsA[0] wB (Nat.le_refl _) hzx Hgx.out a0 hHB);have HHB:=Hy hHB;clear htermA hslA htsA haA a0 hHB s3 s4;go_wp2_with fail;refine HTy.out.mono ?_;rintro e wC ⟨x1,x2,rfl,hx1,hx2,hbC⟩;replace s0:=later hbC s0;replace HR:=Hy (later_blk hbC HR.out);replace HBd:=Hy (later_blk hbC HBd.out);replace HB:=Hy (HB.out.later hbC);replace HK:=Hy (HK.out.trans (Keep.of_below hbC))
   replace HTA:=Hy (HTA.out.later hbC);have hszC:=hbC.size;have HX1:=Hy hx1;have HX2:=Hy hx2;clear hbC hx1 hx2 HTy c0 s6;go_upto_region 17 with fail
   go_wp2_with fail;obtain⟨sb,hsb⟩:∃n,wC.heap.size=n:=⟨_,rfl⟩
   obtain⟨wD,hwD⟩:∃W,wC.alloc (.cells #[Ptr x1,Ptr x2] 51)=W:=⟨_,rfl⟩
   have hbD:Below wC.heap.size wC wD:=by rw[←hwD];exact(Below.refl _ _).alloc (Nat.le_refl _) _
   have hxD:wD.heap[sb]?=some (.cells #[Ptr x1,Ptr x2] 51):=by rw[←hwD];exact blk_new hsb
   rw[hsb,hwD];clear hwD;have HSb:=Hy hxD;replace HX1:=Hy (HX1.out.later hbD);replace HX2:=Hy (HX2.out.later hbD);replace HR:=Hy (later_blk hbD HR.out);replace HBd:=Hy (later_blk hbD HBd.out);replace HB:=Hy (HB.out.later hbD);replace HK:=Hy (HK.out.trans (Keep.of_below hbD));replace HTA:=Hy (HTA.out.later hbD);have hszD:=hbD.size;have hsbb:¬sb=bb:=by omega
   clear hbD hxD s0;go_loopw [102] (fun i wr=>∃(j:Nat),i = .int .i64 j∧j≤2∧Hid (JI9 H bb (l+u) r gb sb x1 x2 t x lj w wD j wr)) (fun i _=>(2-intOf i).toNat)
   case atStart=>exact⟨0,rfl,by omega,lj,uj,rfl,HB.out,hsum,HR.out,HBd.out,HSb.out,HX1.out,HX2.out,HTA.out,Nat.le_refl _,HK.out⟩
   case round=>
    obtain⟨j,rfl,hj,HI⟩:=hrel;clear HR HBd HB HK HSb HX1 HX2 HTA;obtain⟨l1,u1,hpure,hb,hsum1,hr1,hbd,hsb1,hx1,hx2,hT1,hszr,hk1⟩:=HI.out;clear HI;have HPu:=Hy hpure;have HR:=Hy hr1;have HBd:=Hy hbd;have HB:=Hy hb;have HK:=Hy hk1;have HX1:=Hy hx1;have HX2:=Hy hx2;have HTA:=Hy hT1;have z0:wr.cell? ⟨sb,0,none⟩=some (Ptr x1):=cB (o:=0) hsb1 rfl;have z1:wr.cell? ⟨sb,1,none⟩=some (Ptr x2):=cB (o:=1) hsb1 rfl
    have HSb:=Hy hsb1;clear hpure hr1 hbd hb hk1 hx1 hx2 hT1 hsb1;have hj3:j=0∨j=1∨j=2:=by omega
    rcases hj3 with rfl|rfl|rfl
    ·have hst9:=jst_step t (Pv.typesOf x) 0 l1 (by omega)
     have hca:=two17_iter (badF t) false (Pv.ambigIter (Pv.typesOf x).1 l1).2 x1 bb (Pv.ambigIter (Pv.typesOf x).1 l1).1 (u1+(l1-(Pv.ambigIter (Pv.typesOf x).1 l1).1)) wr (by omega) (fun W hW=>iter_all (H:=H) (Pv.typesOf x).1 x1 bb l1 u1 W (HTA.out.later hW) (HX1.out.later hW) (HB.out.later hW) hbb (fun h hh=>by have:=HHB.out h hh;have:=hW.size;omega) (by have:=HGx.out.s1;omega) (by omega) (fun _ A B l2 h1 h2=>(few6_of HGx.out.f1).both (few6_of (Pv.allP_many HGx.out.f1)) l1 A B l2 h1 h2))
     have hle:=Pv.ambigIter_le (Pv.typesOf x).1 l1;have hst10:jst t (Pv.typesOf x) 0 l1=if(twoF (badF t) 21 false (Pv.ambigIter (Pv.typesOf x).1 l1).2).e=0 then jst t (Pv.typesOf x) 1 (Pv.ambigIter (Pv.typesOf x).1 l1).1 else { left:=(Pv.ambigIter (Pv.typesOf x).1 l1).1,fault:=twoF (badF t) 21 false (Pv.ambigIter (Pv.typesOf x).1 l1).2 }:=hst9
     clear hst9;obtain⟨f,hf⟩:∃f,twoF (badF t) 21 false (Pv.ambigIter (Pv.typesOf x).1 l1).2=f:=⟨_,rfl⟩
     obtain⟨l2,hl2⟩:∃l2,(Pv.ambigIter (Pv.typesOf x).1 l1).1=l2:=⟨_,rfl⟩
     rw[hf,hl2]at hca hst10;rw[hl2]at hle;have HCa:=Hy hca;have HSt:=Hy hst10;clear hca hst10 hf hl2;obtain⟨y0,y1,y2,y3,y4,y5,y6,yf⟩:=fl_cells (f:=badF t) HBd.out;go_wp2_with fail;refine HCa.out.mono ?_;rintro e w2 ⟨rfl,hb2,hk2⟩;clear y0 y1 y2 y3 y4 y5 y6 yf z0 z1 HCa;replace HR:=Hy (hk2.blk hrbb HR.out);replace HBd:=Hy (hk2.blk hgbb HBd.out);replace HSb:=Hy (hk2.blk hsbb HSb.out)
     replace HK:=Hy (HK.out.trans hk2);replace HB:=Hy hb2;have hkH:Keep H wr w2:=hk2.wide fun x e=> .inl (by rw[e];exact hbb)
     replace HX1:=Hy (HX1.out.keep hkH);replace HX2:=Hy (HX2.out.keep hkH);replace HTA:=Hy (HTA.out.keep hk2 hn0);have hsz2:=hk2.size;clear hb2 hk2 hkH;go_upto_region 21 with fail
     obtain⟨fb,hfb⟩:∃n,w2.heap.size=n:=⟨_,rfl⟩
     obtain⟨w3,hw3⟩:∃w3,w2.alloc (.cells (faultC f) 45)=w3:=⟨_,rfl⟩
     have hb3:Below w2.heap.size w2 w3:=by rw[←hw3];exact(Below.refl _ _).alloc (Nat.le_refl _) _
     have hf3:w3.heap[fb]?=some (.cells (faultC f) 45):=by rw[←hw3];exact blk_new hfb
     rw[hfb,hw3];clear hw3;have HF:=Hy hf3;replace HR:=Hy (later_blk hb3 HR.out);replace HBd:=Hy (later_blk hb3 HBd.out);replace HSb:=Hy (later_blk hb3 HSb.out);replace HB:=Hy (HB.out.later hb3);replace HK:=Hy (HK.out.trans (Keep.of_below hb3));replace HX1:=Hy (HX1.out.later hb3);replace HX2:=Hy (HX2.out.later hb3);replace HTA:=Hy (HTA.out.later hb3);have hsz3:=hb3.size;clear hb3 hf3
     have hsm:l2+(u1+(l1-l2))=l+u:=by omega
     obtain⟨y0,y1,y2,y3,y4,y5,y6,yf⟩:=fl_cells HF.out;by_cases hfe:f.e=0
     ·have hs2:=HSt.out;rw[if_pos hfe]at hs2;have HI5:=Hy (show JI9 H bb (l+u) r gb sb x1 x2 t x lj w wD 1 w3 from⟨l2,_,HPu.out.trans hs2,HB.out,hsm,HR.out,HBd.out,HSb.out,HX1.out,HX2.out,HTA.out,by omega,HK.out⟩);rw[hfe]at y0;have y0':w3.cell? ⟨fb,0,none⟩=some (.int .i64 0):=y0;clear y0 hs2 HR HBd HB HK HX1 HX2 HTA HSb HF y1 y2 y3 y4 y5 y6 yf HSt HPu;go_wp2_with fail;go_roundw
      case rel=>exact⟨1,by first|rfl|go_num,by omega,HI5.out⟩
      case measure=>simp[intOf]
     ·have hfi:((f.e:Int)==0)=false:=by simp;omega
      have hfd:decide ((f.e:Int)=0)=false:=decide_eq_false (by omega);have hs2:=HSt.out;rw[if_neg hfe]at hs2;have hq3:Pv.judge t { left:=l }={ left:=l2,fault:=f }:=HQ.out.trans (HPu.out.trans hs2);replace HQ:=Hy hq3;clear hs2 hq3 HSt HPu;obtain⟨x0,x1,x2,x3,x4,x5,x6,fr⟩:=fl_cells (f:={}) HR.out;go_wp2_with fail;clear y0 y1 y2 y3 y4 y5 y6 yf;clear x0 x1 x2 x3 x4 x5 x6 fr;have hst:=fl_set2 (f) HR.out
      obtain⟨wz,hwz⟩:∃W,(((((((w3.setCell ⟨r,0,none⟩ (.int .i64 ((f).e:Int))).setCell ⟨r,1,none⟩ (.int .i64 ((f).op:Int))).setCell ⟨r,2,none⟩ (.int .i64 (f).at_)).setCell ⟨r,3,none⟩ (.bool (f).view)).setCell ⟨r,4,none⟩ (Str (f).text)).setCell ⟨r,5,none⟩ (.int .i64 (f).i)).setCell ⟨r,6,none⟩ (.int .i64 (f).j))=W:=⟨_,rfl⟩
      rw[hwz]at hst;try rw[hwz]
      clear hwz;obtain⟨x0,x1,x2,x3,x4,x5,x6,fr⟩:=fl_cells hst.1;refine bodyPost_ret (v:=FV (f)) ?_ rfl ?_
      ·simp[results,Tryz.results25,go_sem,x0,x1,x2,x3,x4,x5,x6]
      ·rw[HQ.out];exact⟨rfl,⟨_,HB.out.keep hst.2 (fun e=>hrbb e.symm),by first|omega|exact hsm⟩,HK.out.trans_ hst.2 fun x e=> .inr (by omega)⟩
    ·have hst9:=jst_step t (Pv.typesOf x) 1 l1 (by omega)
     have hca:=two17_iter (badF t) true (Pv.ambigIter (Pv.typesOf x).2 l1).2 x2 bb (Pv.ambigIter (Pv.typesOf x).2 l1).1 (u1+(l1-(Pv.ambigIter (Pv.typesOf x).2 l1).1)) wr (by omega) (fun W hW=>iter_all (H:=H) (Pv.typesOf x).2 x2 bb l1 u1 W (HTA.out.later hW) (HX2.out.later hW) (HB.out.later hW) hbb (fun h hh=>by have:=HHB.out h hh;have:=hW.size;omega) (by have:=HGx.out.s2;omega) (by omega) (fun _ A B l2 h1 h2=>(few6_of HGx.out.f2).both (few6_of (Pv.allP_many HGx.out.f2)) l1 A B l2 h1 h2))
     have hle:=Pv.ambigIter_le (Pv.typesOf x).2 l1;have hst10:jst t (Pv.typesOf x) 1 l1=if(twoF (badF t) 21 true (Pv.ambigIter (Pv.typesOf x).2 l1).2).e=0 then jst t (Pv.typesOf x) 2 (Pv.ambigIter (Pv.typesOf x).2 l1).1 else { left:=(Pv.ambigIter (Pv.typesOf x).2 l1).1,fault:=twoF (badF t) 21 true (Pv.ambigIter (Pv.typesOf x).2 l1).2 }:=hst9
     clear hst9;obtain⟨f,hf⟩:∃f,twoF (badF t) 21 true (Pv.ambigIter (Pv.typesOf x).2 l1).2=f:=⟨_,rfl⟩
     obtain⟨l2,hl2⟩:∃l2,(Pv.ambigIter (Pv.typesOf x).2 l1).1=l2:=⟨_,rfl⟩
     rw[hf,hl2]at hca hst10;rw[hl2]at hle;have HCa:=Hy hca;have HSt:=Hy hst10;clear hca hst10 hf hl2;obtain⟨y0,y1,y2,y3,y4,y5,y6,yf⟩:=fl_cells (f:=badF t) HBd.out;go_wp2_with fail;refine HCa.out.mono ?_;rintro e w2 ⟨rfl,hb2,hk2⟩;clear y0 y1 y2 y3 y4 y5 y6 yf z0 z1 HCa;replace HR:=Hy (hk2.blk hrbb HR.out);replace HBd:=Hy (hk2.blk hgbb HBd.out);replace HSb:=Hy (hk2.blk hsbb HSb.out)
     replace HK:=Hy (HK.out.trans hk2);replace HB:=Hy hb2;have hkH:Keep H wr w2:=hk2.wide fun x e=> .inl (by rw[e];exact hbb)
     replace HX1:=Hy (HX1.out.keep hkH);replace HX2:=Hy (HX2.out.keep hkH);replace HTA:=Hy (HTA.out.keep hk2 hn0);have hsz2:=hk2.size;clear hb2 hk2 hkH;go_upto_region 21 with fail
     obtain⟨fb,hfb⟩:∃n,w2.heap.size=n:=⟨_,rfl⟩
     obtain⟨w3,hw3⟩:∃w3,w2.alloc (.cells (faultC f) 45)=w3:=⟨_,rfl⟩
     have hb3:Below w2.heap.size w2 w3:=by rw[←hw3];exact(Below.refl _ _).alloc (Nat.le_refl _) _
     have hf3:w3.heap[fb]?=some (.cells (faultC f) 45):=by rw[←hw3];exact blk_new hfb
     rw[hfb,hw3];clear hw3;have HF:=Hy hf3;replace HR:=Hy (later_blk hb3 HR.out);replace HBd:=Hy (later_blk hb3 HBd.out);replace HSb:=Hy (later_blk hb3 HSb.out);replace HB:=Hy (HB.out.later hb3);replace HK:=Hy (HK.out.trans (Keep.of_below hb3));replace HX1:=Hy (HX1.out.later hb3);replace HX2:=Hy (HX2.out.later hb3);replace HTA:=Hy (HTA.out.later hb3);have hsz3:=hb3.size;clear hb3 hf3
     have hsm:l2+(u1+(l1-l2))=l+u:=by omega
     obtain⟨y0,y1,y2,y3,y4,y5,y6,yf⟩:=fl_cells HF.out;by_cases hfe:f.e=0
     ·have hs2:=HSt.out;rw[if_pos hfe]at hs2;have HI5:=Hy (show JI9 H bb (l+u) r gb sb x1 x2 t x lj w wD 2 w3 from⟨l2,_,HPu.out.trans hs2,HB.out,hsm,HR.out,HBd.out,HSb.out,HX1.out,HX2.out,HTA.out,by omega,HK.out⟩);rw[hfe]at y0;have y0':w3.cell? ⟨fb,0,none⟩=some (.int .i64 0):=y0;clear y0 hs2 HR HBd HB HK HX1 HX2 HTA HSb HF y1 y2 y3 y4 y5 y6 yf HSt HPu;go_wp2_with fail;go_roundw
      case rel=>exact⟨2,by first|rfl|go_num,by omega,HI5.out⟩
      case measure=>simp[intOf]
     ·have hfi:((f.e:Int)==0)=false:=by simp;omega
      have hfd:decide ((f.e:Int)=0)=false:=decide_eq_false (by omega);have hs2:=HSt.out;rw[if_neg hfe]at hs2;have hq3:Pv.judge t { left:=l }={ left:=l2,fault:=f }:=HQ.out.trans (HPu.out.trans hs2);replace HQ:=Hy hq3;clear hs2 hq3 HSt HPu;obtain⟨x0,x1,x2,x3,x4,x5,x6,fr⟩:=fl_cells (f:={}) HR.out;go_wp2_with fail;clear y0 y1 y2 y3 y4 y5 y6 yf;clear x0 x1 x2 x3 x4 x5 x6 fr;have hst:=fl_set2 (f) HR.out
      obtain⟨wz,hwz⟩:∃W,(((((((w3.setCell ⟨r,0,none⟩ (.int .i64 ((f).e:Int))).setCell ⟨r,1,none⟩ (.int .i64 ((f).op:Int))).setCell ⟨r,2,none⟩ (.int .i64 (f).at_)).setCell ⟨r,3,none⟩ (.bool (f).view)).setCell ⟨r,4,none⟩ (Str (f).text)).setCell ⟨r,5,none⟩ (.int .i64 (f).i)).setCell ⟨r,6,none⟩ (.int .i64 (f).j))=W:=⟨_,rfl⟩
      rw[hwz]at hst;try rw[hwz]
      clear hwz;obtain⟨x0,x1,x2,x3,x4,x5,x6,fr⟩:=fl_cells hst.1;refine bodyPost_ret (v:=FV (f)) ?_ rfl ?_
      ·simp[results,Tryz.results25,go_sem,x0,x1,x2,x3,x4,x5,x6]
      ·rw[HQ.out];exact⟨rfl,⟨_,HB.out.keep hst.2 (fun e=>hrbb e.symm),by first|omega|exact hsm⟩,HK.out.trans_ hst.2 fun x e=> .inr (by omega)⟩
    ·have hq3:Pv.judge t { left:=l }={ left:=l1 }:=HQ.out.trans HPu.out;replace HQ:=Hy hq3;clear hq3;obtain⟨x0,x1,x2,x3,x4,x5,x6,fr⟩:=fl_cells (f:={}) HR.out;go_wp2_with fail;clear x0 x1 x2 x3 x4 x5 x6 fr;have hst:=fl_set HR.out
     obtain⟨wz,hwz⟩:∃W,(((((((wr.setCell ⟨r,0,none⟩ (.int .i64 0)).setCell ⟨r,1,none⟩ (.int .i64 0)).setCell ⟨r,2,none⟩ (.int .i64 0)).setCell ⟨r,3,none⟩ (.bool false)).setCell ⟨r,4,none⟩ (Str [])).setCell ⟨r,5,none⟩ (.int .i64 0)).setCell ⟨r,6,none⟩ (.int .i64 0))=W:=⟨_,rfl⟩
     rw[hwz]at hst;rw[hwz];clear hwz;obtain⟨x0,x1,x2,x3,x4,x5,x6,fr⟩:=fl_cells (f:={}) hst.1;refine bodyPost_ret (v:=FV {}) ?_ rfl ?_
     ·simp[results,Tryz.results25,go_sem,x0,x1,x2,x3,x4,x5,x6]
     ·rw[HQ.out];exact⟨rfl,⟨_,HB.out.keep hst.2 (fun e=>hrbb e.symm),by first|omega|exact hsm⟩,HK.out.trans_ hst.2 fun x e=> .inr (by omega)⟩
end Go.Proofs.YtinpjfnnfkjbmaaGreatDoor
namespace Go.Proofs.YtinpjfnnfkjbmaaGreatDoor
open Go.RowKit Go.Maps
theorem judge17_any (P:Pv.R→Prop)(hP:∀r c,P r→P (Pv.by_ c r))(hPs:∀r,P r→Pv.size r≤300000)(hPx:∀r∈Pv.exL,P r):∀(m:Nat) (H:Nat→Prop) (t:Pv.T) (tb bb l u:Nat) (w:World),Pv.tsize t≤m→Pv.tsize t<100000→Pv.CG t→TAt H w t tb→Tab w→BudAt w bb l u→H bb→(∀h,H h→h<w.heap.size)→l+u<274877906944 →
  Calls Tryz.prog 25 #[Ptr tb,Ptr bb] w (JudW bb (l+u) (Pv.judge t { left:=l }) w)
 | 0,_,t,_,_,_,_,_,hm,_,_,_,_,_,_,_,_=>by have:=tsize_eq t;omega
 | m+1,H,t,tb,bb,l,u,w,hm,hz,hg,hat,hT,hbud,hbb,hH,hlu=>by
   have hseq:=tsize_eq t;have hih:∀(k:Pv.T) (kb l u:Nat) (W:World),k∈t.kids→TAt H W k kb→Tab W→BudAt W bb l u→(∀h,H h→h<W.heap.size)→l+u<274877906944→Calls Tryz.prog 25 #[Ptr kb,Ptr bb] W (JudW bb (l+u) (Pv.judge k { left:=l }) W):=fun k kb l u W hk h1 h2 h3 h4 h5=>by
    obtain⟨i,hi,rfl⟩:=List.getElem_of_mem hk;have:=Pv.tsizes_get hi;exact judge17_any P hP hPs hPx m H _ kb bb l u W (by omega) (by omega) (hg.open_.2.2.2.2.2.2.mem _ hk) h1 h2 h3 hbb h4 h5
   rcases hg.op5 with e|e|e|e|e
   ·exact jud17_16 P hP hPs hPx t tb bb l u w e hz hg hat hT hbud hbb hH hlu hih
   ·exact jud17_17 P hP hPs hPx t tb bb l u w e hz hg hat hT hbud hbb hH hlu hih
   ·exact jud17_7 P hP hPs hPx t tb bb l u w e hz hg hat hT hbud hbb hH hlu hih
   ·exact jud17_8 P hP hPs hPx t tb bb l u w e hz hg hat hT hbud hbb hH hlu hih
   ·exact jud17_9 P hP hPs hPx t tb bb l u w e hz hg hat hT hbud hbb hH hlu hih
end Go.Proofs.YtinpjfnnfkjbmaaGreatDoor
