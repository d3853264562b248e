/- What is wrong with a canonizer's term, by the page: Judge. -/
import Derived.Test.YtinpjfnnfkjbmaaGreatDoorKm05
import Derived.Test.YtinpjfnnfkjbmaaGreatDoorKm39
import Derived.Test.YtinpjfnnfkjbmaaGreatDoorKm40
import Derived.Test.YtinpjfnnfkjbmaaGreatDoorKm43
import Derived.Test.YtinpjfnnfkjbmaaGreatDoorKm25
set_option linter.all false
namespace Pv
mutual
theorem judge_ok:∀ {t:T} {l:Nat},(judge t { left:=l }).fault.e=0→(judge t { left:=l }).fault={}
 | .mk op a n r tx bk ks,l,h=>by
   rw[judge_eq]at h ⊢;change (judgeE _ (nthR (typesL ks) 0) (nthR (typesL ks) 1) (judgeL ks { left:=l })).fault.e=0 at h;change (judgeE _ (nthR (typesL ks) 0) (nthR (typesL ks) 1) (judgeL ks { left:=l })).fault={};have hl:=judgeL_ok (ts:=ks) (l:=l);unfold judgeE at h ⊢;split at h
   ·rename_i e;rw[if_pos e];have e2:(judgeL ks { left:=l }).fault={}:=hl (by simpa [Ck.ok] using e);rw[Ck.eta e2]at h ⊢;cases hb:(conds (.mk op a n r tx bk ks) (nthR (typesL ks) 0) (nthR (typesL ks) 1) { left:=(judgeL ks { left:=l }).left }).2 with
    | true=>exact conds_ok hb
    | false=>exact absurd h (conds_bad hb)
   ·rename_i e;rw[if_neg e];exact hl h
theorem judgeL_ok:∀ {ts:List T} {l:Nat},(judgeL ts { left:=l }).fault.e=0→(judgeL ts { left:=l }).fault={}
 | [],l,_=>rfl
 | t::ts,l,h=>by
   have ht:=judge_ok (t:=t) (l:=l);unfold judgeL at h ⊢;simp only at h ⊢;split at h
   ·rename_i e;rw[if_pos e];have e2:=ht (by simpa [Ck.ok] using e);rw[Ck.eta e2]at h ⊢;exact judgeL_ok h
   ·rename_i e;rw[if_neg e];exact ht h
end
theorem judgeL_bad {ts:List T}{j l:Nat}(hj:j<ts.length)(h:(judge ts[j] { left:=l }).fault.e≠0):judgeL (ts.drop j) { left:=l }=judge ts[j] { left:=l }:=by rw[List.drop_eq_getElem_cons hj,judgeL];rw[if_neg (by simpa [Ck.ok] using h)]
theorem judgeL_good {ts:List T}{j l l1:Nat}(hj:j<ts.length)(h:judge ts[j] { left:=l }={ left:=l1 }):judgeL (ts.drop j) { left:=l }=judgeL (ts.drop (j+1)) { left:=l1 }:=by rw[List.drop_eq_getElem_cons hj,judgeL,h];rfl
theorem judge_of_bad {t:T}{c d:Ck}(h:judgeL t.kids c=d)(hd:d.fault.e≠0):judge t c=d:=by rw[judge_eq,h];unfold judgeE;rw[if_neg (by simpa [Ck.ok] using hd)]
theorem judge_of_ok {t:T}{c:Ck}{l:Nat}(h:judgeL t.kids c={ left:=l }):judge t c=(conds t (nthR (typesL t.kids) 0) (nthR (typesL t.kids) 1) { left:=l }).1:=by rw[judge_eq,h];rfl
end Pv
namespace Go.Proofs.YtinpjfnnfkjbmaaGreatDoor
open Go.RowKit Go.Maps
variable {H:Nat→Prop}
abbrev badF (t:Pv.T):Pv.Fault:={ op:=t.op,at_:=t.at_ }
theorem two_fst {e l:Nat}{t:Pv.T}{v:Bool}{r:Nat × Option (Option Pv.Two)}:(({ left:=l }:Pv.Ck).two e t v r).1={ left:=r.1,fault:=twoF (badF t) e v r.2 }:=by obtain⟨l',_|_|w⟩:=r<;>rfl
theorem two_snd {e l:Nat}(he:e≠0){t:Pv.T}{v:Bool}{r:Nat × Option (Option Pv.Two)}:(({ left:=l }:Pv.Ck).two e t v r).2=decide ((twoF (badF t) e v r.2).e=0):=by
 obtain⟨l',_|_|w⟩:=r
 ·rfl
 ·rfl
 ·exact(decide_eq_false he).symm
theorem twoF_zero {b:Pv.Fault}{e:Nat}(he:e≠0){v:Bool}{r:Option (Option Pv.Two)}(h:(twoF b e v r).e=0):twoF b e v r={}:=by
 match r with
 | none=>cases h
 | some none=>rfl
 | some (some w)=>exact absurd h he
theorem both_fst {e l:Nat}(he:e≠0){t:Pv.T}{v:Bool}{r:Nat × Option (Option Pv.Two)}{g:Pv.Ck→Pv.Ck × Bool}:(Pv.Ck.both (({ left:=l }:Pv.Ck).two e t v r) g).1=if(twoF (badF t) e v r.2).e=0 then(g { left:=r.1 }).1 else { left:=r.1,fault:=twoF (badF t) e v r.2 }:=by
 unfold Pv.Ck.both;rw[two_snd he,two_fst];by_cases h:(twoF (badF t) e v r.2).e=0
 ·rw[decide_eq_true h,if_pos rfl,if_pos h,twoF_zero he h]
 ·rw[decide_eq_false h,if_neg (by decide),if_neg h];exact two_fst
theorem told_fst {e l er:Nat}{t:Pv.T}{v ok:Bool}{s:List UInt8}{r:Nat × Option (Option (List UInt8))}(h:witV r.2 = .tuple #[Str s,.bool ok,.int .i64 (er:Int)]):(({ left:=l }:Pv.Ck).told e t v r).1={ left:=r.1,fault:=oneF (badF t) e v s ok er }:=by
 obtain⟨l',_|_|w⟩:=r
 ·have h':Value.tuple #[Str [],.bool false,.int .i64 5] = .tuple #[Str s,.bool ok,.int .i64 (er:Int)]:=h;simp only[Value.tuple.injEq,Array.mk.injEq,List.cons.injEq,Value.int.injEq,Value.bool.injEq,and_true,true_and]at h';obtain⟨_,h2,h3⟩:=h';have h4:er=5:=by omega
  subst h4;rfl
 ·have h':Value.tuple #[Str [],.bool false,.int .i64 0] = .tuple #[Str s,.bool ok,.int .i64 (er:Int)]:=h;simp only[Value.tuple.injEq,Array.mk.injEq,List.cons.injEq,Value.int.injEq,Value.bool.injEq,and_true,true_and]at h';obtain⟨_,h2,h3⟩:=h';have h4:er=0:=by omega
  subst h4 h2;rfl
 ·have h':Value.tuple #[Str w,.bool true,.int .i64 0] = .tuple #[Str s,.bool ok,.int .i64 (er:Int)]:=h;simp only[Value.tuple.injEq,Array.mk.injEq,List.cons.injEq,Value.int.injEq,Value.bool.injEq,and_true,true_and,Value.string.injEq,ByteArray.mk.injEq]at h';obtain⟨h1,h2,h3⟩:=h';have h4:er=0:=by omega
  have h5:w=s:=by simpa using h1
  subst h4 h2 h5;rfl
def JudW (bb s:Nat)(q:Pv.Ck)(w:World)(e:Ending)(w':World):Prop:=e = .returned (FV q.fault)∧(∃u',BudAt w' bb q.left u'∧q.left+u'=s)∧Keep (· = bb) w w'
def JudI (bb s r:Nat)(t:Pv.T)(l:Nat)(w:World)(j:Nat)(wr:World):Prop:=∃(lj uj:Nat),Pv.judgeL t.kids { left:=l }=Pv.judgeL (t.kids.drop j) { left:=lj }∧BudAt wr bb lj uj∧lj+uj=s∧wr.heap[r]?=some (.cells (faultC {}) 45)∧Keep (· = bb) w wr
set_option maxRecDepth 20000 in
set_option maxHeartbeats 4000000 in
theorem jud17_16 (P:Pv.R→Prop)(hP:∀r c,P r→P (Pv.by_ c r))(hPs:∀r,P r→Pv.size r≤300000)(hPx:∀r∈Pv.exL,P r)(t:Pv.T)(tb bb l u:Nat)(w:World)(hop:t.op=16)(hz:Pv.tsize t<100000)(hg:Pv.CG t)(hat:TAt H w t tb)(hT:Tab w)(hbud:BudAt w bb l u)(hbb:H bb)(hH:∀h,H h→h<w.heap.size)(hlu:l+u<274877906944)
  (hih:∀(k:Pv.T) (kb l u:Nat) (W:World),k∈t.kids→TAt H W k kb→Tab W→BudAt W bb l u→(∀h,H h→h<W.heap.size)→l+u<274877906944→Calls Tryz.prog 25 #[Ptr kb,Ptr bb] W (JudW bb (l+u) (Pv.judge k { left:=l }) W)):
  Calls Tryz.prog 25 #[Ptr tb,Ptr bb] w (JudW bb (l+u) (Pv.judge t { left:=l }) w):=by
 have hseq:=tsize_eq t;have ho:=hg.open_;obtain⟨htb,rv,a,kc,bs,hr,ha,hterm,hsl,hts⟩:=hat.open_;have hlen:=hts.length;have hbs2:bs.length≤2:=by have:=shaped_len ho.2.1;omega
 have t6:w.cell? ⟨tb,6,none⟩=some (.slice a bs.length kc):=cB (o:=6) hterm rfl;have htbl:=blk_lt hterm;have hbbl:=hH bb hbb;have htbb:¬tb=bb:=fun e=>htb (by rw[e];exact hbb)
 have HG:=Hy hg;have HAt:=Hy hat;have HT:=Hy hT;have HBud:=Hy hbud;have HH:=Hy hH;have HTm:=Hy hterm;have HSl:=Hy hsl;have HTs:=Hy hts;have HA:=Hy ha;have HL:=Hy hlen;have HZ:=Hy hz;have HIH:=Hy hih;have HOpp:=Hy hop;have HSe:=Hy hseq;have HRe:=Hy hr;have HP:=Hy hP;have HPs:=Hy hPs;have HPx:=Hy hPx;have hn0:¬0=bb:=fun e=>HT.out.bud HBud.out e.symm
 clear hg hat hT hbud hH hterm hsl hts ha hlen hz hseq hr ho hP hPs hPx hih hop;go_enter Tryz.func25,Tryz.ntmps25;go_wp2_with fail;obtain⟨r,hr⟩:∃r,w.heap.size=r:=⟨_,rfl⟩
 obtain⟨w1,hw1⟩:∃w1,w.alloc (.cells (faultC {}) 45)=w1:=⟨_,rfl⟩
 have hb1:Below w.heap.size w w1:=by rw[←hw1];exact(Below.refl _ _).alloc (Nat.le_refl _) _
 have hr1:w1.heap[r]?=some (.cells (faultC {}) 45):=by rw[←hw1];exact blk_new hr
 rw[show w.alloc (.cells #[.int .i64 0,.int .i64 0,.int .i64 0,.bool false,.string ⟨#[]⟩,.int .i64 0,.int .i64 0] 45)=w1 from hw1];rw[hr];clear hw1 t6;have hrbb:¬r=bb:=by omega
 have HB1:=Hy hb1;have HR1:=Hy hr1;clear hb1 hr1;go_loopw [25] (fun i wr=>∃(j:Nat),i = .int .i64 j∧j≤bs.length∧Hid (JudI bb (l+u) r t l w j wr)) (fun i _=>(bs.length-intOf i).toNat)
 case atStart=>exact⟨0,rfl,by omega,l,u,(by rw[List.drop_zero]),HBud.out.later HB1.out,rfl,HR1.out,Keep.of_below HB1.out⟩
 case round=>
  obtain⟨j,rfl,hj,HI⟩:=hrel;obtain⟨lj,uj,hpure,hbj,hsum,hrj,hkj⟩:=HI.out;clear HI;have HPu:=Hy hpure;have HBj:=Hy hbj;have HRj:=Hy hrj;have HKj:=Hy hkj;have hszj:=hkj.size;have hsub:∀x,x=bb→H x∨w.heap.size≤x:=fun x e=> .inl (by rw[e];exact hbb)
  have HAtj:=Hy (HAt.out.keep (hkj.wide hsub));have HTj:Hid (Tab wr):=HT.out.keep hkj hn0;clear hpure hbj hrj hkj;by_cases hjn:j<bs.length
  ·have hjt:j<t.kids.length:=by rw[←HL.out];exact hjn
   obtain⟨hjb,hatj⟩:=HTs.out.get j hjt;obtain⟨blk,off,rfl,hbl,hcl⟩:=HSl.out.at_ (by simp;omega);have hnb:¬blk=bb:=fun e=>(HA.out blk off rfl).1 (by rw[e];exact hbb)
   have hc0:=HKj.out.cell hnb (hcl j (by simpa using hjn));rw[List.getElem_map]at hc0;have hca:=HIH.out t.kids[j] bs[j] lj uj wr (List.getElem_mem hjt) (hatj.keep (HKj.out.wide hsub)) HTj.out HBj.out (fun h hh=>Nat.lt_of_lt_of_le (HH.out h hh) hszj) (by omega);have hbad:=Pv.judgeL_bad (l:=lj) hjt;have hok:=Pv.judge_ok (t:=t.kids[j]) (l:=lj);have hgood:=fun l1=>Pv.judgeL_good (l:=lj) (l1:=l1) hjt
   obtain⟨q,hq⟩:∃q,Pv.judge t.kids[j] { left:=lj }=q:=⟨_,rfl⟩
   rw[hq]at hca hbad hok;simp only[hq]at hgood;have HCa:=Hy hca;have HBa:=Hy hbad;have HOk:=Hy hok;have HGo:=Hy hgood;have hj':(j:Int)<bs.length:=by omega
   have hj40:(j:Int)<1099511627776:=by omega
   clear hca hbad hok hgood hcl hatj hq;go_wp2_with fail;refine HCa.out.mono ?_;rintro e w2 ⟨rfl,⟨u2,hb2,hu2⟩,hk2⟩;have HR2:=Hy (hk2.blk hrbb HRj.out);have HB2:=Hy hb2;have HK2:=Hy (HKj.out.trans hk2);clear hb2 hk2 HCa hc0;obtain⟨f,hf⟩:∃f,q.fault=f:=⟨_,rfl⟩
   rw[hf];go_upto_region 5 with fail
   obtain⟨fb,hfb⟩:∃n,w2.heap.size=n:=⟨_,rfl⟩
   obtain⟨w3,hw3⟩:∃w3,w2.alloc (.cells (faultC f) 45)=w3:=⟨_,rfl⟩
   have hb3:Below w2.heap.size w2 w3:=by rw[←hw3];exact(Below.refl _ _).alloc (Nat.le_refl _) _
   have hf3:w3.heap[fb]?=some (.cells (faultC f) 45):=by rw[←hw3];exact blk_new hfb
   rw[hfb,hw3];clear hw3;have HF:=Hy hf3;have HR:=Hy (later_blk hb3 HR2.out);have HB3:=Hy (HB2.out.later hb3);have HK3:=Hy (HK2.out.trans (Keep.of_below hb3));clear hb3 hf3 HR2 HB2 HK2;obtain⟨y0,y1,y2,y3,y4,y5,y6,yf⟩:=fl_cells HF.out;obtain⟨x0,x1,x2,x3,x4,x5,x6,fr⟩:=fl_cells HR.out;by_cases hfe:f.e=0
   ·have hf0:q.fault={}:=HOk.out (by rw[hf];exact hfe);have hq0:=Pv.Ck.eta hf0;have hpn:=HGo.out q.left hq0;have HI5:=Hy (show JudI bb (l+u) r t l w (j+1) w3 from⟨q.left,u2,HPu.out.trans hpn,HB3.out,hu2.trans hsum,HR.out,HK3.out⟩);rw[hfe]at y0;have y0':w3.cell? ⟨fb,0,none⟩=some (.int .i64 0):=y0;clear y0 hf0 hq0 hpn HB3 HR HF HK3 x0 x1 x2 x3 x4 x5 x6 fr y1 y2 y3 y4 y5 y6 yf;go_wp2_with fail;go_roundw
    case rel=>exact⟨j+1,by go_num,by omega,HI5.out⟩
    case measure=>simp[intOf];omega
   ·have hfi:((f.e:Int)==0)=false:=by simp;omega
    have hfd:decide ((f.e:Int)=0)=false:=decide_eq_false (by omega);have hqj:=HBa.out (by rw[hf];exact hfe);have HFin0:=Hy (Pv.judge_of_bad (HPu.out.trans hqj) (by rw[hf];exact hfe));clear hfe hqj;clear hj40 hj';go_wp2_with fail;clear y0 y1 y2 y3 y4 y5 y6 yf x0 x1 x2 x3 x4 x5 x6 fr;have hst:=fl_set2 (f) HR.out
    obtain⟨wz,hwz⟩:∃W,(((((((w3.setCell ⟨r,0,none⟩ (.int .i64 ((f).e:Int))).setCell ⟨r,1,none⟩ (.int .i64 ((f).op:Int))).setCell ⟨r,2,none⟩ (.int .i64 (f).at_)).setCell ⟨r,3,none⟩ (.bool (f).view)).setCell ⟨r,4,none⟩ (Str (f).text)).setCell ⟨r,5,none⟩ (.int .i64 (f).i)).setCell ⟨r,6,none⟩ (.int .i64 (f).j))=W:=⟨_,rfl⟩
    rw[hwz]at hst;try rw[hwz]
    clear hwz;obtain⟨x0,x1,x2,x3,x4,x5,x6,fr⟩:=fl_cells hst.1;refine bodyPost_ret (v:=FV f) ?_ rfl ?_
    ·simp[results,Tryz.results25,go_sem,x0,x1,x2,x3,x4,x5,x6]
    ·rw[HFin0.out];exact⟨by rw[hf],⟨u2,HB3.out.keep hst.2 (fun e=>hrbb e.symm),hu2.trans hsum⟩,HK3.out.trans_ hst.2 fun x e=> .inr (by omega)⟩
  ·have hjn2:j=bs.length:=by omega
   have hjn3:¬(j:Int)<bs.length:=by omega
   have hp:=HPu.out;rw[hjn2,HL.out,List.drop_length]at hp;have hp2:Pv.judgeL t.kids { left:=l }={ left:=lj }:=by rw[hp];rfl
   have HJ:=Hy (Pv.judge_of_ok hp2);clear hp hp2 HPu;have t0:wr.cell? ⟨tb,0,none⟩=some (.int .i64 (t.op:Int)):=HKj.out.cell htbb (cB (o:=0) HTm.out rfl);have t1:wr.cell? ⟨tb,1,none⟩=some (.int .i64 t.at_):=HKj.out.cell htbb (cB (o:=1) HTm.out rfl);go_wp2_with fail
   refine Eag.region (.mov 0 (.mov 1 (.mov 2 (.mov 3 (.mov 4 (.mov 5 (.mov 6 (.mov 7 (.mov 8 (.anc 9 (.anc 10 Eag.Sch.fin))))))))))) [10] (by kernel_rfl) (by kernel_rfl) (fun K ops hops hK => ?_);iterate 9
    refine Eag.mov hops rfl rfl (fun w' hb => ?_) ?_
    ·have q0:=later hb t0;have q1:=later hb t1;clear hb;go_simp
    go_simp
   refine Eag.anc hops rfl rfl ?_;go_wp2_with fail;refine⟨show Below wr.heap.size wr.drew (wr.drew.alloc (.cells (faultC {}) 45)) from(Below.refl wr.heap.size wr.drew).alloc (Nat.le_refl _) _,?_⟩;refine Eag.anc hops rfl rfl ?_;go_wp2_with fail;refine Eag.fin (hK _ _ ?_);clear hK hops;go_simp;go_upto_region 9 with fail
   obtain⟨gb,hgb⟩:∃n,wr.heap.size=n:=⟨_,rfl⟩
   obtain⟨wA,hwA⟩:∃W,(wr.alloc (.cells (faultC { op:=t.op,at_:=t.at_ }) 45)).drew=W:=⟨_,rfl⟩
   have hbA:Below wr.heap.size wr wA:=by rw[←hwA];exact((Below.refl _ _).alloc (Nat.le_refl _) _).drew
   have hgA:wA.heap[gb]?=some (.cells (faultC { op:=t.op,at_:=t.at_ }) 45):=by rw[←hwA];exact blk_new hgb
   rw[show(wr.alloc (.cells #[.int .i64 0,.int .i64 (t.op:Int),.int .i64 t.at_,.bool false,.string ⟨#[]⟩,.int .i64 0,.int .i64 0] 45)).drew=wA from hwA];rw[hgb];clear hwA;have HBd:=Hy hgA;have HR:=Hy (later_blk hbA HRj.out);have HB:=Hy (HBj.out.later hbA);have HK:=Hy (HKj.out.trans (Keep.of_below hbA));have HAA:=Hy (HAtj.out.later hbA);have HTA:=Hy (HTj.out.later hbA);have hszA:=hbA.size
   have hgbr:¬gb=r:=by have:=blk_lt HRj.out;omega
   have hgbb:¬gb=bb:=by omega
   have s0:=later hbA t0;have s3:wA.cell? ⟨tb,3,none⟩=some rv:=later hbA (HKj.out.cell htbb (cB (o:=3) HTm.out rfl));have s4:wA.cell? ⟨tb,4,none⟩=some (Str t.text):=later hbA (HKj.out.cell htbb (cB (o:=4) HTm.out rfl));have hHA:∀h,H h→h<wA.heap.size:=fun h hh=>by have:=HH.out h hh;omega
   have HHA:=Hy hHA;have nft:∀x,¬(fun _:Nat=>False) x:=fun _ h=>h
   have nt:=nft tb;have ng:=nft gb;clear hbA hgA HRj HBj HKj HAtj HTj t0 t1 hHA;have e:=HOpp.out;rw[e]at s0;obtain⟨x,hre,_,_⟩:=HG.out.leaf (.inl e);have hq:Pv.judge t { left:=l }={ left:=lj }:=by rw[HJ.out];unfold Pv.conds;rw[if_pos e]
   have HQ:=Hy hq;clear hq e hre;refine Eaq.region (Keep fun _=>False) (.mov 0 (.mov 1 (.mov 2 (.mov 3 (.mov 4 (.mov 5 (.mov 6 (.mov 7 (.mov 8 (.mov 9 (.mov 10 (.mov 11 (.mov 12 (.mov 13 (.anc 14 (.mov 15 (.mov 16 Eag.Sch.fin))))))))))))))))) [] [] (by kernel_rfl) (by kernel_rfl) (fun K ops hops hK => ?_);iterate 6
    first
     | (refine Eaq.mov hops rfl rfl rfl (fun w' hb => ?_) ?_
        ·have q0:=Keep.cell hb nt s0;clear hb;go_simp)
     | (refine Eaq.movA hops rfl rfl (fun w' => ?_) ?_
        ·go_simp)
    go_simp
   iterate 10
    first
     | refine Eaq.movS hops rfl rfl ?_
     | refine Eaq.ancS hops rfl rfl ?_
    go_simp
   iterate 1
    first
     | (refine Eaq.mov hops rfl rfl rfl (fun w' hb => ?_) ?_
        ·clear hb;go_simp)
     | (refine Eaq.movA hops rfl rfl (fun w' => ?_) ?_
        ·go_simp)
    go_simp
   refine Eaq.fin (hK _ _ ?_);clear hK hops;go_simp;obtain⟨wB,hwB⟩:∃W,wA.drew=W:=⟨_,rfl⟩
   have hbB:Below wA.heap.size wA wB:=by rw[←hwB];exact(Below.refl _ _).drew
   rw[hwB];clear hwB;replace s0:=later hbB s0;replace s3:=later hbB s3;replace s4:=later hbB s4;replace HR:=Hy (later_blk hbB HR.out);replace HBd:=Hy (later_blk hbB HBd.out);replace HB:=Hy (HB.out.later hbB);replace HK:=Hy (HK.out.trans (Keep.of_below hbB));replace HAA:=Hy (HAA.out.later hbB);replace HTA:=Hy (HTA.out.later hbB);have hszB:=hbB.size;clear hbB
   obtain⟨x0,x1,x2,x3,x4,x5,x6,fr⟩:=fl_cells (f:={}) HR.out;go_wp2_with fail;clear x0 x1 x2 x3 x4 x5 x6 fr;have hst:=fl_set HR.out;obtain⟨wz,hwz⟩:∃W,(((((((wB.setCell ⟨r,0,none⟩ (.int .i64 0)).setCell ⟨r,1,none⟩ (.int .i64 0)).setCell ⟨r,2,none⟩ (.int .i64 0)).setCell ⟨r,3,none⟩ (.bool false)).setCell ⟨r,4,none⟩ (Str [])).setCell ⟨r,5,none⟩ (.int .i64 0)).setCell ⟨r,6,none⟩ (.int .i64 0))=W:=⟨_,rfl⟩
   rw[hwz]at hst;rw[hwz];clear hwz;obtain⟨x0,x1,x2,x3,x4,x5,x6,fr⟩:=fl_cells (f:={}) hst.1;refine bodyPost_ret (v:=FV {}) ?_ rfl ?_
   ·simp[results,Tryz.results25,go_sem,x0,x1,x2,x3,x4,x5,x6]
   ·rw[HQ.out];exact⟨rfl,⟨_,HB.out.keep hst.2 (fun e=>hrbb e.symm),by first|omega|exact hsm⟩,HK.out.trans_ hst.2 fun x e=> .inr (by omega)⟩
set_option maxRecDepth 20000 in
set_option maxHeartbeats 4000000 in
theorem jud17_17 (P:Pv.R→Prop)(hP:∀r c,P r→P (Pv.by_ c r))(hPs:∀r,P r→Pv.size r≤300000)(hPx:∀r∈Pv.exL,P r)(t:Pv.T)(tb bb l u:Nat)(w:World)(hop:t.op=17)(hz:Pv.tsize t<100000)(hg:Pv.CG t)(hat:TAt H w t tb)(hT:Tab w)(hbud:BudAt w bb l u)(hbb:H bb)(hH:∀h,H h→h<w.heap.size)(hlu:l+u<274877906944)
  (hih:∀(k:Pv.T) (kb l u:Nat) (W:World),k∈t.kids→TAt H W k kb→Tab W→BudAt W bb l u→(∀h,H h→h<W.heap.size)→l+u<274877906944→Calls Tryz.prog 25 #[Ptr kb,Ptr bb] W (JudW bb (l+u) (Pv.judge k { left:=l }) W)):
  Calls Tryz.prog 25 #[Ptr tb,Ptr bb] w (JudW bb (l+u) (Pv.judge t { left:=l }) w):=by
 have hseq:=tsize_eq t;have ho:=hg.open_;obtain⟨htb,rv,a,kc,bs,hr,ha,hterm,hsl,hts⟩:=hat.open_;have hlen:=hts.length;have hbs2:bs.length≤2:=by have:=shaped_len ho.2.1;omega
 have t6:w.cell? ⟨tb,6,none⟩=some (.slice a bs.length kc):=cB (o:=6) hterm rfl;have htbl:=blk_lt hterm;have hbbl:=hH bb hbb;have htbb:¬tb=bb:=fun e=>htb (by rw[e];exact hbb)
 have HG:=Hy hg;have HAt:=Hy hat;have HT:=Hy hT;have HBud:=Hy hbud;have HH:=Hy hH;have HTm:=Hy hterm;have HSl:=Hy hsl;have HTs:=Hy hts;have HA:=Hy ha;have HL:=Hy hlen;have HZ:=Hy hz;have HIH:=Hy hih;have HOpp:=Hy hop;have HSe:=Hy hseq;have HRe:=Hy hr;have HP:=Hy hP;have HPs:=Hy hPs;have HPx:=Hy hPx;have hn0:¬0=bb:=fun e=>HT.out.bud HBud.out e.symm
 clear hg hat hT hbud hH hterm hsl hts ha hlen hz hseq hr ho hP hPs hPx hih hop;go_enter Tryz.func25,Tryz.ntmps25;go_wp2_with fail;obtain⟨r,hr⟩:∃r,w.heap.size=r:=⟨_,rfl⟩
 obtain⟨w1,hw1⟩:∃w1,w.alloc (.cells (faultC {}) 45)=w1:=⟨_,rfl⟩
 have hb1:Below w.heap.size w w1:=by rw[←hw1];exact(Below.refl _ _).alloc (Nat.le_refl _) _
 have hr1:w1.heap[r]?=some (.cells (faultC {}) 45):=by rw[←hw1];exact blk_new hr
 rw[show w.alloc (.cells #[.int .i64 0,.int .i64 0,.int .i64 0,.bool false,.string ⟨#[]⟩,.int .i64 0,.int .i64 0] 45)=w1 from hw1];rw[hr];clear hw1 t6;have hrbb:¬r=bb:=by omega
 have HB1:=Hy hb1;have HR1:=Hy hr1;clear hb1 hr1;go_loopw [25] (fun i wr=>∃(j:Nat),i = .int .i64 j∧j≤bs.length∧Hid (JudI bb (l+u) r t l w j wr)) (fun i _=>(bs.length-intOf i).toNat)
 case atStart=>exact⟨0,rfl,by omega,l,u,(by rw[List.drop_zero]),HBud.out.later HB1.out,rfl,HR1.out,Keep.of_below HB1.out⟩
 case round=>
  obtain⟨j,rfl,hj,HI⟩:=hrel;obtain⟨lj,uj,hpure,hbj,hsum,hrj,hkj⟩:=HI.out;clear HI;have HPu:=Hy hpure;have HBj:=Hy hbj;have HRj:=Hy hrj;have HKj:=Hy hkj;have hszj:=hkj.size;have hsub:∀x,x=bb→H x∨w.heap.size≤x:=fun x e=> .inl (by rw[e];exact hbb)
  have HAtj:=Hy (HAt.out.keep (hkj.wide hsub));have HTj:Hid (Tab wr):=HT.out.keep hkj hn0;clear hpure hbj hrj hkj;by_cases hjn:j<bs.length
  ·have hjt:j<t.kids.length:=by rw[←HL.out];exact hjn
   obtain⟨hjb,hatj⟩:=HTs.out.get j hjt;obtain⟨blk,off,rfl,hbl,hcl⟩:=HSl.out.at_ (by simp;omega);have hnb:¬blk=bb:=fun e=>(HA.out blk off rfl).1 (by rw[e];exact hbb)
   have hc0:=HKj.out.cell hnb (hcl j (by simpa using hjn));rw[List.getElem_map]at hc0;have hca:=HIH.out t.kids[j] bs[j] lj uj wr (List.getElem_mem hjt) (hatj.keep (HKj.out.wide hsub)) HTj.out HBj.out (fun h hh=>Nat.lt_of_lt_of_le (HH.out h hh) hszj) (by omega);have hbad:=Pv.judgeL_bad (l:=lj) hjt;have hok:=Pv.judge_ok (t:=t.kids[j]) (l:=lj);have hgood:=fun l1=>Pv.judgeL_good (l:=lj) (l1:=l1) hjt
   obtain⟨q,hq⟩:∃q,Pv.judge t.kids[j] { left:=lj }=q:=⟨_,rfl⟩
   rw[hq]at hca hbad hok;simp only[hq]at hgood;have HCa:=Hy hca;have HBa:=Hy hbad;have HOk:=Hy hok;have HGo:=Hy hgood;have hj':(j:Int)<bs.length:=by omega
   have hj40:(j:Int)<1099511627776:=by omega
   clear hca hbad hok hgood hcl hatj hq;go_wp2_with fail;refine HCa.out.mono ?_;rintro e w2 ⟨rfl,⟨u2,hb2,hu2⟩,hk2⟩;have HR2:=Hy (hk2.blk hrbb HRj.out);have HB2:=Hy hb2;have HK2:=Hy (HKj.out.trans hk2);clear hb2 hk2 HCa hc0;obtain⟨f,hf⟩:∃f,q.fault=f:=⟨_,rfl⟩
   rw[hf];go_upto_region 5 with fail
   obtain⟨fb,hfb⟩:∃n,w2.heap.size=n:=⟨_,rfl⟩
   obtain⟨w3,hw3⟩:∃w3,w2.alloc (.cells (faultC f) 45)=w3:=⟨_,rfl⟩
   have hb3:Below w2.heap.size w2 w3:=by rw[←hw3];exact(Below.refl _ _).alloc (Nat.le_refl _) _
   have hf3:w3.heap[fb]?=some (.cells (faultC f) 45):=by rw[←hw3];exact blk_new hfb
   rw[hfb,hw3];clear hw3;have HF:=Hy hf3;have HR:=Hy (later_blk hb3 HR2.out);have HB3:=Hy (HB2.out.later hb3);have HK3:=Hy (HK2.out.trans (Keep.of_below hb3));clear hb3 hf3 HR2 HB2 HK2;obtain⟨y0,y1,y2,y3,y4,y5,y6,yf⟩:=fl_cells HF.out;obtain⟨x0,x1,x2,x3,x4,x5,x6,fr⟩:=fl_cells HR.out;by_cases hfe:f.e=0
   ·have hf0:q.fault={}:=HOk.out (by rw[hf];exact hfe);have hq0:=Pv.Ck.eta hf0;have hpn:=HGo.out q.left hq0;have HI5:=Hy (show JudI bb (l+u) r t l w (j+1) w3 from⟨q.left,u2,HPu.out.trans hpn,HB3.out,hu2.trans hsum,HR.out,HK3.out⟩);rw[hfe]at y0;have y0':w3.cell? ⟨fb,0,none⟩=some (.int .i64 0):=y0;clear y0 hf0 hq0 hpn HB3 HR HF HK3 x0 x1 x2 x3 x4 x5 x6 fr y1 y2 y3 y4 y5 y6 yf;go_wp2_with fail;go_roundw
    case rel=>exact⟨j+1,by go_num,by omega,HI5.out⟩
    case measure=>simp[intOf];omega
   ·have hfi:((f.e:Int)==0)=false:=by simp;omega
    have hfd:decide ((f.e:Int)=0)=false:=decide_eq_false (by omega);have hqj:=HBa.out (by rw[hf];exact hfe);have HFin0:=Hy (Pv.judge_of_bad (HPu.out.trans hqj) (by rw[hf];exact hfe));clear hfe hqj;clear hj40 hj';go_wp2_with fail;clear y0 y1 y2 y3 y4 y5 y6 yf x0 x1 x2 x3 x4 x5 x6 fr;have hst:=fl_set2 (f) HR.out
    obtain⟨wz,hwz⟩:∃W,(((((((w3.setCell ⟨r,0,none⟩ (.int .i64 ((f).e:Int))).setCell ⟨r,1,none⟩ (.int .i64 ((f).op:Int))).setCell ⟨r,2,none⟩ (.int .i64 (f).at_)).setCell ⟨r,3,none⟩ (.bool (f).view)).setCell ⟨r,4,none⟩ (Str (f).text)).setCell ⟨r,5,none⟩ (.int .i64 (f).i)).setCell ⟨r,6,none⟩ (.int .i64 (f).j))=W:=⟨_,rfl⟩
    rw[hwz]at hst;try rw[hwz]
    clear hwz;obtain⟨x0,x1,x2,x3,x4,x5,x6,fr⟩:=fl_cells hst.1;refine bodyPost_ret (v:=FV f) ?_ rfl ?_
    ·simp[results,Tryz.results25,go_sem,x0,x1,x2,x3,x4,x5,x6]
    ·rw[HFin0.out];exact⟨by rw[hf],⟨u2,HB3.out.keep hst.2 (fun e=>hrbb e.symm),hu2.trans hsum⟩,HK3.out.trans_ hst.2 fun x e=> .inr (by omega)⟩
  ·have hjn2:j=bs.length:=by omega
   have hjn3:¬(j:Int)<bs.length:=by omega
   have hp:=HPu.out;rw[hjn2,HL.out,List.drop_length]at hp;have hp2:Pv.judgeL t.kids { left:=l }={ left:=lj }:=by rw[hp];rfl
   have HJ:=Hy (Pv.judge_of_ok hp2);clear hp hp2 HPu;have t0:wr.cell? ⟨tb,0,none⟩=some (.int .i64 (t.op:Int)):=HKj.out.cell htbb (cB (o:=0) HTm.out rfl);have t1:wr.cell? ⟨tb,1,none⟩=some (.int .i64 t.at_):=HKj.out.cell htbb (cB (o:=1) HTm.out rfl);go_wp2_with fail
   refine Eag.region (.mov 0 (.mov 1 (.mov 2 (.mov 3 (.mov 4 (.mov 5 (.mov 6 (.mov 7 (.mov 8 (.anc 9 (.anc 10 Eag.Sch.fin))))))))))) [10] (by kernel_rfl) (by kernel_rfl) (fun K ops hops hK => ?_);iterate 9
    refine Eag.mov hops rfl rfl (fun w' hb => ?_) ?_
    ·have q0:=later hb t0;have q1:=later hb t1;clear hb;go_simp
    go_simp
   refine Eag.anc hops rfl rfl ?_;go_wp2_with fail;refine⟨show Below wr.heap.size wr.drew (wr.drew.alloc (.cells (faultC {}) 45)) from(Below.refl wr.heap.size wr.drew).alloc (Nat.le_refl _) _,?_⟩;refine Eag.anc hops rfl rfl ?_;go_wp2_with fail;refine Eag.fin (hK _ _ ?_);clear hK hops;go_simp;go_upto_region 9 with fail
   obtain⟨gb,hgb⟩:∃n,wr.heap.size=n:=⟨_,rfl⟩
   obtain⟨wA,hwA⟩:∃W,(wr.alloc (.cells (faultC { op:=t.op,at_:=t.at_ }) 45)).drew=W:=⟨_,rfl⟩
   have hbA:Below wr.heap.size wr wA:=by rw[←hwA];exact((Below.refl _ _).alloc (Nat.le_refl _) _).drew
   have hgA:wA.heap[gb]?=some (.cells (faultC { op:=t.op,at_:=t.at_ }) 45):=by rw[←hwA];exact blk_new hgb
   rw[show(wr.alloc (.cells #[.int .i64 0,.int .i64 (t.op:Int),.int .i64 t.at_,.bool false,.string ⟨#[]⟩,.int .i64 0,.int .i64 0] 45)).drew=wA from hwA];rw[hgb];clear hwA;have HBd:=Hy hgA;have HR:=Hy (later_blk hbA HRj.out);have HB:=Hy (HBj.out.later hbA);have HK:=Hy (HKj.out.trans (Keep.of_below hbA));have HAA:=Hy (HAtj.out.later hbA);have HTA:=Hy (HTj.out.later hbA);have hszA:=hbA.size
   have hgbr:¬gb=r:=by have:=blk_lt HRj.out;omega
   have hgbb:¬gb=bb:=by omega
   have s0:=later hbA t0;have s3:wA.cell? ⟨tb,3,none⟩=some rv:=later hbA (HKj.out.cell htbb (cB (o:=3) HTm.out rfl));have s4:wA.cell? ⟨tb,4,none⟩=some (Str t.text):=later hbA (HKj.out.cell htbb (cB (o:=4) HTm.out rfl));have hHA:∀h,H h→h<wA.heap.size:=fun h hh=>by have:=HH.out h hh;omega
   have HHA:=Hy hHA;have nft:∀x,¬(fun _:Nat=>False) x:=fun _ h=>h
   have nt:=nft tb;have ng:=nft gb;clear hbA hgA HRj HBj HKj HAtj HTj t0 t1 hHA;have e:=HOpp.out;obtain⟨x,hre,hxl,hkn⟩:=HG.out.leaf (.inr e);have hrv:=HRe.out;rw[hre]at hrv;obtain⟨rb,erv,hrb⟩:=hrv;have hq:Pv.judge t { left:=l }=(({ left:=lj }:Pv.Ck).within t t.text x).1:=by rw[HJ.out];unfold Pv.conds;rw[if_neg (by omega),if_pos e,hre];rfl
   have htx:=Pv.len_txL _ HG.out.open_.2.2.2.1;have HQ:=Hy hq;have HX:=Hy (HPx.out x hxl);have HRb:=Hy (hrb.keep ((HK.out.wide hsub)));rw[e]at s0;rw[erv]at s3;clear hq hre e hxl hkn hrb
   refine Eaq.region (Keep fun _=>False) (.mov 0 (.mov 1 (.mov 2 (.mov 3 (.mov 4 (.mov 5 (.mov 6 (.mov 7 (.mov 8 (.mov 9 (.mov 10 (.mov 11 (.mov 12 (.mov 13 (.anc 14 (.mov 15 (.mov 16 Eag.Sch.fin))))))))))))))))) [] [] (by kernel_rfl) (by kernel_rfl) (fun K ops hops hK => ?_);iterate 6
    first
     | (refine Eaq.mov hops rfl rfl rfl (fun w' hb => ?_) ?_
        ·have q0:=Keep.cell hb nt s0;clear hb;go_simp)
     | (refine Eaq.movA hops rfl rfl (fun w' => ?_) ?_
        ·go_simp)
    go_simp
   iterate 8
    refine Eaq.movG hops rfl rfl rfl (fun w' hb => ?_) ?_
    ·have q0:=Keep.cell hb nt s3;have q1:=Keep.cell hb nt s4;clear hb;go_simp
    go_simp
   refine Eaq.ancG hops rfl rfl ?_;go_wp2_with fail;refine(dmatch_any P HP.out HPs.out x HX.out rb t.text wA.drew (HRb.out.later (Below.refl _ _).drew) HHA.out (by omega)).mono ?_;rintro e wB ⟨rfl,hbM⟩;refine⟨Keep.of_below hbM,?_⟩;have hbB:Below wA.heap.size wA wB:=(Below.refl _ wA).drew.trans hbM;replace s0:=later hbB s0;replace s3:=later hbB s3;replace s4:=later hbB s4
   replace HR:=Hy (later_blk hbB HR.out);replace HBd:=Hy (later_blk hbB HBd.out);replace HB:=Hy (HB.out.later hbB);replace HK:=Hy (HK.out.trans (Keep.of_below hbB));replace HAA:=Hy (HAA.out.later hbB);replace HTA:=Hy (HTA.out.later hbB);have hszB:=hbB.size;clear hbB;cases hm:Pv.matchR t.text x
   ·have hq2:Pv.judge t { left:=l }={ left:=lj,fault:={ e:=23,op:=t.op,at_:=t.at_,text:=t.text } }:=by rw[HQ.out];simp[Pv.Ck.within,Pv.Ck.ok,Pv.Ck.fail,hm]
    replace HQ:=Hy hq2;clear hq2 hm hbM;iterate 1
     refine Eaq.movG hops rfl rfl rfl (fun w' hb => ?_) ?_
     ·clear hb;go_simp
     go_simp
    iterate 1
     first
      | (refine Eaq.mov hops rfl rfl rfl (fun w' hb => ?_) ?_
         ·clear hb;go_simp)
      | (refine Eaq.movA hops rfl rfl (fun w' => ?_) ?_
         ·go_simp)
     go_simp
    refine Eaq.fin (hK _ _ ?_);clear hK hops;go_simp;obtain⟨y0,y1,y2,y3,y4,y5,y6,yf⟩:=fl_cells HBd.out;go_upto_region 11 with fail
    obtain⟨wC,hwC⟩:∃W,wB.setCell ⟨gb,0,none⟩ (.int .i64 23)=W:=⟨_,rfl⟩
    have hkC:Keep (· = gb) wB wC:=by rw[←hwC];exact Keep.set rfl
    have hgC:wC.heap[gb]?=some (.cells (faultC { e:=23,op:=t.op,at_:=t.at_ }) 45):=by rw[←hwC,blk_set HBd.out];rfl
    rw[hwC];clear hwC y0 y1 y2 y3 y4 y5 y6 yf;have htg:¬tb=gb:=by omega
    have s4':=hkC.cell htg s4;replace HBd:=Hy hgC;replace HR:=Hy (hkC.blk (fun e=>hgbr e.symm) HR.out);replace HB:=Hy (HB.out.keep hkC (fun e=>hgbb e.symm));replace HK:=Hy (HK.out.trans_ hkC fun x e=> .inr (by rw[e];omega));clear hkC hgC s0 s3 s4;obtain⟨y0,y1,y2,y3,y4,y5,y6,yf⟩:=fl_cells HBd.out;go_upto_region 12 with fail
    obtain⟨wD,hwD⟩:∃W,wC.setCell ⟨gb,4,none⟩ (Str t.text)=W:=⟨_,rfl⟩
    have hkC:Keep (· = gb) wC wD:=by rw[←hwD];exact Keep.set rfl
    have hgC:wD.heap[gb]?=some (.cells (faultC { e:=23,op:=t.op,at_:=t.at_,text:=t.text }) 45):=by rw[←hwD,blk_set HBd.out];rfl
    rw[hwD];clear hwD y0 y1 y2 y3 y4 y5 y6 yf s4';replace HBd:=Hy hgC;replace HR:=Hy (hkC.blk (fun e=>hgbr e.symm) HR.out);replace HB:=Hy (HB.out.keep hkC (fun e=>hgbb e.symm));replace HK:=Hy (HK.out.trans_ hkC fun x e=> .inr (by rw[e];omega));clear hkC hgC;obtain⟨f,hf⟩:∃f,({ e:=23,op:=t.op,at_:=t.at_,text:=t.text }:Pv.Fault)=f:=⟨_,rfl⟩
    rw[hf]at HBd;have hq3:=HQ.out;rw[hf]at hq3;replace HQ:=Hy hq3;clear hq3 hf;obtain⟨y0,y1,y2,y3,y4,y5,y6,yf⟩:=fl_cells HBd.out;obtain⟨x0,x1,x2,x3,x4,x5,x6,fr⟩:=fl_cells HR.out;go_wp2_with fail;clear y0 y1 y2 y3 y4 y5 y6 yf;clear x0 x1 x2 x3 x4 x5 x6 fr;have hst:=fl_set2 (f) HR.out
    obtain⟨wz,hwz⟩:∃W,(((((((wD.setCell ⟨r,0,none⟩ (.int .i64 ((f).e:Int))).setCell ⟨r,1,none⟩ (.int .i64 ((f).op:Int))).setCell ⟨r,2,none⟩ (.int .i64 (f).at_)).setCell ⟨r,3,none⟩ (.bool (f).view)).setCell ⟨r,4,none⟩ (Str (f).text)).setCell ⟨r,5,none⟩ (.int .i64 (f).i)).setCell ⟨r,6,none⟩ (.int .i64 (f).j))=W:=⟨_,rfl⟩
    rw[hwz]at hst;try rw[hwz]
    clear hwz;obtain⟨x0,x1,x2,x3,x4,x5,x6,fr⟩:=fl_cells hst.1;refine bodyPost_ret (v:=FV (f)) ?_ rfl ?_
    ·simp[results,Tryz.results25,go_sem,x0,x1,x2,x3,x4,x5,x6]
    ·rw[HQ.out];exact⟨rfl,⟨_,HB.out.keep hst.2 (fun e=>hrbb e.symm),by first|omega|exact hsm⟩,HK.out.trans_ hst.2 fun x e=> .inr (by omega)⟩
   ·have hq2:Pv.judge t { left:=l }={ left:=lj }:=by rw[HQ.out];simp[Pv.Ck.within,Pv.Ck.ok,hm]
    replace HQ:=Hy hq2;clear hq2 hm hbM;iterate 1
     refine Eaq.movG hops rfl rfl rfl (fun w' hb => ?_) ?_
     ·clear hb;go_simp
     go_simp
    iterate 1
     first
      | (refine Eaq.mov hops rfl rfl rfl (fun w' hb => ?_) ?_
         ·clear hb;go_simp)
      | (refine Eaq.movA hops rfl rfl (fun w' => ?_) ?_
         ·go_simp)
     go_simp
    refine Eaq.fin (hK _ _ ?_);clear hK hops;go_simp;obtain⟨x0,x1,x2,x3,x4,x5,x6,fr⟩:=fl_cells (f:={}) HR.out;go_wp2_with fail;clear x0 x1 x2 x3 x4 x5 x6 fr;have hst:=fl_set HR.out
    obtain⟨wz,hwz⟩:∃W,(((((((wB.setCell ⟨r,0,none⟩ (.int .i64 0)).setCell ⟨r,1,none⟩ (.int .i64 0)).setCell ⟨r,2,none⟩ (.int .i64 0)).setCell ⟨r,3,none⟩ (.bool false)).setCell ⟨r,4,none⟩ (Str [])).setCell ⟨r,5,none⟩ (.int .i64 0)).setCell ⟨r,6,none⟩ (.int .i64 0))=W:=⟨_,rfl⟩
    rw[hwz]at hst;rw[hwz];clear hwz;obtain⟨x0,x1,x2,x3,x4,x5,x6,fr⟩:=fl_cells (f:={}) hst.1;refine bodyPost_ret (v:=FV {}) ?_ rfl ?_
    ·simp[results,Tryz.results25,go_sem,x0,x1,x2,x3,x4,x5,x6]
    ·rw[HQ.out];exact⟨rfl,⟨_,HB.out.keep hst.2 (fun e=>hrbb e.symm),by first|omega|exact hsm⟩,HK.out.trans_ hst.2 fun x e=> .inr (by omega)⟩
end Go.Proofs.YtinpjfnnfkjbmaaGreatDoor
