/- The walk of ambig.Cat. -/
import Derived.Test.YtamkfdlcdiadlaaGreatDoorKb05
import Derived.Test.YtamkfdlcdiadlaaGreatDoorKb26
import Derived.Test.YtamkfdlcdiadlaaGreatDoorKb24
import Derived.Test.YtamkfdlcdiadlaaGreatDoorKb27
set_option linter.all false
namespace Go.Proofs.YtamkfdlcdiadlaaGreatDoor
open Go.RowKit Go.Maps
variable {H:Nat→Prop}
theorem keep_set3 {b g:Nat}{W:World}{v0 v1 v2:Value}(h:g=b):Keep (· = b) W (((W.setCell ⟨g,0,none⟩ v0).setCell ⟨g,1,none⟩ v1).setCell ⟨g,2,none⟩ v2):=by subst h;exact Keep.trans (H:=(· = g)) (Keep.trans (H:=(· = g)) (Keep.set rfl) (Keep.set rfl)) (Keep.set rfl)
theorem Pv.good_first {A B:Pv.Dfa}{tr:Pv.Trail}{l l':Nat}(h:Pv.addSpot ⟨0,0,0,false⟩ ⟨-1,0,false⟩ [] l=some (tr,l')):Pv.Good A B tr:=by
 rcases Pv.addSpot_spec h with⟨e,_⟩|⟨e,_⟩
 ·subst e;exact fun i y st h=>by simp at h
 ·subst e;exact Pv.Good.start A B
theorem Pv.good_from {A B:Pv.Dfa}{tr:Pv.Trail}(h:Pv.Good A B tr):∀(i:Nat) (x:Pv.Spot) (st:Pv.Step),tr[i]?=some (x,st)→st.from_<(i:Int):=fun i x st hi=>by
 rcases h i x st hi with⟨e,_⟩|⟨j,_,_,e,hj,_⟩
 ·omega
 ·omega
theorem Pv.good_two {A B:Pv.Dfa}{tr:Pv.Trail}(h:Pv.Good A B tr){i:Nat}{x:Pv.Spot}{st:Pv.Step}(hi:tr[i]?=some (x,st))(ht:Pv.isTwo B x=true):2≤(Pv.twoGo tr (tr.length+1) i [] []).2.length:=by
 have hil:=(List.getElem?_eq_some_iff.1 hi).1;obtain⟨u,ps,hT,hE⟩:=Pv.twoGo_tells h i x st hi (tr.length+1) (by omega);have hph:x.phase=2:=by unfold Pv.isTwo at ht;simp only[Bool.and_eq_true,beq_iff_eq]at ht;exact ht.1.1
 rw[hE];cases hT with
 | ahead u e1=>omega
 | between u v e1=>omega
 | behind u v z e1=>simp
theorem appS_op {P:Program}{w:World}{o:Oper}{a:Act}{K:Act→World→Prop}{Q:Exit→Act→World→Prop}(t e:TypeId)(i:TypeInfo)(z:Value)(bytes:Nat)
  (ht:P.underlying t=some (.slice e)) (hi:P.info? e=some i) (hz:i.zero=some z) (hsize:i.size=1) (hby:i.bytes=bytes) (hzs:z.cells.size=1) (hbm:bytes≤64)
  (s x:Operand) (ho:o.op = .call { callee:= .builtin .append,args:=#[s,x],argTypes:=#[t,t] })
  (base:Nat) (v:Value) (xs:List Value) (hs:a.eval s=v) (hown:Row base e w v xs)
  (ad:Addr) (n c:Nat) (news:List Value) (hn:news.length=n) (hx:a.eval x = .slice (some ad) n c) (hsl:Sl w (some ad) c news) (hu:∀u∈news,u.oneCell'=true)
  (hlen:xs.length+n<1099511627776) (hbase:base≤w.heap.size)
  (h:∀v' w',Row base e w' v' (xs++news)→Below base w w'→K (a.put o.dst v') w'):o.wp P a w K Q:=by
 subst hn;have hb2:(xs.length+news.length)*i.bytes≤140737488355328:=Nat.le_trans (Nat.mul_le_mul (Nat.le_of_lt hlen) (by omega)) (by decide:1099511627776*64≤140737488355328);have hnews:∀j q,news[j]?=some q→w.cell? (ad.add j)=some q:=fun j q hj=>by obtain⟨hlt,hj⟩:=List.getElem?_eq_some_iff.1 hj;obtain⟨b,o',e1,hc⟩:=hsl.cell j hlt;cases e1;rw[add_none,hc,hj]
 obtain⟨v',w',hrun,hr,hgr,_⟩:=run_append_own (P:=P) w base t o.type e i z 1 i.bytes ht hi hz hsize rfl hzs (by omega) v xs.length xs hown ad news.length c news (by omega) hnews hu (by unfold maxLen;omega) hb2 hbase;unfold Oper.wp;simp[execOp,ho,resolve,invoke,builtin,hs,hx,hrun,Result.andThen];exact h v' w' (by unfold Row;rw[List.length_append];exact hr) (Below.of_grown hown hgr hbase)
theorem Row.bytes {base:Nat}{w:World}{v:Value}{L:List UInt8}(h:Row base 5 w v (L.map bV))(hL:L≠[]):∃g cap sp,v = .slice (some ⟨g,0,none⟩) L.length cap∧base≤g∧w.heap[g]?=some (.cells (bRow L sp) 5)∧L.length≤cap:=by
 rcases RowK.blk h with⟨_,e,_⟩|⟨g,cap,cur,rfl,h1,h2,h3,_,_,h4⟩
 ·rw[List.length_map]at e;exact absurd (List.length_eq_zero_iff.1 e) hL
 ·rw[List.length_map]at h3 h4 ⊢;refine⟨g,cap,cur.toList.drop L.length,rfl,h1,?_,h3⟩;rw[h2];congr 2;unfold bRow;rw[←h4,Nat.mul_one,List.take_append_drop]
theorem cat_end {R:Ending→World→Prop}{e:Ending}{bb lf uf r:Nat}{w w1:World}{v0 v1 v2:Value}(hR:∀w',BudAt w' bb lf uf→Keep (· = bb) w w'→R e w')(hb:BudAt w1 bb lf uf)(hk:Keep (· = bb) w w1)(hr:w.heap.size≤r)(hbb:bb≠r):
  R e (((w1.setCell ⟨r,0,none⟩ v0).setCell ⟨r,1,none⟩ v1).setCell ⟨r,2,none⟩ v2):=
 hR _ (hb.keep (keep_set3 rfl) hbb) (hk.trans_ (H1:=(· = r)) (keep_set3 rfl) fun x e=> .inr (by rw[e];exact hr))
set_option maxRecDepth 20000 in
set_option maxHeartbeats 12000000 in
theorem acat3_any (R:Ending→World→Prop)(x y:Pv.R)(bx by_ bb l u:Nat)(w:World)(hT:Tab w)(hx:ReAt H w x bx)(hy:ReAt H w y by_)(hbud:BudAt w bb l u)(hbb:H bb)(hH:∀h,H h→h<w.heap.size)
  (hsx:Pv.size x<549755813888) (hsy:Pv.size y<549755813888) (hl:l<274877906944)
  (hhd:∀A B l1,Pv.build x l=(l1,some A)→(Pv.build y l1).2=some B→A.parts.length+B.parts.length≤12)
  (r1:∀w',(Pv.ambigCat x y l).2=none→BudAt w' bb (Pv.ambigCat x y l).1 (u+(l-(Pv.ambigCat x y l).1))→Keep (· = bb) w w'→R (.returned (.tuple #[.agg #[Str [],.int .i64 0,.int .i64 0],.bool false,.int .i64 5])) w')
  (r2:∀w',(Pv.ambigCat x y l).2=some none→BudAt w' bb (Pv.ambigCat x y l).1 (u+(l-(Pv.ambigCat x y l).1))→Keep (· = bb) w w'→R (.returned (.tuple #[.agg #[Str [],.int .i64 0,.int .i64 0],.bool false,.int .i64 0])) w')
  (r3:∀t w',(Pv.ambigCat x y l).2=some (some t)→BudAt w' bb (Pv.ambigCat x y l).1 (u+(l-(Pv.ambigCat x y l).1))→Keep (· = bb) w w'→R (.returned (.tuple #[.agg #[Str t.text,.int .i64 t.i,.int .i64 t.j],.bool true,.int .i64 0])) w'):
  Calls Tryz.prog 147 #[Ptr bx,Ptr by_,Ptr bb] w R:=by
 have HX:=Hy hx;have HY:=Hy hy;have HT:=Hy hT;have HBud:=Hy hbud;have R1:=Hy r1;have R2:=Hy r2;have HHd:=Hy hhd;have R3:=Hy r3;have hbbw:=hH _ hbb;have HH:=Hy hH;clear hx hy hT hbud r1 r2 r3 hhd hH;go_enter Tryz.func147,Tryz.ntmps147;have hmm:=@run_makeMap Tryz.prog;go_wp2_with fail;clear hmm
 obtain⟨wa,hwa⟩:∃wa,((w.alloc (.cells #[Str [],.int .i64 0,.int .i64 0] 223)).alloc (.map #[] 0)).alloc (.cells #[.pointer none,.pointer none,.map (some (w.heap.size+1)),.slice none 0 0,.slice none 0 0,Ptr bb] 264)=wa:=⟨_,rfl⟩
 have hBa:Below w.heap.size w wa:=by rw[←hwa];exact(((Below.refl _ _).alloc (Nat.le_refl _) _).alloc (by simp) _).alloc (by simp;omega) _
 have hra:wa.heap[w.heap.size]?=some (.cells #[Str [],.int .i64 0,.int .i64 0] 223):=by rw[←hwa];exact blk_old (blk_old (blk_new rfl))
 have hma:wa.heap[w.heap.size+1]?=some (.map #[] 0):=by rw[←hwa];exact blk_old (blk_new (by simp))
 have hsa:wa.heap[w.heap.size+1+1]?=some (.cells #[.pointer none,.pointer none,.map (some (w.heap.size+1)),.slice none 0 0,.slice none 0 0,Ptr bb] 264):=by rw[←hwa];exact blk_new (by simp)
 rw[hwa];clear hwa;have hza:=blk_lt hsa;have HBa:=Hy hBa;have HRa:=Hy hra;have HMa:=Hy hma;have HSa:=Hy hsa;clear hBa hra hma hsa;obtain⟨H1,hH1⟩:∃H1:Nat→Prop,(fun k=>H k∨k=w.heap.size+1∨k=w.heap.size+1+1)=H1:=⟨_,rfl⟩
 have h1of:∀k,H1 k→H k∨w.heap.size≤k:=fun k hk=>by
  rw[←hH1]at hk;rcases hk with hk|hk|hk
  ·exact .inl hk
  ·exact .inr (by omega)
  ·exact .inr (by omega)
 have h1lt:∀k,H1 k→k<wa.heap.size:=fun k hk=>by
  rw[←hH1]at hk;rcases hk with hk|hk|hk
  ·have:=HH.out k hk;omega
  ·omega
  ·omega
 have h1b:H1 bb∧H1 (w.heap.size+1)∧H1 (w.heap.size+1+1):=by rw[←hH1];exact⟨.inl hbb,.inr (.inl rfl),.inr (.inr rfl)⟩
 clear hH1;have H1of:=Hy h1of;have H1lt:=Hy h1lt;have H1b:=Hy h1b;clear h1of h1lt h1b;refine build_main (H:=H1) _ x bx bb l u wa (HT.out.later HBa.out) ((HX.out.widen (H':=H1) H1of.out).later HBa.out) (HBud.out.later HBa.out) H1b.out.1 H1lt.out hsx hl ?_ ?_
 ·intro w1 hn hb1 hk1;have hs:Pv.ambigCat x y l=((Pv.build x l).1,none):=by unfold Pv.ambigCat;rw[show Pv.build x l=((Pv.build x l).1,(Pv.build x l).2) from rfl,hn]
  have hR:=R1.out;rw[hs]at hR;have hrr:=hk1.blk (show ¬w.heap.size=bb by omega) HRa.out;have r0:=cB (o:=0) hrr rfl;have r1:=cB (o:=1) hrr rfl;have r2:=cB (o:=2) hrr rfl;have fr:∀o,w1.frozen? ⟨w.heap.size,o,none⟩=false:=fun o=>fob hrr
  have s0:=cB (o:=0) (hk1.blk (show ¬w.heap.size+1+1=bb by omega) HSa.out) rfl;have fs:∀o,w1.frozen? ⟨w.heap.size+1+1,o,none⟩=false:=fun o=>fob (hk1.blk (show ¬w.heap.size+1+1=bb by omega) HSa.out)
  have hkw:Keep (· = bb) w w1:=(Keep.of_below HBa.out).trans hk1;have HE:=Hy (fun w'=>hR w' rfl);have HB1:=Hy hb1;have HKw:=Hy hkw;clear hs hR hrr hb1 hk1 hkw hn;go_wp2_with fail;have hke:Keep (· = w.heap.size+1+1) w1 (w1.setCell ⟨w.heap.size+1+1,0,none⟩ (.pointer none)):=Keep.set rfl
  refine bodyPost_ret (v:= .tuple #[.agg #[Str [],.int .i64 0,.int .i64 0],.bool false,.int .i64 5]) ?_ rfl (cat_end HE.out (HB1.out.keep hke (by omega)) (HKw.out.trans_ hke fun k e=> .inr (by omega)) (Nat.le_refl _) (by omega));simp[results,Tryz.results147,go_sem,r0,r1,r2]
 ·intro w1 A a hbA hdA hza1 hb1 hk1;obtain⟨l1,hl1⟩:∃l1,(Pv.build x l).1=l1:=⟨_,rfl⟩
  have hl1l:l1≤l:=by rw[←hl1];exact Pv.build_left x l
  rw[hl1]at hb1;have hbe:Pv.build x l=(l1,some A):=by rw[←hl1,←hbA]
  have hAok:=Pv.build_ok hbe;have hsz1:=hk1.size;have hs1:=hk1.blk (show ¬w.heap.size+1+1=bb by omega) HSa.out;have s0:=cB (o:=0) hs1 rfl;have fs:∀o,w1.frozen? ⟨w.heap.size+1+1,o,none⟩=false:=fun o=>fob hs1
  have hkw1:Keep (· = bb) w w1:=(Keep.of_below HBa.out).trans hk1;have HK1:=Hy hk1;have HKw1:=Hy hkw1;have HdA:=Hy hdA;have HB1:=Hy hb1;have HBe:=Hy hbe;have HAok:=Hy hAok;have HS1:=Hy hs1;clear hk1 hkw1 hdA hb1 hbe hAok hs1 hbA;go_wp2_with fail;obtain⟨w2,hw2⟩:∃w2,w1.setCell ⟨w.heap.size+1+1,0,none⟩ (Ptr a)=w2:=⟨_,rfl⟩
  have hke:Keep (· = w.heap.size+1+1) w1 w2:=by rw[←hw2];exact Keep.set rfl
  have hs2:w2.heap[w.heap.size+1+1]?=some (.cells #[Ptr a,.pointer none,.map (some (w.heap.size+1)),.slice none 0 0,.slice none 0 0,Ptr bb] 264):=by rw[←hw2,blk_set HS1.out];rfl
  rw[hw2];clear hw2 s0 fs;have hr1:=HK1.out.blk (show ¬w.heap.size=bb by omega) HRa.out;have hm1:=HK1.out.blk (show ¬w.heap.size+1=bb by omega) HMa.out;have HR2:=Hy (hke.blk (show ¬w.heap.size=w.heap.size+1+1 by omega) hr1);have HM2:=Hy (hke.blk (show ¬w.heap.size+1=w.heap.size+1+1 by omega) hm1);have HS2:=Hy hs2;have HKw2:Hid (Keep (· = bb) w w2):=HKw1.out.trans_ hke fun k e=> .inr (by omega)
  have HdA2:=Hy (HdA.out.keep hke (fun k e=> .inl (.inl (by rw[e];exact H1b.out.2.2))) (show ¬a=w.heap.size+1+1 by omega));have HB2:Hid (BudAt w2 bb l1 (u+(l-l1))):=HB1.out.keep hke (show ¬bb=w.heap.size+1+1 by omega);have hsz2:=hke.size;have hy2:ReAt (fun k=>H1 k∨k=a) w2 y by_:=(HY.out.widen (H':=fun k=>H1 k∨k=a) (fun k hk=>by
   have:=HBa.out.size;rcases hk with hk|hk
   ·exact H1of.out k hk
   ·exact .inr (by omega))).keep (HKw2.out.wide fun k e=> .inl (.inl (by rw[e];exact H1b.out.1)))
  have HY2:=Hy hy2;have hT2:Tab w2:=HT.out.keep HKw2.out (fun e=>HT.out.bud HBud.out e.symm);have HT2:=Hy hT2;clear hke hs2 hr1 hm1 hy2 hT2;obtain⟨H2,hH2⟩:∃H2:Nat→Prop,(fun k=>H1 k∨k=a)=H2:=⟨_,rfl⟩
  have h2lt:∀k,H2 k→k<w2.heap.size:=fun k hk=>by
   rw[←hH2]at hk;rcases hk with hk|hk
   ·have:=H1lt.out k hk;omega
   ·have:=HdA.out.lt;omega
  have h2b:H2 bb∧H2 (w.heap.size+1)∧H2 (w.heap.size+1+1)∧H2 a:=by rw[←hH2];exact⟨.inl H1b.out.1,.inl H1b.out.2.1,.inl H1b.out.2.2,.inr rfl⟩
  rw[hH2]at HdA2 HY2;have H2lt:=Hy h2lt;have H2b:=Hy h2b;clear h2lt h2b hH2;refine build_main (H:=H2) _ y by_ bb l1 (u+(l-l1)) w2 HT2.out HY2.out HB2.out H2b.out.1 H2lt.out hsy (by omega) ?_ ?_
  ·intro w3 hn hb3 hk3;have hl2:(Pv.build y l1).1≤l1:=Pv.build_left _ _;have hs:Pv.ambigCat x y l=((Pv.build y l1).1,none):=by unfold Pv.ambigCat;rw[HBe.out];simp only;rw[show Pv.build y l1=((Pv.build y l1).1,(Pv.build y l1).2) from rfl,hn]
   have hR:=R1.out;rw[hs]at hR;rw[show u+(l-l1)+(l1-(Pv.build y l1).1)=u+(l-(Pv.build y l1).1) by omega]at hb3;have hrr:=hk3.blk (show ¬w.heap.size=bb by omega) HR2.out;have r0:=cB (o:=0) hrr rfl;have r1:=cB (o:=1) hrr rfl;have r2:=cB (o:=2) hrr rfl;have fr:∀o,w3.frozen? ⟨w.heap.size,o,none⟩=false:=fun o=>fob hrr
   have s0:=cB (o:=1) (hk3.blk (show ¬w.heap.size+1+1=bb by omega) HS2.out) rfl;have fs:∀o,w3.frozen? ⟨w.heap.size+1+1,o,none⟩=false:=fun o=>fob (hk3.blk (show ¬w.heap.size+1+1=bb by omega) HS2.out)
   have hkw:Keep (· = bb) w w3:=HKw2.out.trans hk3;have HE:=Hy (fun w'=>hR w' rfl);have HB3:=Hy hb3;have HKw:=Hy hkw;clear hs hR hrr hb3 hk3 hkw hn;go_wp2_with fail;have hke:Keep (· = w.heap.size+1+1) w3 (w3.setCell ⟨w.heap.size+1+1,1,none⟩ (.pointer none)):=Keep.set rfl
   refine bodyPost_ret (v:= .tuple #[.agg #[Str [],.int .i64 0,.int .i64 0],.bool false,.int .i64 5]) ?_ rfl (cat_end HE.out (HB3.out.keep hke (by omega)) (HKw.out.trans_ hke fun k e=> .inr (by omega)) (Nat.le_refl _) (by omega));simp[results,Tryz.results147,go_sem,r0,r1,r2]
  ·intro w3 B b hbB hdB hzb hb3 hk3;obtain⟨l2,hl2⟩:∃l2,(Pv.build y l1).1=l2:=⟨_,rfl⟩
   have hl2l:l2≤l1:=by rw[←hl2];exact Pv.build_left y l1
   rw[hl2]at hb3;rw[show u+(l-l1)+(l1-l2)=u+(l-l2) by omega]at hb3;have hbe2:Pv.build y l1=(l2,some B):=by rw[←hl2,←hbB]
   have hBok:=Pv.build_ok hbe2;have hlen12:=HHd.out A B l1 HBe.out (by rw[hbe2]);have hsz3:=hk3.size;have hs3:=hk3.blk (show ¬w.heap.size+1+1=bb by omega) HS2.out;have s0:=cB (o:=1) hs3 rfl;have fs:∀o,w3.frozen? ⟨w.heap.size+1+1,o,none⟩=false:=fun o=>fob hs3
   have hmid:Keep (· = bb) w w3:=HKw2.out.trans hk3;have haw2:=HdA2.out.lt;have hdA3:DfaAt (fun k=>H2 k∨k=b) w3 A a:=((HdA2.out.widen (H':=fun k=>H2 k∨k=b) (fun k hk=>by rcases hk with hk|hk;exact .inl hk;exact .inr (by omega))).keep hk3 (fun k e=> .inl (.inl (by rw[e];exact H2b.out.1))) (show ¬a=bb by omega))
   have HK3:=Hy hmid;have HdB:=Hy hdB;have HdA3:=Hy hdA3;have HB3:=Hy hb3;have HBe2:=Hy hbe2;have HBok:=Hy hBok;have HS3:=Hy hs3;have HR3:=Hy (hk3.blk (show ¬w.heap.size=bb by omega) HR2.out);have HM3:=Hy (hk3.blk (show ¬w.heap.size+1=bb by omega) HM2.out);clear hk3 hdB hb3 hbe2 hBok hs3 hbB hmid hdA3;go_wp2_with fail;obtain⟨w4,hw4⟩:∃w4,w3.setCell ⟨w.heap.size+1+1,1,none⟩ (Ptr b)=w4:=⟨_,rfl⟩
   have hke:Keep (· = w.heap.size+1+1) w3 w4:=by rw[←hw4];exact Keep.set rfl
   have hs4:w4.heap[w.heap.size+1+1]?=some (.cells #[Ptr a,Ptr b,.map (some (w.heap.size+1)),.slice none 0 0,.slice none 0 0,Ptr bb] 264):=by rw[←hw4,blk_set HS3.out];rfl
   rw[hw4];clear hw4 s0 fs;have HR4:=Hy (hke.blk (show ¬w.heap.size=w.heap.size+1+1 by omega) HR3.out);have HM4:=Hy (hke.blk (show ¬w.heap.size+1=w.heap.size+1+1 by omega) HM3.out);have HKw4:Hid (Keep (· = bb) w w4):=HK3.out.trans_ hke fun k e=> .inr (by omega)
   have HdA4:=Hy (HdA3.out.keep hke (fun k e=> .inl (.inl (by rw[e];exact H2b.out.2.2.1))) (show ¬a=w.heap.size+1+1 by omega));have HdB4:=Hy (HdB.out.keep hke (fun k e=> .inl (.inl (by rw[e];exact H2b.out.2.2.1))) (show ¬b=w.heap.size+1+1 by omega));have HB4:Hid (BudAt w4 bb l2 (u+(l-l2))):=HB3.out.keep hke (show ¬bb=w.heap.size+1+1 by omega);have hsz4:=hke.size
   have x0:w4.cell? ⟨w.heap.size+1+1,0,none⟩=some (Ptr a):=cB (o:=0) hs4 rfl;have x1:w4.cell? ⟨w.heap.size+1+1,1,none⟩=some (Ptr b):=cB (o:=1) hs4 rfl;have HS4:=Hy hs4;clear hke hs4;have hp1:=HAok.out.1.p256;have hp2:=HBok.out.1.p256;have hpp:=HBok.out.1.pp;have hppA:=HAok.out.1.pp;obtain⟨i0,hi,hz0,hz1,hz2⟩:=info_parts info_u8';have hlA:(A.heads.map byteV).length=A.parts.length:=by simp[Pv.Dfa.heads]
   have hlB:(B.heads.map byteV).length=B.parts.length:=by simp[Pv.Dfa.heads]
   refine Eag.region (.mov 0 (.mov 1 (.mov 2 (.mov 3 (.mov 5 (.mov 6 (.mov 7 (.mov 8 (.anc 4 (.anc 9 (.anc 10 (.mov 11 Eag.Sch.fin)))))))))))) [10] (by kernel_rfl) (by kernel_rfl) (fun K ops hops hK => ?_);iterate 8
    refine Eag.mov hops rfl rfl (fun w' hb => ?_) ?_
    ·have q0:=later hb x0;have q1:=later hb x1;clear hb;go_simp
    go_simp
   refine Eag.anc hops rfl rfl ?_;go_wp2_with fail;refine(heads_any A a _ (HdA4.out.later (Below.refl _ _).drew) hp1).mono ?_;rintro e w5 ⟨v5,rfl,hr5,hb5⟩;refine⟨hb5,?_⟩;have HR5:=Hy hr5;have HB5:Hid (Below w4.heap.size w4 w5):=(Below.refl _ w4).drew.trans hb5;clear hr5 hb5 x0 x1;refine Eag.anc hops rfl rfl ?_;go_wp2_with fail;refine(heads_any B b w5 (HdB4.out.later HB5.out) hp2).mono ?_
   rintro e w6 ⟨v6,rfl,hr6,hb6⟩;refine⟨hb6,?_⟩;have HR56:=Hy (HR5.out.later hb6);have hsz5:=HB5.out.size;have hsz6:=hb6.size;have HB6:Hid (Below w4.heap.size w4 w6):=HB5.out.trans (hb6.mono hsz5);clear hb6 HR5;refine Eag.anc hops rfl rfl ?_;obtain⟨a6,c6,e6,hsl6,hne6⟩:=hr6.form;obtain⟨g6,ea6,hg6,hg6l⟩:=hne6 (by intro e;rw[e]at hlB;simp at hlB;omega);subst ea6;subst e6
   refine appS_op 135 5 i0 _ 1 Tryz.underlying135 hi hz0 hz1 hz2 rfl (by omega) _ _ rfl w4.heap.size _ _ rfl HR56.out _ _ _ (B.heads.map byteV) rfl rfl hsl6 ?c1 ?c2 (by omega) ?c3
   case c1=>intro u hu;obtain⟨b,_,rfl⟩:=List.mem_map.1 hu;rfl
   case c2=>rw[hlA,hlB];omega
   case c3=>
    intro v7 w7 hr7 hb7;refine⟨.inl rfl,?_⟩;rw[←List.map_append]at hr7;have HR7:=Hy hr7;have HB7:Hid (Below w4.heap.size w4 w7):=HB6.out.trans hb7;have hsz7:=HB7.out.size;clear hb7 hr7 hsl6 hr6 hne6 HR56;iterate 1
     refine Eag.mov hops rfl rfl (fun w' hb => ?_) ?_
     ·clear hb;go_simp
     go_simp
    refine Eag.fin (hK _ _ ?_);clear hK hops;go_simp;go_wp2_with fail;have hne7:A.heads++B.heads≠[]:=by
     intro e;have h1:=congrArg List.length e;rw[List.length_append,List.length_nil]at h1;have h2:A.heads.length=A.parts.length:=by simp[Pv.Dfa.heads]
     omega
    have hlen7:(A.heads++B.heads).length≤12:=by simp[Pv.Dfa.heads];omega
    obtain⟨g,cap,sp,ev7,hg7,hh7,hcap7⟩:=HR7.out.bytes hne7;have hsl7:=Pv.sortB_len (A.heads++B.heads);have hch:Pv.catHeads A B=Pv.compactB (Pv.sortB (A.heads++B.heads)):=rfl;generalize A.heads++B.heads=L at *;have hso:=bsort_any g cap L sp w7 hh7 hlen7;subst ev7;have HSo:=Hy hso;clear hso hh7 HR7;refine HSo.out.mono ?_;rintro e w8 ⟨rfl,hh8,hk8⟩
    have hco:=bcompact_any g cap (Pv.sortB L) sp w8 hh8 (by omega) (by omega);rw[hsl7]at hco;have HCo:=Hy hco;have HK8:=Hy hk8;clear hco hk8 hh8 HSo;go_wp2_with fail;refine HCo.out.mono ?_;rintro e w9 ⟨rfl,⟨sp9,hh9⟩,hk9⟩;have hB9:Below w4.heap.size w4 w9:=((Keep.of_below HB7.out (H:=(· = g))).trans (HK8.out.trans hk9)).below (Nat.le_refl _) fun k e=>by rw[e];exact hg7
    rw[←hch]at hh9 ⊢;obtain⟨hs,hhs⟩:∃hs,Pv.catHeads A B=hs:=⟨_,rfl⟩
    rw[hhs]at hh9 ⊢;obtain⟨harr,hharr⟩:∃harr,bRow hs sp9=harr:=⟨_,rfl⟩
    rw[hharr]at hh9;have hlhs:hs.length≤12:=by rw[←hhs,hch];exact Nat.le_trans (Pv.compactB_len _) (by omega)
    have HHs:=Hy hhs;have HHarr:=Hy hharr;have haw3:=HdA3.out.lt;have hbw3:=HdB.out.lt;have hsz9:=hB9.size;have hok:=HAok.out;have hok2:=HBok.out;have hsr9:SrAt (fun k=>k=w.heap.size+1+1∨k=a∨k=b∨k=w.heap.size+1∨k=bb) w9.heap.size w9 (w.heap.size+1+1) a b (w.heap.size+1) bb A B (.slice none 0 0) (.slice none 0 0) [] l2 (u+(l-l2)):={
     sr:=later_blk hB9 HS4.out
     da:=(HdA4.out.later hB9).widen fun k hk=>by
      have hb2:=H2b.out;rcases hk with(hk|hk|hk|hk|hk)|hk|hk
      ·exact .inl (.inl (by rw[hk];exact hb2.2.2.1))
      ·exact .inl (.inl (by rw[hk];exact hb2.2.2.2))
      ·exact .inl (.inr hk)
      ·exact .inl (.inl (by rw[hk];exact hb2.2.1))
      ·exact .inl (.inl (by rw[hk];exact hb2.1))
      ·cases hk
      ·cases hk
     db:=(HdB4.out.later hB9).widen fun k hk=>by
      have hb2:=H2b.out;rcases hk with(hk|hk|hk|hk|hk)|hk|hk
      ·exact .inl (.inl (by rw[hk];exact hb2.2.2.1))
      ·exact .inl (.inl (by rw[hk];exact hb2.2.2.2))
      ·exact .inl (.inr hk)
      ·exact .inl (.inl (by rw[hk];exact hb2.2.1))
      ·exact .inl (.inl (by rw[hk];exact hb2.1))
      ·cases hk
      ·cases hk
     m:=(MapAt.new HM4.out).later hB9
     list:=World.ownsRow_nil _ _ _ _
     steps:=World.ownsRow_nil _ _ _ _
     bud:=HB4.out.later hB9
     hh:=⟨.inl rfl,.inr (.inl rfl),.inr (.inr (.inl rfl)),.inr (.inr (.inr (.inl rfl))),.inr (.inr (.inr (.inr rfl)))⟩
     ab:=by omega
     hlt:=fun k hk=>by rcases hk with hk|hk|hk|hk|hk<;>omega }
    have hcs:CS (fun k=>k=w.heap.size+1+1∨k=a∨k=b∨k=w.heap.size+1∨k=bb) w9.heap.size bb (l2+(u+(l-l2))) l2 w.heap.size g harr w (w.heap.size+1+1) a b (w.heap.size+1) A B w9 [] l2:={
     ex:=⟨_,_,_,hsr9,rfl⟩
     kp:=HKw4.out.trans (Keep.of_below hB9)
     ok:=fun y hy=>by cases hy
     hg:=hh9
     rr:=later_blk hB9 HR4.out
     sum:=rfl
     lo:=by refine⟨?_,?_,?_,?_,?_,?_⟩<;>omega
     hA:=⟨hok.1,hok2.1,by omega,by omega,by omega⟩
     gd:=fun i y st h=>by simp at h }
    have HCS:=Hy hcs;have hfin:Pv.ambigCat x y l=match Pv.addSpot ⟨0,0,0,false⟩ ⟨-1,0,false⟩ [] l2 with
      | none=>(l2,none)
      | some (t,l)=>Pv.catGo A B hs (l+2) 0 t l:=by
     unfold Pv.ambigCat;rw[HBe.out];simp only;rw[HBe2.out];simp only;rw[HHs.out];rcases Pv.addSpot ⟨0,0,0,false⟩ ⟨-1,0,false⟩ [] l2 with _|⟨t,l⟩<;>rfl
    have hsp0:SpotOk A B ⟨0,0,0,false⟩∧(⟨0,0,0,false⟩:Pv.Spot).q<549755813888:=⟨⟨by simp,fun _=>hok.1.pos,fun e=>by simp at e,fun e=>by simp at e⟩,by simp⟩
    have HFin:=Hy hfin;have HSp0:=Hy hsp0;clear hk9 hh9 hsr9 hcs hfin hsp0 HK8 HCo hB9 HB7 HB6 HB5 HdA HdA2 HdA3 HdA4 HdB HdB4 HB1 HB2 HB3 HB4 HBe HBe2 HKw1 HKw2 HKw4 HS1 HS2 HS3 HS4 HR2 HR3 HR4 HM2 HM3 HM4 HK1 HK3 HY2 HT2 H1of H1lt H1b H2lt H2b HBa HRa HMa HSa HX HY HT HBud HHd HH HAok HBok;clear hhs hharr hch;go_wp2_with fail;cases h0:Pv.addSpot ⟨0,0,0,false⟩ ⟨-1,0,false⟩ [] l2 with
    | none=>
      have hfin:=HFin.out;rw[h0]at hfin;have hR:=R1.out;rw[hfin]at hR;have HR:=Hy hR;have hadd:=cs_add_none HCS.out ⟨0,0,0,false⟩ ⟨-1,0,false⟩ HSp0.out h0;have HAdd:=Hy hadd;clear hR hfin hadd;refine HAdd.out.mono ?_;rintro e w10 ⟨rfl,hb10,hk10,hr10⟩;have r0:=cB (o:=0) hr10 rfl;have r1:=cB (o:=1) hr10 rfl;have r2:=cB (o:=2) hr10 rfl;have fr:∀o,w10.frozen? ⟨w.heap.size,o,none⟩=false:=fun o=>fob hr10
      rw[show l2+(u+(l-l2))-l2=u+(l-l2) by omega]at hb10;have HB10:=Hy hb10;have HK10:=Hy hk10;clear hb10 hk10 hr10;go_wp2_with fail;refine bodyPost_ret (v:= .tuple #[.agg #[Str [],.int .i64 0,.int .i64 0],.bool false,.int .i64 5]) ?_ rfl (cat_end (fun w'=>HR.out w' trivial) HB10.out HK10.out (Nat.le_refl _) (by omega));simp[results,Tryz.results147,go_sem,r0,r1,r2]
    | some q=>
      obtain⟨tr0,l3⟩:=q;have hfin:=HFin.out;rw[h0]at hfin;simp only at hfin;have hadd:=cs_add_some HCS.out ⟨0,0,0,false⟩ ⟨-1,0,false⟩ HSp0.out h0 (Pv.good_first h0);have hc0:=Pv.addSpot_cases h0;have hlen0:tr0.length=1∧l2=l3+1:=by
       rcases hc0 with⟨e1,e2⟩|⟨e1,e2⟩
       ·unfold Pv.addSpot at h0;simp at h0;obtain⟨_,h0,h1⟩:=h0;rw[←h0];simp;omega
       ·rw[e1];exact⟨rfl,e2⟩
      have HAdd:=Hy hadd;have HF:=Hy hfin;clear hfin hadd hc0 h0 HFin;refine HAdd.out.mono ?_;rintro e w10 ⟨rfl,hcs10⟩;have HC10:=Hy hcs10;clear hcs10 HCS HAdd;go_wp2_with fail
      go_loopw [12] (fun i wr=>∃(k:Nat) (tr:Pv.Trail) (lc f:Nat),i = .int .i64 k∧k≤tr.length∧0<tr.length∧tr.length≤l2∧lc+1≤f∧(k<tr.length→lc+2≤f)∧Hid (CS (fun k=>k=w.heap.size+1+1∨k=a∨k=b∨k=w.heap.size+1∨k=bb) w9.heap.size bb (l2+(u+(l-l2))) l2 w.heap.size g harr w (w.heap.size+1+1) a b (w.heap.size+1) A B wr tr lc)∧Hid (Pv.catGo A B hs f k tr lc=Pv.ambigCat x y l)) (fun i _=>(l2-intOf i).toNat)
      case atStart=>exact⟨0,tr0,l3,l3+2,rfl,by omega,by omega,by omega,by omega,fun _=>by omega,HC10.out,HF.out.symm⟩
      case round=>
       obtain⟨k,tr,lc,f,rfl,hk,hpos,hl2,hf1,hf2,HC,HG⟩:=hrel;clear HC10 HF;obtain⟨gl,capl,hcl,hcs⟩:=HC.out.spots hpos;have hsum:=HC.out.sum;by_cases hlt:k<tr.length
       ·obtain⟨f',rfl⟩:∃f',f=f'+1:=⟨f-1,by omega⟩
        have hf3:=hf2 hlt;have hG:=HG.out;rw[Pv.catGo_lt hlt]at hG;have HG1:=Hy hG;have hlt':(k:Int)<tr.length:=by omega
        have HCs:=Hy hcs;clear hG HG hcs;go_wp2_with fail
        go_loopw [13] (fun i wr=>∃(j:Nat) (tr:Pv.Trail) (lc:Nat),i = .int .i64 j∧k≤j∧j≤tr.length∧k<tr.length∧tr.length≤l2∧lc+1≤f'∧Hid (CS (fun k=>k=w.heap.size+1+1∨k=a∨k=b∨k=w.heap.size+1∨k=bb) w9.heap.size bb (l2+(u+(l-l2))) l2 w.heap.size g harr w (w.heap.size+1+1) a b (w.heap.size+1) A B wr tr lc)∧Hid (Pv.catK1 A B hs f' k (Pv.catFree A (lc+tr.length+1-j) j tr lc)=Pv.ambigCat x y l)) (fun i _=>(l2-intOf i).toNat)
        case atStart=>exact⟨k,tr,lc,rfl,by omega,by omega,hlt,by omega,by omega,HC.out,HG1.out⟩
        case round=>
         clear HC HG1 HCs hcl hsum hpos hl2 hk hf1 hf2 hf3 hlt hlt';obtain⟨j,tr,lc,rfl,hkj,hj,hktr,hl2,hf3,HC,HG⟩:=hrel;have hsum:=HC.out.sum;obtain⟨gl,capl,hcl,hcs⟩:=HC.out.spots (by omega);by_cases hjt:j<tr.length
         ·obtain⟨xs,hxs⟩:∃xs,tr[j]?=some xs:=⟨tr[j],List.getElem?_eq_getElem hjt⟩
          obtain⟨sx,sst⟩:=xs;obtain⟨c0,c1,c2,c3⟩:=hcs j sx sst hxs;have hjt':(j:Int)<tr.length:=by omega
          have HXs:=Hy hxs;clear hcs hxs;cases hfo:Pv.freeOf A sx with
          | none=>
            have hfv:freeV A sx=(⟨0,0,0,false⟩,false):=by unfold freeV;rw[hfo]
            have hfree:=cs_free HC.out sx _ _ hfv;have HFree:=Hy hfree;clear hfree hfv;have hG2:=HG.out;rw[Pv.catFree_skip HXs.out hfo]at hG2;have HG2:=Hy hG2;clear hG2 hfo;go_wp2_with fail;refine HFree.out.mono ?_;rintro e w11 ⟨rfl,hc11⟩;have HC11:=Hy hc11;clear hc11 HFree c0 c1 c2 c3 hcl;go_wp2_with fail;go_roundw
            case rel=>exact⟨j+1,tr,lc,by go_num,by omega,by omega,hktr,hl2,hf3,HC11.out.later ((Below.refl _ _).alloc (Nat.le_refl _) _),HG2.out⟩
            case measure=>simp[intOf];omega
          | some sy=>
            have hfv:freeV A sx=(sy,true):=by unfold freeV;rw[hfo]
            have hfree:=cs_free HC.out sx _ _ hfv;have hxok:=HC.out.ok _ (List.mem_of_getElem? HXs.out);have hsy:=freeOf_ok HC.out.hA.2.1 hfo hxok.1 hxok.2;have HFree:=Hy hfree;have HSy:=Hy hsy;have HFo:=Hy hfo;clear hfree hfv hsy hxok hfo;go_wp2_with fail;refine HFree.out.mono ?_;rintro e w11 ⟨rfl,hc11⟩;have HC11:=Hy hc11;clear hc11 HFree c0 c1 c2 c3 hcl;go_wp2_with fail
            have hbl:=(Below.refl w11.heap.size w11).alloc (Nat.le_refl _) (.cells #[.int .i64 (sy.phase:Int),.int .i64 (sy.p:Int),.int .i64 (sy.q:Int),.bool sy.moved] 271);have hc12:=HC11.out.later hbl;cases ha:Pv.addSpot sy ⟨j,0,true⟩ tr lc with
            | none=>
              have hG2:=HG.out;rw[Pv.catFree_none HXs.out HFo.out ha]at hG2;have hR:=R1.out;rw[←hG2]at hR;have HR:=Hy hR;have HAdd:=Hy (cs_add_none hc12 sy ⟨j,0,true⟩ HSy.out ha);clear hG2 hR ha hc12 hbl;refine HAdd.out.mono ?_;rintro e wE ⟨rfl,hbE,hkE,hrE⟩;have r0:=cB (o:=0) hrE rfl;have r1:=cB (o:=1) hrE rfl;have r2:=cB (o:=2) hrE rfl;have fr:∀o,wE.frozen? ⟨w.heap.size,o,none⟩=false:=fun o=>fob hrE
              rw[show l2+(u+(l-l2))-lc=u+(l-lc) by omega]at hbE;have HBE:=Hy hbE;have HKE:=Hy hkE;clear hbE hkE hrE HAdd;go_wp2_with fail;refine bodyPost_ret (v:= .tuple #[.agg #[Str [],.int .i64 0,.int .i64 0],.bool false,.int .i64 5]) ?_ rfl (cat_end (fun w'=>HR.out w' (by trivial)) HBE.out HKE.out (Nat.le_refl _) (by omega));simp[results,Tryz.results147,go_sem,r0,r1,r2]
            | some q=>
              obtain⟨tr',lc'⟩:=q;have hG2:=HG.out;rw[Pv.catFree_some HXs.out HFo.out ha]at hG2;have hsm:=Pv.addSpot_sum ha;have HG2:=Hy hG2;have HAdd:=Hy (cs_add_some hc12 sy ⟨j,0,true⟩ HSy.out ha (hc12.gd.add HXs.out (.inl ⟨rfl,HFo.out⟩) ha));clear hG2 ha hc12 hbl;refine HAdd.out.mono ?_;rintro e w12 ⟨rfl,hc13⟩;have HC13:=Hy hc13;clear hc13 HAdd;go_wp2_with fail;go_roundw
              case rel=>exact⟨j+1,tr',lc',by go_num,by omega,by omega,by omega,by have:=HC13.out.sum;omega,by omega,HC13.out,HG2.out⟩
              case measure=>simp[intOf];omega
         ·have e:j=tr.length:=by omega
          have hG:=HG.out;rw[Pv.catFree_end e]at hG;have HG2:Hid (Pv.catK2 A B hs f' k tr lc=Pv.ambigCat x y l):=hG;clear hG HG hcs;subst e;go_wp2_with fail
          go_loopw [17] (fun i wr=>∃(j:Nat),i = .int .i64 j∧k≤j∧j≤tr.length∧Hid (CS (fun k=>k=w.heap.size+1+1∨k=a∨k=b∨k=w.heap.size+1∨k=bb) w9.heap.size bb (l2+(u+(l-l2))) l2 w.heap.size g harr w (w.heap.size+1+1) a b (w.heap.size+1) A B wr tr lc)∧Hid (Pv.catFind B tr (tr.length-j) j=Pv.catFind B tr (tr.length-k) k)) (fun i _=>(tr.length-intOf i).toNat)
          case atStart=>exact⟨k,rfl,by omega,by omega,HC.out,rfl⟩
          case round=>
           clear HC hcl;obtain⟨j,rfl,hkj,hj,HC,HFd⟩:=hrel;obtain⟨gl,capl,hcl,hcs⟩:=HC.out.spots (by omega);by_cases hjt:j<tr.length
           ·obtain⟨xs,hxs⟩:∃xs,tr[j]?=some xs:=⟨tr[j],List.getElem?_eq_getElem hjt⟩
            obtain⟨⟨ph,p,q,mv⟩,sst⟩:=xs;obtain⟨c0,c1,c2,c3⟩:=hcs j _ sst hxs;simp only at c0 c1 c2 c3;have hjt':(j:Int)<tr.length:=by omega
            by_cases htw:Pv.isTwo B ⟨ph,p,q,mv⟩=true
            ·skip
             have h1:=Pv.catFind_hit (B:=B) hxs rfl htw;rw[HFd.out]at h1;have h2:=HG2.out;unfold Pv.catK2 at h2;rw[h1]at h2;simp only at h2;have hpl:=Pv.good_two HC.out.gd hxs htw;have htl:=HC.out.len_lt
             have htwo:∀W,Below wr.heap.size wr W→Calls Tryz.prog 182 #[Ptr (w.heap.size+1+1),.int .i64 (j:Int)] W fun e w'=>e = .returned (.agg #[Str (Pv.twoOf tr j).text,.int .i64 (Pv.twoOf tr j).i,.int .i64 (Pv.twoOf tr j).j])∧CS (fun k=>k=w.heap.size+1+1∨k=a∨k=b∨k=w.heap.size+1∨k=bb) w9.heap.size bb (l2+(u+(l-l2))) l2 w.heap.size g harr w (w.heap.size+1+1) a b (w.heap.size+1) A B w' tr lc:=fun W hb=>by
              obtain⟨lv,sv,u',hsr,_⟩:=HC.out.ex;obtain⟨gs,caps,h4,hst⟩:=hsr.stepsAt (by omega);refine(two_any tr (Pv.good_from HC.out.gd) j hjt hpl htl _ gs caps W (later hb h4) (hst.later hb)).mono ?_;rintro e w' ⟨h,hb2⟩;exact⟨h,HC.out.later (hb.trans (hb2.mono hb.size))⟩
             have hR:=R3.out (Pv.twoOf tr j);rw[←h2]at hR;have hy:∀(z:Nat) W,Below wr.heap.size wr W→Pure 181 #[Ptr b,.int .i64 (z:Int)] W (.bool (B.isYes z)):=fun z W hb=>by obtain⟨_,_,_,_,h⟩:=(HC.out.later hb).sr;exact yes_any B b z W h
             have hx1:∀W,Below wr.heap.size wr W→W.cell? ⟨w.heap.size+1+1,1,none⟩=some (Ptr b):=fun W hb=>by obtain⟨_,_,h,_,_⟩:=(HC.out.later hb).sr;exact cB (o:=1) h rfl
             have hyy:ph=2∧B.isYes p=true∧B.isYes q=true:=by unfold Pv.isTwo at htw;simp only[Bool.and_eq_true,beq_iff_eq]at htw;exact⟨htw.1.1,htw.1.2,htw.2⟩
             obtain⟨hph,hp,hq⟩:=hyy;have HPh:=Hy hph;obtain⟨Y,hY⟩:∃Y:Nat→Bool,B.isYes=Y:=⟨_,rfl⟩
             have HYn:Hid (∀(z:Nat) W,Below wr.heap.size wr W→Pure 181 #[Ptr b,.int .i64 (z:Int)] W (.bool (Y z))):=fun z W hb=>by rw[←hY];exact hy z W hb
             rw[hY]at hp hq;have HP:=Hy hp;have HQ:=Hy hq;have HX1:=Hy hx1;have HTwo:=Hy htwo;have HR:=Hy hR;have HW2:Hid ((lc,some (some (Pv.twoOf tr j)))=Pv.ambigCat x y l):=h2;clear hcs hxs HFd HG2 hy hx1 hp hq h1 h2 hpl htwo hR htw hph hY;generalize Pv.twoOf tr j=t2 at *;go_wp2_with fail;obtain⟨wA,hwA⟩:∃wA,wr.alloc (.cells #[.int .i64 (ph:Int),.int .i64 (p:Int),.int .i64 (q:Int),.bool mv] 271)=wA:=⟨_,rfl⟩
             have hbA:Below wr.heap.size wr wA:=by rw[←hwA];exact(Below.refl _ _).alloc (Nat.le_refl _) _
             have hbx:wA.heap[wr.heap.size]?=some (.cells #[.int .i64 (ph:Int),.int .i64 (p:Int),.int .i64 (q:Int),.bool mv] 271):=by rw[←hwA];exact blk_new rfl
             rw[hwA];clear hwA c0 c1 c2 c3 hcl;have hph:=HPh.out;clear HPh;subst hph;have y0:wA.cell? ⟨wr.heap.size,0,none⟩=some (.int .i64 2):=cB hbx rfl;have y1:wA.cell? ⟨wr.heap.size,1,none⟩=some (.int .i64 (p:Int)):=cB hbx rfl;have y2:wA.cell? ⟨wr.heap.size,2,none⟩=some (.int .i64 (q:Int)):=cB hbx rfl;have x1:=HX1.out _ hbA;have HBA:=Hy hbA;clear hbx hbA HX1;have hp:=HP.out;have hq:=HQ.out
             go_quiet ((go_at_call 181;refine Calls.quiet_of_same ((HYn.out _ _ (below_drewN HBA.out _)).mono fun _ _ h=>⟨h.1,h.2.symm⟩)));clear hp hq;go_wp2_with fail;refine(HTwo.out _ (by first|exact below_drewN HBA.out _|exact(below_drewN HBA.out _).drew)).mono ?_;rintro e wT ⟨rfl,hcT⟩;have hbd:=hcT.bud;rw[show l2+(u+(l-l2))-lc=u+(l-lc) by have:=hcT.sum;omega]at hbd;have hrr:=hcT.rr
             have r0:=cB (o:=0) hrr rfl;have r1:=cB (o:=1) hrr rfl;have r2:=cB (o:=2) hrr rfl;have fr:∀o,wT.frozen? ⟨w.heap.size,o,none⟩=false:=fun o=>fob hrr
             have HBd:=Hy hbd;have HCT:=Hy hcT;clear hrr hbd hcT HTwo HYn y0 y1 y2 x1;go_wp2_with fail;refine bodyPost_ret (v:= .tuple #[.agg #[Str t2.text,.int .i64 t2.i,.int .i64 t2.j],.bool true,.int .i64 0]) ?_ rfl (cat_end (fun w'=>HR.out w' trivial) HBd.out HCT.out.kp (Nat.le_refl _) (by omega));simp[results,Tryz.results147,go_sem,r0,r1,r2,Str]
            have hno2:Pv.isTwo B ⟨ph,p,q,mv⟩=false:=by simpa using htw
            have hFd:=HFd.out;rw[Pv.catFind_miss hxs hno2]at hFd;have HFd2:=Hy hFd;have hy:∀(z:Nat) W,Below wr.heap.size wr W→Pure 181 #[Ptr b,.int .i64 (z:Int)] W (.bool (B.isYes z)):=fun z W hb=>by obtain⟨_,_,_,_,h⟩:=(HC.out.later hb).sr;exact yes_any B b z W h
            have hx1:∀W,Below wr.heap.size wr W→W.cell? ⟨w.heap.size+1+1,1,none⟩=some (Ptr b):=fun W hb=>by obtain⟨_,_,h,_,_⟩:=(HC.out.later hb).sr;exact cB (o:=1) h rfl
            have HYs:=Hy hy;have HX1:=Hy hx1;clear hcs hxs hFd HFd hy hx1;go_wp2_with fail;obtain⟨wA,hwA⟩:∃wA,wr.alloc (.cells #[.int .i64 (ph:Int),.int .i64 (p:Int),.int .i64 (q:Int),.bool mv] 271)=wA:=⟨_,rfl⟩
            have hbA:Below wr.heap.size wr wA:=by rw[←hwA];exact(Below.refl _ _).alloc (Nat.le_refl _) _
            have hbx:wA.heap[wr.heap.size]?=some (.cells #[.int .i64 (ph:Int),.int .i64 (p:Int),.int .i64 (q:Int),.bool mv] 271):=by rw[←hwA];exact blk_new rfl
            rw[hwA];clear hwA c0 c1 c2 c3 hcl;have y0:wA.cell? ⟨wr.heap.size,0,none⟩=some (.int .i64 (ph:Int)):=cB hbx rfl;have y1:wA.cell? ⟨wr.heap.size,1,none⟩=some (.int .i64 (p:Int)):=cB hbx rfl;have y2:wA.cell? ⟨wr.heap.size,2,none⟩=some (.int .i64 (q:Int)):=cB hbx rfl;have x1:=HX1.out _ hbA;have HBA:=Hy hbA;clear hbx hbA HX1;unfold Pv.isTwo at hno2;simp only at hno2;by_cases hph:ph=2
            ·subst hph;replace y0:wA.cell? ⟨wr.heap.size,0,none⟩=some (.int .i64 2):=y0;cases hp:B.isYes p with
             | false=>
               have HYp:Hid (∀W,Below wr.heap.size wr W→Pure 181 #[Ptr b,.int .i64 (p:Int)] W (.bool false)):=fun W hb=>by have:=HYs.out p W hb;rw[hp]at this;exact this
               clear hno2 HYs hp;go_quiet ((go_at_call 181;refine Calls.quiet_of_same ((HYp.out _ (below_drewN HBA.out _)).mono fun _ _ h=>⟨h.1,h.2.symm⟩)));go_wp2_with fail;go_roundw
               case rel=>exact⟨j+1,by go_num,by omega,by omega,HC.out.later (below_drewN HBA.out _),HFd2.out⟩
               case measure=>simp[intOf];omega
             | true=>
               have hq:B.isYes q=false:=by rw[hp]at hno2;simpa using hno2
               clear hno2;obtain⟨Y,hY⟩:∃Y:Nat→Bool,B.isYes=Y:=⟨_,rfl⟩
               have HYn:Hid (∀(z:Nat) W,Below wr.heap.size wr W→Pure 181 #[Ptr b,.int .i64 (z:Int)] W (.bool (Y z))):=fun z W hb=>by rw[←hY];exact HYs.out z W hb
               rw[hY]at hp hq;clear HYs hY;go_quiet ((go_at_call 181;refine Calls.quiet_of_same ((HYn.out _ _ (below_drewN HBA.out _)).mono fun _ _ h=>⟨h.1,h.2.symm⟩)));go_wp2_with fail;go_roundw
               case rel=>exact⟨j+1,by go_num,by omega,by omega,HC.out.later (below_drewN HBA.out _),HFd2.out⟩
               case measure=>simp[intOf];omega
            ·have hz:((ph:Int)==2)=false:=by simp;omega
             clear hno2 HYs;go_quiet (fail);go_wp2_with fail;go_roundw
             case rel=>exact⟨j+1,by go_num,by omega,by omega,HC.out.later (below_drewN HBA.out _),HFd2.out⟩
             case measure=>simp[intOf];omega
           ·have e:j=tr.length:=by omega
            have hFd:=HFd.out;rw[e,Nat.sub_self,Pv.catFind_end]at hFd;have hG:=HG2.out;unfold Pv.catK2 at hG;rw[←hFd]at hG;simp only at hG;have HG3:=Hy hG;clear hG hFd HFd HG2 hcs hcl;obtain⟨U,hU⟩:∃U,tr.length=U:=⟨_,rfl⟩
            rw[hU]at HG3 hl2 hktr hj e hsum ⊢;have hUt:U≤tr.length:=by omega
            subst e;go_wp2_with fail
            go_loopw [19] (fun i wr=>∃(n:Nat) (tr:Pv.Trail) (lc:Nat),i = .int .i64 n∧k≤n∧n≤j∧j≤tr.length∧tr.length≤l2∧lc+1≤f'∧(j<tr.length→lc+2≤f')∧Hid (CS (fun k=>k=w.heap.size+1+1∨k=a∨k=b∨k=w.heap.size+1∨k=bb) w9.heap.size bb (l2+(u+(l-l2))) l2 w.heap.size g harr w (w.heap.size+1+1) a b (w.heap.size+1) A B wr tr lc)∧Hid (Pv.catK3 A B hs f' j (Pv.catMore A B hs (j-n) n tr lc)=Pv.ambigCat x y l)) (fun i _=>(j-intOf i).toNat)
            case atStart=>exact⟨k,tr,lc,rfl,by omega,by omega,by omega,by omega,hf3,fun h=>by omega,HC.out,HG3.out⟩
            case round=>
             clear HC HG3 hf3 hl2 hsum hU hUt;obtain⟨n,tr,lc,rfl,hkn,hnj,hjt,hl2,hf3,hf4,HC,HG⟩:=hrel;by_cases hn:n<j
             ·obtain⟨xs,hxs⟩:∃xs,tr[n]?=some xs:=⟨tr[n]'(by omega),List.getElem?_eq_getElem (by omega)⟩
              obtain⟨sx,sst⟩:=xs;have hG:=HG.out;rw[show j-n=(j-(n+1))+1 by omega,Pv.catMore_step hxs]at hG;have HG2:=Hy hG;have hn':(n:Int)<j:=by omega
              have HXs:=Hy hxs;clear hG HG hxs;go_wp2_with fail
              go_loopw [166] (fun i wr=>∃(m:Nat) (tr:Pv.Trail) (lc:Nat),i = .int .i64 m∧m≤hs.length∧j≤tr.length∧tr.length≤l2∧lc+1≤f'∧(j<tr.length→lc+2≤f')∧Hid (tr[n]?=some (sx,sst))∧Hid (CS (fun k=>k=w.heap.size+1+1∨k=a∨k=b∨k=w.heap.size+1∨k=bb) w9.heap.size bb (l2+(u+(l-l2))) l2 w.heap.size g harr w (w.heap.size+1+1) a b (w.heap.size+1) A B wr tr lc)∧Hid (Pv.catK3 A B hs f' j (Pv.catK4 A B hs (j-(n+1)) (n+1) (Pv.catBytes A B n sx (hs.drop m) tr lc))=Pv.ambigCat x y l)) (fun i _=>(hs.length-intOf i).toNat)
              case atStart=>exact⟨0,tr,lc,rfl,by omega,by omega,by omega,hf3,hf4,HXs.out,HC.out,HG2.out⟩
              case round=>
               clear HC HG2 HXs hf3 hf4 hl2 hjt;obtain⟨m,tr,lc,rfl,hm,hjt,hl2,hf3,hf4,HXs,HC,HG⟩:=hrel;by_cases hmh:m<hs.length
               ·have hmh':(m:Int)<hs.length:=by omega
                obtain⟨gl,capl,hcl,hcs⟩:=HC.out.spots (by omega);obtain⟨c0,c1,c2,c3⟩:=hcs n sx sst HXs.out;have hnt:(n:Int)<tr.length:=by omega
                obtain⟨hb,hhb⟩:∃hb,hs[m]=hb:=⟨_,rfl⟩
                have hdrop:=List.drop_eq_getElem_cons hmh;rw[hhb]at hdrop;have hgm:hs[m]?=some hb:=by rw[List.getElem?_eq_getElem hmh,hhb]
                have hgc:=HC.out.hg;rw[←HHarr.out]at hgc;have ch:=cB hgc (bRow_get hgm);have hxok:=HC.out.ok _ (List.mem_of_getElem? HXs.out);have hhb256:hb.toNat<256:=hb.toNat_lt;have hA:=HC.out.hA;have hbyo:=byV_ok hA.1 hA.2.1 hA.2.2.1 hA.2.2.2.1 hb.toNat hxok.1;have hby:=cs_by HC.out sx hxok.1 hb.toNat hhb256;have hbe:=byOf_eq A B sx hb;have hG:=HG.out;rw[hdrop]at hG;have HGd:=Hy hG;have HByo:=Hy hbyo
                have HBe:=Hy hbe;generalize hbv:byV A B sx hb.toNat=bv at *;obtain⟨sy,ok⟩:=bv;have HBy:=Hy hby;clear hG HG hdrop hhb hgm hgc hxok hA hbyo hby hbe hbv hcs;go_wp2_with fail;refine HBy.out.mono ?_;rintro e w11 ⟨rfl,hc11⟩;have HC11:=Hy hc11;clear hc11 HBy c0 c1 c2 c3 hcl ch;cases ok with
                | false=>
                  have hbn:Pv.byOf A B sx hb=none:=by rw[HBe.out];rfl
                  have hG:=HGd.out;rw[Pv.catBytes_skip hbn]at hG;have HG2:=Hy hG;clear hG HGd hbn HBe HByo;go_wp2_with fail;go_roundw
                  case rel=>exact⟨m+1,tr,lc,by go_num,by omega,hjt,hl2,hf3,hf4,HXs.out,HC11.out.later ((Below.refl _ _).alloc (Nat.le_refl _) _),HG2.out⟩
                  case measure=>simp[intOf];omega
                | true=>
                  have hbn:Pv.byOf A B sx hb=some sy:=by rw[HBe.out];rfl
                  have HBn:=Hy hbn;clear hbn HBe;go_wp2_with fail;have hbl:=(Below.refl w11.heap.size w11).alloc (Nat.le_refl _) (.cells #[.int .i64 (sy.phase:Int),.int .i64 (sy.p:Int),.int .i64 (sy.q:Int),.bool sy.moved] 271);have hc12:=HC11.out.later hbl;have hsy:SpotOk A B sy∧sy.q<549755813888:=HByo.out;cases ha:Pv.addSpot sy ⟨n,hb,false⟩ tr lc with
                  | none=>
                    have hG:=HGd.out;rw[Pv.catBytes_none HBn.out ha]at hG;have hG2:(lc,none)=Pv.ambigCat x y l:=hG;have hR:=R1.out;rw[←hG2]at hR;have HR:=Hy hR;have HAdd:=Hy (cs_add_none hc12 sy ⟨n,hb,false⟩ hsy ha);have hsum:=HC.out.sum;clear hG hG2 hR ha hc12 hbl hsy;refine HAdd.out.mono ?_;rintro e wE ⟨rfl,hbE,hkE,hrE⟩;have r0:=cB (o:=0) hrE rfl;have r1:=cB (o:=1) hrE rfl;have r2:=cB (o:=2) hrE rfl
                    have fr:∀o,wE.frozen? ⟨w.heap.size,o,none⟩=false:=fun o=>fob hrE
                    rw[show l2+(u+(l-l2))-lc=u+(l-lc) by omega]at hbE;have HBE:=Hy hbE;have HKE:=Hy hkE;clear hbE hkE hrE HAdd;go_wp2_with fail;refine bodyPost_ret (v:= .tuple #[.agg #[Str [],.int .i64 0,.int .i64 0],.bool false,.int .i64 5]) ?_ rfl (cat_end (fun w'=>HR.out w' (by trivial)) HBE.out HKE.out (Nat.le_refl _) (by omega));simp[results,Tryz.results147,go_sem,r0,r1,r2]
                  | some q=>
                    obtain⟨tr',lc'⟩:=q;have hG:=HGd.out;rw[Pv.catBytes_some HBn.out ha]at hG;have hsm:=Pv.addSpot_sum ha;have hsum:=HC.out.sum;have HG2:=Hy hG;have hxs2:=Pv.addSpot_get ha (i:=n) (by omega);rw[HXs.out]at hxs2;have HXs2:=Hy hxs2;have HAdd:=Hy (cs_add_some hc12 sy ⟨n,hb,false⟩ hsy ha (hc12.gd.add HXs.out (.inr ⟨rfl,HBn.out⟩) ha));clear hG HGd ha hc12 hbl hsy hxs2;refine HAdd.out.mono ?_
                    rintro e w12 ⟨rfl,hc13⟩;have HC13:=Hy hc13;clear hc13 HAdd;go_wp2_with fail;go_roundw
                    case rel=>exact⟨m+1,tr',lc',by go_num,by omega,by omega,by omega,by omega,fun _=>by omega,HXs2.out,HC13.out,HG2.out⟩
                    case measure=>simp[intOf];omega
               ·have e:m=hs.length:=by omega
                have hG:=HG.out;rw[e,List.drop_length,Pv.catBytes_end]at hG;have hG2:Pv.catK3 A B hs f' j (Pv.catMore A B hs (j-(n+1)) (n+1) tr lc)=Pv.ambigCat x y l:=hG;have HG2:=Hy hG2;clear hG hG2 HG;subst e;go_wp2_with fail;go_roundw
                case rel=>exact⟨n+1,tr,lc,by go_num,by omega,by omega,hjt,hl2,hf3,hf4,HC.out,HG2.out⟩
                case measure=>simp[intOf];omega
             ·have e:n=j:=by omega
              have hG:=HG.out;rw[e,Nat.sub_self,Pv.catMore_end]at hG;have hG2:Pv.catGo A B hs f' j tr lc=Pv.ambigCat x y l:=hG;have HG2:=Hy hG2;clear hG hG2 HG;subst e;go_wp2_with fail;go_roundw
              case rel=>exact⟨n,tr,lc,f',rfl,hjt,by omega,hl2,hf3,hf4,HC.out,HG2.out⟩
              case measure=>simp[intOf];omega
       ·have e:k=tr.length:=by omega
        obtain⟨f',rfl⟩:∃f',f=f'+1:=⟨f-1,by omega⟩
        have hG:=HG.out;rw[Pv.catGo_ge hlt]at hG;have hR:=R2.out;rw[←hG]at hR;have HR:=Hy hR;have hbd:=HC.out.bud;rw[show l2+(u+(l-l2))-lc=u+(l-lc) by omega]at hbd;have HBd:=Hy hbd;have hrr:=HC.out.rr;have r0:=cB (o:=0) hrr rfl;have r1:=cB (o:=1) hrr rfl;have r2:=cB (o:=2) hrr rfl;have fr:∀o,wr.frozen? ⟨w.heap.size,o,none⟩=false:=fun o=>fob hrr
        clear hrr hbd hR hG HG hcs;subst e;go_wp2_with fail;refine bodyPost_ret (v:= .tuple #[.agg #[Str [],.int .i64 0,.int .i64 0],.bool false,.int .i64 0]) ?_ rfl (cat_end (fun w'=>HR.out w' trivial) HBd.out HC.out.kp (Nat.le_refl _) (by omega));simp[results,Tryz.results147,go_sem,r0,r1,r2]
theorem acat_any (R:Ending→World→Prop)(x y:Pv.R)(bx by_ bb l u:Nat)(w:World)(hT:Tab w)(hx:ReAt H w x bx)(hy:ReAt H w y by_)(hbud:BudAt w bb l u)(hbb:H bb)(hH:∀h,H h→h<w.heap.size)
  (hsx:Pv.size x<549755813888) (hsy:Pv.size y<549755813888) (hl:l<274877906944)
  (hhd:∀A B l1,Pv.build x l=(l1,some A)→(Pv.build y l1).2=some B→A.parts.length+B.parts.length≤12) (hno:∀t,(Pv.ambigCat x y l).2≠some (some t))
  (r1:∀w',(Pv.ambigCat x y l).2=none→BudAt w' bb (Pv.ambigCat x y l).1 (u+(l-(Pv.ambigCat x y l).1))→Keep (· = bb) w w'→R (.returned (.tuple #[.agg #[Str [],.int .i64 0,.int .i64 0],.bool false,.int .i64 5])) w')
  (r2:∀w',(Pv.ambigCat x y l).2=some none→BudAt w' bb (Pv.ambigCat x y l).1 (u+(l-(Pv.ambigCat x y l).1))→Keep (· = bb) w w'→R (.returned (.tuple #[.agg #[Str [],.int .i64 0,.int .i64 0],.bool false,.int .i64 0])) w'):
  Calls Tryz.prog 147 #[Ptr bx,Ptr by_,Ptr bb] w R:=
 acat3_any R x y bx by_ bb l u w hT hx hy hbud hbb hH hsx hsy hl hhd r1 r2 fun t _ e=>absurd e (hno t)
end Go.Proofs.YtamkfdlcdiadlaaGreatDoor
