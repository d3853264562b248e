/- Canonizers: Canon, whatever term. -/
import Derived.Test.YtamkfdlcdiadlaaGreatDoorKb05
import Derived.Test.YtamkfdlcdiadlaaGreatDoorKb44
import Derived.Test.YtamkfdlcdiadlaaGreatDoorKb38
import Derived.Deep.DeepCutAuto
set_option linter.all false
namespace Pv
def addTo (done:List C):Ck × Option (List C)→Ck × Option (List C)
 | (c,none)=>(c,none)
 | (c,some l)=>(c,some (done++l))
theorem addTo_nil (x:Ck × Option (List C)):addTo [] x=x:=by obtain⟨c,_|l⟩:=x<;>rfl
theorem canonsOf_none {ts:List T}{j:Nat}(hj:j<ts.length){l:Nat}{c:Ck}(h:canonOf ts[j] { left:=l }=(c,none))(done:List C):addTo done (canonsOf (ts.drop j) { left:=l })=(c,none):=by rw[List.drop_eq_getElem_cons hj,canonsOf,h];rfl
theorem canonsOf_some' {ts:List T}{j:Nat}(hj:j<ts.length){l l1:Nat}{x:C}(h:canonOf ts[j] { left:=l }=({ left:=l1 },some x))(done:List C):addTo done (canonsOf (ts.drop j) { left:=l })=addTo (done++[x]) (canonsOf (ts.drop (j+1)) { left:=l1 }):=by
 rw[List.drop_eq_getElem_cons hj,canonsOf,h];simp only;rcases canonsOf (ts.drop (j+1)) { left:=l1 } with⟨c,_|l⟩
 ·rfl
 ·simp[addTo]
theorem Ck.side_none {l:Nat}{r:R}(h:(({ left:=l }:Ck).side r).2=none):(({ left:=l }:Ck).side r).1.fault.e≠0:=by
 have hq:({ left:=l }:Ck).side r=(match Pv.side r l with|(l,none)=>(({ left:=l,fault:={ e:=5 } }:Ck),none)|(l,some s)=>(({ left:=l }:Ck),some s)):=rfl;rw[hq]at h ⊢;generalize Pv.side r l=q at h ⊢;obtain⟨l',o⟩:=q;cases o with
 | none=>exact(by decide:(5:Nat)≠0)
 | some s=>exact absurd h (by simp)
theorem Ck.side_bad {c:Ck}(h:c.fault.e≠0)(r:R):c.side r=(c,none):=by unfold Ck.side;rw[show c.ok=false by simpa [Ck.ok] using h];rfl
theorem canonOf_eq (t:T)(c:Ck):canonOf t c=if !(shapedOf t.op t.re.isSome t.kids.length) || !(isCanonOp t.op) then(c.fail 8 (some t) false [],none) else match canonsOf t.kids c with
  | (c,none)=>(c,none)
  | (c,some kids)=>canonEnd t kids c:=by
 cases t;rw[canonOf];rfl
end Pv
namespace Go.Proofs.YtamkfdlcdiadlaaGreatDoor
open Go.RowKit Go.Maps
variable {H:Nat→Prop}
def CanW (H:Nat→Prop)(c bb l u:Nat)(q:Pv.Ck × Option Pv.C)(w:World)(e:Ending)(w':World):Prop:=
 (match q.2 with|none=>e = .returned (.pointer none)|some C=>∃k,e = .returned (Ptr k)∧CAt H w' C k∧w.heap.size≤k)∧CkAt w' c bb q.1.fault∧(∃u',BudAt w' bb q.1.left u'∧q.1.left+u'=l+u)∧Keep (askT c bb) w w'
def CanI (H1:Nat→Prop)(N0 bb c k tb lu:Nat)(t:Pv.T)(l:Nat)(w:World)(j:Nat)(wr:World):Prop:=
 ∃(done:List Pv.C) (kv:Value) (bs:List Nat) (lj uj:Nat),done.length=j∧(∀C∈done,Kid C) ∧
  Pv.canonsOf t.kids { left:=l }=Pv.addTo done (Pv.canonsOf (t.kids.drop j) { left:=lj }) ∧
  wr.heap[k]?=some (.cells (CanC tb (.pointer none) (.pointer none) kv (.pointer none) (.pointer none)) 131)∧Row N0 33 wr kv (bs.map Ptr)∧CsAt (fun x=>H1 x∨kv.ownBlock=some x) wr done bs ∧
  BudAt wr bb lj uj∧lj+uj=lu∧CkAt wr c bb {}∧Keep (askT c bb) w wr∧N0≤wr.heap.size
def SideR (H:Nat→Prop)(c bb l u:Nat)(q:Pv.Ck × Option Pv.Side)(w:World)(e:Ending)(w':World):Prop:=
 (q.2=none∧e = .returned (.pointer none)∧CkB w w' c bb l u q.1)∨(∃S s,q.2=some S∧e = .returned (Ptr s)∧SideAt H w' S s∧S.Ok∧w.heap.size≤s∧CkB w w' c bb l u q.1)
theorem turn_ask {w:World}{c bb l u:Nat}{f:Pv.Fault}(hs:∀x,askT c bb x→H x)(hc:CkAt w c bb f)(hb:BudAt w bb l u):Turn H (askT c bb) w:=⟨hs,fun x e cs fr=>by
 rcases e with e|e
 ·rw[e];exact blk_ty hc (by decide)
 ·rw[e];exact blk_ty hb.2 (by decide)⟩
theorem row_sl {base e:Nat}{w:World}{v:Value}{xs:List Value}(h:Row base e w v xs):∃a c,v = .slice a xs.length c∧Sl w a c xs∧∀x y,a=some ⟨x,y,none⟩→base≤x∧x<w.heap.size:=by
 obtain⟨a,c,e1,h1,_⟩:=h.form;refine⟨a,c,e1,h1,fun x y e2 => ?_⟩;rcases h.blk with⟨rfl,_⟩|⟨g,cap,cur,rfl,hg,hh,_⟩
 ·rw[e2]at e1;cases e1
 ·rw[e2]at e1;injection e1 with e1
  injection e1 with e1
  injection e1 with e1
  rw[←e1];exact⟨hg,blk_lt hh⟩
set_option maxRecDepth 20000 in
set_option maxHeartbeats 4000000 in
theorem canon_all (P:Pv.R→Prop)(hP:∀r c,P r→P (Pv.by_ c r))(hPs:∀r,P r→Pv.size r≤300000)(G:Pv.T→Prop)
  (hG:∀t,G t→2≤t.op∧t.op≤17∧(∀r,t.re=some r→P r)∧t.text.length<549755813888∧∀x∈t.kids,G x) (hKid:∀t l c C,G t→Pv.canonOf t { left:=l }=(c,some C)→Kid C)
  (hSz:∀t done l c x y,G t→(∀C∈done,Kid C)→Pv.ctypes t done { left:=l }=((c,true),x,y)→Pv.size x<137438953472∧Pv.size y<137438953472):
  ∀(m:Nat) (H:Nat→Prop) (t:Pv.T) (tb c bb l u:Nat) (w:World),Pv.tsize t≤m→G t→TAt H w t tb→Tab w→BudAt w bb l u→CkAt w c bb {}→H bb→H c→(∀h,H h→h<w.heap.size)→l+u<274877906944 →
  Calls Tryz.prog 57 #[Ptr c,Ptr tb] w (CanW H c bb l u (Pv.canonOf t { left:=l }) w)
 | 0,H,t,_,_,_,_,_,_,hm,_,_,_,_,_,_,_,_,_=>by have:=tsize_eq t;omega
 | m+1,H,t,tb,c,bb,l,u,w,hm,hg,hat,hT,hbud,hc,hbb,hHc,hH,hlu=>by
   obtain⟨ho2,ho17,hre,htl,hgk⟩:=hG t hg;have hsz:=tsize_eq t;obtain⟨htb,rv,a,kc,bs,hr,ha,hterm,hsl,hts⟩:=hat.open_;have hlen:=hts.length;have hsh:=shaped_all t.op tb t.at_ t.name t.text t.back w t.re rv hr.rv a bs.length kc ho2 ho17 hterm;rw[hlen]at hsh;have hq:=Pv.canonOf_eq t { left:=l };have hcb:=hc.ne_bud hbud
   have hfl:(({ left:=l }:Pv.Ck).fail 8 (some t) false []).fault={ e:=8,op:=t.op,at_:=t.at_ }∧(({ left:=l }:Pv.Ck).fail 8 (some t) false []).left=l:=⟨rfl,rfl⟩
   cases hs1:Pv.shapedOf t.op t.re.isSome t.kids.length with
   | false=>
     rw[hs1]at hsh hq;simp only[Bool.not_false,Bool.true_or,if_true]at hq;rw[hq];refine(canon_bad tb t.op c bb t.at_ w hat.head hc hsh).mono ?_;rintro e w' ⟨rfl,hc',hk⟩;exact⟨rfl,by rw[hfl.1];exact hc',⟨u,by rw[hfl.2];exact hbud.keep hk (fun e=>hcb e.symm),by rw[hfl.2]⟩,hk.wide fun x e=> .inl (.inl e)⟩
   | true=>
     cases hs2:Pv.isCanonOp t.op with
     | false=>
       rw[hs1]at hsh;rw[hs1,hs2]at hq;simp only[Bool.not_false,Bool.or_true,if_true]at hq;rw[hq];have hops:t.op=2∨t.op=3∨t.op=4∨t.op=5∨t.op=6∨t.op=10∨t.op=11∨t.op=12∨t.op=13∨t.op=14∨t.op=15:=by unfold Pv.isCanonOp at hs2;simp only[Bool.or_eq_false_iff,beq_eq_false_iff_ne]at hs2;omega
       refine(canon_sort tb t.op c bb t.at_ w hops hat.head hc hsh).mono ?_;rintro e w' ⟨rfl,hc',hk⟩;exact⟨rfl,by rw[hfl.1];exact hc',⟨u,by rw[hfl.2];exact hbud.keep hk (fun e=>hcb e.symm),by rw[hfl.2]⟩,hk.wide fun x e=> .inl (.inl e)⟩
     | true=>
       rw[hs1]at hsh;rw[hs1,hs2]at hq;simp only[Bool.not_true,Bool.or_self,Bool.false_eq_true,if_false]at hq;have t0:w.cell? ⟨tb,0,none⟩=some (.int .i64 (t.op:Int)):=cB (o:=0) hterm rfl;have HSh:=Hy hsh;have HQ:=Hy hq;have HAt:=Hy hat;have HT:=Hy hT;have HBud:=Hy hbud;have HC:=Hy hc;have HH:=Hy hH;have HTm:=Hy hterm;have HSl:=Hy hsl;have HTs:=Hy hts;have HA:=Hy ha;have HL:=Hy hlen;have HM:=Hy hm
       have HSz:=Hy hsz;have HRe:=Hy hre;have HGk:=Hy hgk;have HS1:=Hy hs1;have HS2:=Hy hs2;have hbbw:=hH bb hbb;have hcw:=hH c hHc;have HG:=Hy hG;have HKid:=Hy hKid;have HSz2:=Hy hSz;have HP:=Hy hP;have HPs:=Hy hPs;have hopp:t.op=16∨t.op=17∨t.op=7∨t.op=8∨t.op=9:=by unfold Pv.isCanonOp at hs2;simp only[Bool.or_eq_true,beq_iff_eq]at hs2;omega
       clear hfl hsh hq hat hT hbud hc hH hterm hsl hts ha hlen hm hsz hre hgk hs1 hs2 ho2 ho17 hr hG hKid hSz hP hPs;go_enter Tryz.func57,Tryz.ntmps57;go_upto_region 1 with fail
       go_cut [46] from 9 to 45 (fun s46 wx=>s46 = .bool false∧wx=w)
       case first=>
        rcases hopp with e|e|e|e|e;all_goals
         rw[e]at t0;clear e;go_wp2_with fail;refine HSh.out.mono ?_;rintro e w' ⟨rfl,rfl⟩;go_wp2_with fail;go_meet;exact⟨rfl,rfl⟩
       case rest=>
       obtain⟨rfl,hcut2⟩:=hcut;have hcut':=hcut2.symm;clear hcut2;subst hcut';have t6:w.cell? ⟨tb,6,none⟩=some (.slice a bs.length kc):=cB (o:=6) HTm.out rfl;have htbl:=blk_lt HTm.out;go_wp2_with fail;obtain⟨k,hk⟩:∃k,w.heap.size=k:=⟨_,rfl⟩
       obtain⟨w1,hw1⟩:∃w1,w.alloc (.cells #[Ptr tb,.pointer none,.pointer none,.slice none 0 0,.pointer none,.pointer none] 131)=w1:=⟨_,rfl⟩
       have hb1:Below w.heap.size w w1:=by rw[←hw1];exact(Below.refl _ _).alloc (Nat.le_refl _) _
       have hx1:w1.heap[k]?=some (.cells (CanC tb (.pointer none) (.pointer none) (.slice none 0 0) (.pointer none) (.pointer none)) 131):=by rw[←hw1];exact blk_new hk
       rw[hw1,hk];have hwk:w.heap.size≤k:=by omega
       clear hw1 t0 t6;have HB1:=Hy hb1;have HX1:=Hy hx1;have hkl:=blk_lt hx1;obtain⟨H1,hH1⟩:∃H1:Nat→Prop,(fun x=>H x∨x=k)=H1:=⟨_,rfl⟩
       have hHH1:∀x,H x→H1 x:=fun x h=>by rw[←hH1];exact .inl h
       have hH1w:∀x,H1 x→H x∨w.heap.size≤x:=fun x hx=>by
        rw[←hH1]at hx;rcases hx with hx|hx
        ·exact .inl hx
        ·exact .inr (by omega)
       have H1k:H1 k:=by rw[←hH1];exact .inr rfl
       have h1lt:∀h,H1 h→h<w1.heap.size:=fun h hh=>by
        have h4:=hb1.size;rw[←hH1]at hh;rcases hh with hh|hh
        ·have:=HH.out h hh;omega
        ·omega
       have HHH1:=Hy hHH1;have HH1w:=Hy hH1w;have H1lt:=Hy h1lt;have hwsz1:=hb1.size;have hasH:∀x,askT c bb x→H x:=fun x e=>by
        rcases e with e|e
        ·rw[e];exact hHc
        ·rw[e];exact hbb
       have HAs:=Hy hasH;have hn0:¬askT c bb 0:=fun e=>by
        rcases e with e|e
        ·exact HT.out.ne_ptr HC.out rfl e.symm
        ·exact HT.out.bud HBud.out e.symm
       have hkas:¬askT c bb k:=fun e=>by rcases e with e|e<;>omega
       obtain⟨i0,hi0,hy0,hy1,hy2⟩:=info_parts info_can;clear hb1 hx1 hHH1 hH1w h1lt hH1 hasH;go_loopw [58] (fun i wr=>∃(j:Nat),i = .int .i64 j∧j≤bs.length∧Hid (CanI H1 w1.heap.size bb c k tb (l+u) t l w j wr)) (fun i _=>(bs.length-intOf i).toNat)
       case atStart=>exact⟨0,rfl,by omega,[],.slice none 0 0,[],l,u,rfl,(fun _ h=>by cases h),(by rw[List.drop_zero,Pv.addTo_nil]),HX1.out,Row.nil _ _ _,(by unfold CsAt;rfl),HBud.out.later HB1.out,rfl,HC.out.later HB1.out,Keep.of_below HB1.out,Nat.le_refl _⟩
       case round=>
        obtain⟨j,rfl,hj,HI⟩:=hrel;obtain⟨done,kv,bs2,lj,uj,hdl,hdk,hpure,hxk,hrow,hcs,hb,hsum,hc2,hkp,hszN⟩:=HI.out;clear HI;obtain⟨H2,hH2⟩:∃H2:Nat→Prop,(fun x=>H1 x∨kv.ownBlock=some x)=H2:=⟨_,rfl⟩
        have h21:∀x,H1 x→H2 x:=fun x h=>by rw[←hH2];exact .inl h
        have h2o:∀x,kv.ownBlock=some x→H2 x:=fun x h=>by rw[←hH2];exact .inr h
        have h2w:∀x,H2 x→H x∨w.heap.size≤x:=fun x hx=>by
         rw[←hH2]at hx;rcases hx with hx|hx
         ·exact HH1w.out x hx
         ·have:=(RowK.lt hrow hx).1;exact .inr (by omega)
        have h2lt:∀x,H2 x→x<wr.heap.size:=fun x hx=>by
         rw[←hH2]at hx;rcases hx with hx|hx
         ·have:=H1lt.out x hx;omega
         ·exact(RowK.lt hrow hx).2
        have hkH:Keep H w wr:=hkp.wide fun x e=> .inl (HAs.out x e)
        have has2:∀x,askT c bb x→H2 x:=fun x e=>h21 x (HHH1.out x (HAs.out x e))
        have hTr:Tab wr:=HT.out.keep hkp hn0;rw[hH2]at hcs;have hbl2:bs2.length=done.length:=hcs.length;have hbs2:bs2.length<1099511627775:=by have:=shaped_len HS1.out;have:=HL.out;omega
        have HDl:=Hy hdl;have HBl:=Hy hbl2;clear hdl hbl2;have HPu:=Hy hpure;have HDk:=Hy hdk;have HXk:=Hy hxk;have HRow:=Hy hrow;have HCs:=Hy hcs;have HBd:=Hy hb;have HC2:=Hy hc2;have HKp:=Hy hkp;have H21:=Hy h21;have H2o:=Hy h2o;have H2lt:=Hy h2lt;have HTr:=Hy hTr;have HA2:=Hy has2;have hat2:TAt H2 wr t tb:=(HAt.out.widen h2w).keep (hkp.wide fun x e=> .inl (has2 x e));by_cases hjn:j<bs.length
        ·have hjt:j<t.kids.length:=by rw[←HL.out];exact hjn
         obtain⟨hjb,hatj⟩:=HTs.out.get j hjt;obtain⟨blk,off,rfl,hbl,hcl⟩:=HSl.out.at_ (by simp;omega);have hc0:=hkH.cell (HA.out blk off rfl).1 (hcl j (by simpa using hjn));rw[List.getElem_map]at hc0;have hts1:=Pv.tsizes_get hjt
         have hca:=canon_all P HP.out HPs.out G HG.out HKid.out HSz2.out m H2 t.kids[j] bs[j] c bb lj uj wr (by have:=HM.out;have:=HSz.out;omega) (HGk.out _ (List.getElem_mem hjt)) ((hatj.widen h2w).keep (hkp.wide fun x e=> .inl (has2 x e))) hTr hb hc2 (has2 _ (.inr rfl)) (has2 _ (.inl rfl)) h2lt (by omega);obtain⟨⟨c1,o⟩,hqe⟩:∃q,Pv.canonOf t.kids[j] { left:=lj }=q:=⟨_,rfl⟩
         rw[hqe]at hca;have hgj:=HGk.out _ (List.getElem_mem hjt);have HCa:=Hy hca;have hj':(j:Int)<bs.length:=by omega
         have hj40:(j:Int)<1099511627776:=by have:=shaped_len HS1.out;omega
         clear hca hcl hatj hat2 hxk hrow hcs hb hc2 hkp h21 h2o h2lt hTr has2 hkH hdk hpure;cases o with
         | none=>
           have hp:=HPu.out;rw[Pv.canonsOf_none hjt hqe]at hp;have hq2:=HQ.out;rw[hp]at hq2;simp only at hq2;have HQ2:=Hy hq2;clear hp hq2 hqe;go_wp2_with fail;refine HCa.out.mono ?_;rintro e w2 ⟨he,hc3,⟨u3,hb3,hu3⟩,hk3⟩;have he':e = .returned (.pointer none):=he;subst he';have HFin:Hid (CanW H c bb l u (Pv.canonOf t { left:=l }) w (.returned (.pointer none)) w2):=by
            rw[HQ2.out];exact⟨rfl,hc3,⟨u3,hb3,hu3.trans hsum⟩,HKp.out.trans hk3⟩
           clear he hc3 hb3 hk3 HCa hc0;go_wp2_with fail;go_ret;exact HFin.out
         | some C1=>
           have hcf:=Pv.Ck.eta (Pv.canonOf_some hqe);obtain⟨l1,hl1⟩:∃l1,c1.left=l1:=⟨_,rfl⟩
           rw[hl1]at hcf;subst hcf;have hp:=HPu.out;rw[Pv.canonsOf_some' hjt hqe]at hp;have hkid:=HKid.out _ _ _ _ hgj hqe;have HPu2:=Hy hp;have HKi:=Hy hkid;have hkv:(bs2.map Ptr).length=bs2.length:=List.length_map _;obtain⟨a1,c1',ekv,_,_⟩:=HRow.out.form;rw[hkv]at ekv;clear hp hqe hkid hkv hl1;subst ekv;go_wp2_with fail;refine HCa.out.mono ?_;rintro e w2 ⟨he,hc3,⟨u3,hb3,hu3⟩,hk3⟩
           obtain⟨k1,rfl,hC1,hk1w⟩:∃k,e = .returned (Ptr k)∧CAt H2 w2 C1 k∧wr.heap.size≤k:=he;have hxk2:=hk3.blk hkas HXk.out;have hro:∀g,(Value.slice a1 bs2.length c1').ownBlock=some g→¬askT c bb g:=fun g hg e=>by
            obtain⟨cs,hty⟩:=RowK.ty HRow.out hg;rcases e with e|e
            ·have h2:=HC2.out;unfold CkAt at h2;rw[←e,hty]at h2;cases h2
            ·have h2:=HBd.out.2;rw[←e,hty]at h2;cases h2
           have hrow2:Row w1.heap.size 33 w2 (.slice a1 bs2.length c1') (bs2.map Ptr):=RowK.kept HRow.out hk3 hro;have htu:Turn H2 (askT c bb) wr:=⟨HA2.out,fun x e cs fr h=>by
            rcases e with e|e
            ·have h2:=HC2.out;unfold CkAt at h2;rw[←e,h]at h2;cases h2
            ·have h2:=HBd.out.2;rw[←e,h]at h2;cases h2⟩
           have hcs2:CsAt H2 w2 done bs2:=CsAt.keep hk3 htu HCs.out;have x23:w2.cell? ⟨k,3,none⟩=some (.slice a1 bs2.length c1'):=cB (o:=3) hxk2 rfl;have hsz3:=hk3.size;have hb3':BudAt w2 bb l1 u3:=hb3;have hc3':CkAt w2 c bb {}:=hc3;have hu3':l1+u3=l+u:=hu3.trans hsum;have HXk2:=Hy hxk2;have HRow2:=Hy hrow2;have HCs2:=Hy hcs2;have HC1:=Hy hC1;have HB3:=Hy hb3';have HC3:=Hy hc3'
           have HK3:=Hy (HKp.out.trans hk3);have hkl2:=blk_lt hxk2;clear hc3 hb3 hu3 hk3 hxk2 hro hrow2 htu hcs2 hC1 hb3' hc3' HCa hc0;go_wp2_with (at_builtin;refine app1x 129 33 i0 _ 8 Tryz.underlying129 hi0 hy0 hy1 hy2 rfl (by omega) rfl _ _ rfl w1.heap.size _ (bs2.map Ptr) rfl (HRow2.out.alloc _) w2.heap.size _ rfl (blk_new rfl) rfl (by simp;omega) (by simp;omega) ?c2)
           case c2=>
            intro v4 w4 hr4 hb4 hg4 hm4;obtain⟨a4,c4,ev4,_,_⟩:=hr4.form;simp only[List.length_append,List.length_map,List.length_cons,List.length_nil,Nat.zero_add]at ev4;subst ev4;obtain⟨H3,hH3⟩:∃H3:Nat→Prop,(fun x=>H2 x∨(Value.slice a4 (bs2.length+1) c4).ownBlock=some x)=H3:=⟨_,rfl⟩
            have h32:∀x,H2 x→H3 x:=fun x h=>by rw[←hH3];exact .inl h
            have h3w:∀x,H3 x→H2 x∨w2.heap.size≤x:=fun x hx=>by
             rw[←hH3]at hx;rcases hx with hx|hx
             ·exact .inl hx
             ·rcases hm4 with h|⟨g,h1,h2⟩
              ·rw[hx]at h;exact .inl (H2o.out x h.symm)
              ·rw[hx]at h1;cases h1;simp at h2;exact .inr (by omega)
            have hk4:Keep (fun x=>(Value.slice a1 bs2.length c1').ownBlock=some x) w2 w4:=(Keep.alloc w2 _).trans (Keep.of_grown hg4 fun x e=>e);have hty:∀x,(Value.slice a1 bs2.length c1').ownBlock=some x→∃cs,w2.heap[x]?=some (.cells cs 33):=fun x hx=>RowK.ty HRow2.out hx
            have hnk:∀ {b:Nat} {cs:Array Value} {t:TypeId} {fr:Nat × Nat},w2.heap[b]?=some (.cells cs t fr)→t≠33→¬(Value.slice a1 bs2.length c1').ownBlock=some b:=fun h ht e=>by obtain⟨cs,h2⟩:=hty _ e;exact blk_ty h2 (fun e=>ht e.symm) h
            have htu4:Turn H3 (fun x=>(Value.slice a1 bs2.length c1').ownBlock=some x) w2:=⟨fun x e=>h32 x (H2o.out x e),fun x e cs fr=>by obtain⟨cs2,h2⟩:=hty x e;exact blk_ty h2 (by decide)⟩
            have hcs4:CsAt H3 w4 (done++[C1]) (bs2++[k1]):=CsAt.keep hk4 htu4 (CsAt.snoc (CsAt.widen h3w HCs2.out) (CAt.widen h3w HC1.out));have hxk4:=hk4.blk (hnk HXk2.out (by decide)) HXk2.out;have hbd4:BudAt w4 bb l1 u3:=HB3.out.keep hk4 (hnk HB3.out.2 (by decide));have hc4:CkAt w4 c bb {}:=HC3.out.keep hk4 (hnk HC3.out (by decide))
            have x43:w4.cell? ⟨k,3,none⟩=some (.slice a1 bs2.length c1'):=cB (o:=3) hxk4 rfl;have f43:∀o,w4.frozen? ⟨k,o,none⟩=false:=fun o=>fob hxk4
            have hsz4:=hk4.size;have hkw4:Keep (askT c bb) w w4:=HK3.out.trans_ hk4 fun x e=> .inr (by have:=(RowK.lt HRow2.out e).1;omega)
            have HXk4:=Hy hxk4;have HCs4:=Hy hcs4;have HBd4:=Hy hbd4;have HC4:=Hy hc4;have HKw4:=Hy hkw4;have HR4:=Hy hr4;have H31:Hid (∀x,H1 x∨(Value.slice a4 (bs2.length+1) c4).ownBlock=some x→H3 x):=fun x hx=>by
             rw[←hH3];rcases hx with hx|hx
             ·exact .inl (H21.out x hx)
             ·exact .inr hx
            clear hr4 hb4 hg4 hm4 hk4 hty hnk htu4 hcs4 hxk4 hbd4 hc4 hkw4 h32 h3w hH3 x23;go_wp2_with fail;obtain⟨w5,hw5⟩:∃w5,w4.setCell ⟨k,3,none⟩ (.slice a4 (bs2.length+1) c4)=w5:=⟨_,rfl⟩
            have hk5:Keep (· = k) w4 w5:=by rw[←hw5];exact Keep.set rfl
            have hxk5:w5.heap[k]?=some (.cells (CanC tb (.pointer none) (.pointer none) (.slice a4 (bs2.length+1) c4) (.pointer none) (.pointer none)) 131):=by rw[←hw5,blk_set HXk4.out];rfl
            have htu5:Turn H3 (· = k) w4:=⟨fun x e=>by rw[e];exact H31.out k (.inl H1k),fun x e cs fr=>by rw[e];exact blk_ty HXk4.out (by decide)⟩
            have hrow5:Row w1.heap.size 33 w5 (.slice a4 (bs2.length+1) c4) ((bs2++[k1]).map Ptr):=by rw[List.map_append];exact HR4.out.keep fun g hg hl=>hk5.block g hl (by omega)
            have hI5:CanI H1 w1.heap.size bb c k tb (l+u) t l w (j+1) w5:=⟨done++[C1],.slice a4 (bs2.length+1) c4,bs2++[k1],l1,u3,by simp[HDl.out],(fun C hC=>by
             rcases List.mem_append.1 hC with hC|hC
             ·exact HDk.out C hC
             ·rw[List.mem_singleton.1 hC];exact HKi.out),HPu2.out,hxk5,hrow5,CsAt.widen (fun x hx=> .inl (H31.out x hx)) (CsAt.keep hk5 htu5 HCs4.out),HBd4.out.keep hk5 (fun e=>hkas (.inr e.symm)),hu3',HC4.out.keep hk5 (fun e=>hkas (.inl e.symm)),HKw4.out.trans_ hk5 fun x e=> .inr (by rw[e];exact hwk),by have:=hk5.size;omega⟩
            have HI5:=Hy hI5;rw[hw5];clear hw5 hk5 hxk5 htu5 hrow5 hI5 x43 f43;go_roundw
            case rel=>exact⟨j+1,by go_num,by omega,HI5.out⟩
            case measure=>simp[intOf];omega
        ·have hjn2:j=bs.length:=by omega
         have hsh2:Pv.shapedOf t.op t.re.isSome done.length=true:=by rw[HDl.out,hjn2,HL.out];exact HS1.out
         have hty:=types_all (H:=H2) P HP.out HPs.out t done hsh2 HS2.out HRe.out HDk.out c bb k tb lj uj w1.heap.size kv bs2 wr hTr HXk.out hat2 HRow.out HCs.out HBd.out (has2 _ (.inr rfl)) h2lt (h21 _ H1k) (has2 _ (.inl rfl)) htl HC2.out (by omega);have hp:=HPu.out;rw[hjn2,HL.out,List.drop_length]at hp;have hp2:Pv.canonsOf t.kids { left:=l }=({ left:=lj },some done):=by rw[hp];simp[Pv.canonsOf,Pv.addTo]
         have hq2:=HQ.out;rw[hp2]at hq2;simp only at hq2;unfold Pv.canonEnd at hq2;obtain⟨⟨⟨ck,b⟩,r1,r2⟩,hqe⟩:∃q,Pv.ctypes t done { left:=lj }=q:=⟨_,rfl⟩
         rw[hqe]at hty hq2;have HTy:=Hy hty;have HQ2:=Hy hq2;have hjn3:¬(j:Int)<bs.length:=by omega
         clear hty hp hp2 hq2 hat2 hsh2 hxk hrow hcs hb hc2 hkp h21 h2o h2lt hTr has2 hkH hdk hpure;subst hjn2;cases b with
         | false=>
           have hq3:Pv.canonOf t { left:=l }=(ck,none):=HQ2.out;have HQ3:=Hy hq3;clear hq3;go_wp2_with fail;refine HTy.out.mono ?_;rintro e w2 ⟨rfl,_,hc3,⟨u3,hb3,hu3⟩,hk3⟩;have HFin:Hid (CanW H c bb l u (Pv.canonOf t { left:=l }) w (.returned (.pointer none)) w2):=by
            rw[HQ3.out];exact⟨rfl,hc3,⟨u3,hb3,hu3.trans hsum⟩,HKp.out.trans_ hk3 fun x e=>by
             rcases e with e|e
             ·exact .inr (by rw[e];exact hwk)
             ·exact .inl e⟩
           clear hc3 hb3 hk3 HTy;go_wp2_with fail;go_ret;exact HFin.out
         | true=>
           have hck:=Pv.Ck.eta (Pv.ctypes_true hqe);obtain⟨l2,hl2⟩:∃l2,ck.left=l2:=⟨_,rfl⟩
           rw[hl2]at hck;subst hck;clear hl2;have hq3:Pv.canonOf t { left:=l }=(match (({ left:=l2 }:Pv.Ck).side r1).2,((({ left:=l2 }:Pv.Ck).side r1).1.side r2).2 with
            | some ws,some cs=>(((({ left:=l2 }:Pv.Ck).side r1).1.side r2).1,some (.mk t r1 r2 done ws cs))
            | _,_=>(((({ left:=l2 }:Pv.Ck).side r1).1.side r2).1,none)):=HQ2.out
           have HQ3:=Hy hq3;obtain⟨z1,z2⟩:=HSz2.out t done lj _ r1 r2 hg HDk.out hqe;clear hq3 HQ2 hqe;go_wp2_with fail;refine HTy.out.mono ?_;rintro e w2 ⟨rfl,hty2,hc3,⟨u3,hb3,hu3⟩,hk3⟩;obtain⟨nb1,nb2,hx2,hn1,hn2⟩:=hty2 rfl;have hb3':BudAt w2 bb l2 u3:=hb3;have hu3':l2+u3=l+u:=(show l2+u3=lj+uj from hu3).trans hsum;have hc3':CkAt w2 c bb {}:=hc3
           have hkw2:Keep (askT c bb) w w2:=HKp.out.trans_ hk3 fun x e=>by
            rcases e with e|e
            ·exact .inr (by rw[e];exact hwk)
            ·exact .inl e
           have hT2:Tab w2:=HT.out.keep hkw2 hn0;have hsz2:=hk3.size;have hlt2:∀x,H2 x→x<w2.heap.size:=fun x h=>Nat.lt_of_lt_of_le (H2lt.out x h) hsz2
           have htu:Turn H2 (fun x=>x=k∨x=c∨x=bb) wr:=⟨fun x e=>by
            rcases e with e|e
            ·rw[e];exact H21.out _ H1k
            ·exact HA2.out x e,fun x e cs fr=>by
            rcases e with e|e|e
            ·rw[e];exact blk_ty HXk.out (by decide)
            ·rw[e];exact blk_ty HC2.out (by decide)
            ·rw[e];exact blk_ty HBd.out.2 (by decide)⟩
           have hcs2:CsAt H2 w2 done bs2:=CsAt.keep hk3 htu HCs.out;have hrow2:Row w1.heap.size 33 w2 kv (bs2.map Ptr):=RowK.kept HRow.out hk3 fun g hg e=>by
            obtain⟨cs,hty⟩:=RowK.ty HRow.out hg;rcases e with e|e|e
            ·rw[e]at hty;exact blk_ty HXk.out (by decide) hty
            ·rw[e]at hty;exact blk_ty HC2.out (by decide) hty
            ·rw[e]at hty;exact blk_ty HBd.out.2 (by decide) hty
           have hat2:TAt H2 w2 t tb:=(HAt.out.widen h2w).keep (hkw2.wide fun x e=> .inl (HA2.out x e));have hsd:=side_all (H:=H2) (SideR H2 c bb l2 u3 (({ left:=l2 }:Pv.Ck).side r1) w2) r1 nb1 c bb l2 u3 w2 hT2 hn1 hb3' (HA2.out _ (.inr rfl)) hlt2 z1 (by omega) hc3' (fun w' h h1=> .inl ⟨h,rfl,h1⟩) (fun w' S s h h1 h2 h3 h4=> .inr ⟨S,s,h,rfl,h1,h2,h3,h4⟩)
           have c1:w2.cell? ⟨k,1,none⟩=some (Ptr nb1):=cB (o:=1) hx2 rfl;have HSd:=Hy hsd;have HX2:=Hy hx2;have HN2:=Hy hn2;have HN1:=Hy hn1;have HCs2:=Hy hcs2;have HRow2:=Hy hrow2;have HAt2:=Hy hat2;have HKw2:=Hy hkw2;have HT2:=Hy hT2;have Hlt2:=Hy hlt2;have HTu2:=Hy (turn_ask HA2.out hc3' hb3');have hroA:∀g,kv.ownBlock=some g→¬askT c bb g:=fun g hg e=>by
            obtain⟨cs,hty⟩:=RowK.ty hrow2 hg;rcases e with e|e
            ·have h2:=hc3';unfold CkAt at h2;rw[←e,hty]at h2;cases h2
            ·have h2:=hb3'.2;rw[←e,hty]at h2;cases h2
           have hroK:∀g,kv.ownBlock=some g→¬g=k:=fun g hg e=>by obtain⟨cs,hty⟩:=RowK.ty hrow2 hg;rw[e]at hty;exact blk_ty hx2 (by decide) hty
           have HRoA:=Hy hroA;have HRoK:=Hy hroK;clear hty2 hc3 hc3' hb3 hu3 hk3 hx2 hn1 hn2 hcs2 hrow2 hat2 hkw2 hT2 hlt2 htu hsd hb3' HTy hroA hroK;go_wp2_with fail;refine HSd.out.mono ?_;rintro e w3 (⟨ho,rfl,hB3⟩|⟨S1,s1,ho,rfl,hs1,hok1,hs1w,hB3⟩)
           ·have hf3:=Pv.Ck.side_none ho;have hfin:Pv.canonOf t { left:=l }=((({ left:=l2 }:Pv.Ck).side r1).1,none):=by rw[HQ3.out,ho,Pv.Ck.side_bad hf3]
            generalize ({ left:=l2 }:Pv.Ck).side r1=q1 at *;obtain⟨ck1,o1⟩:=q1;obtain⟨hc3,⟨u4,hb4,hu4⟩,hk3⟩:=hB3;have hx3:=hk3.blk hkas HX2.out;have c4:w3.cell? ⟨k,4,none⟩=some (.pointer none):=cB (o:=4) hx3 rfl;have c2:w3.cell? ⟨k,2,none⟩=some (Ptr nb2):=cB (o:=2) hx3 rfl;have f4:∀o,w3.frozen? ⟨k,o,none⟩=false:=fun o=>fob hx3
            have HX3:=Hy hx3;have HC3:=Hy hc3;have HB4:=Hy hb4;have HU4:Hid (ck1.left+u4=l+u):=(show ck1.left+u4=l2+u3 from hu4).trans hu3';have HK3:=Hy (HKw2.out.trans hk3);have HF3:=Hy hf3;have HFi:=Hy hfin;clear hx3 hc3 hb4 hu4 hk3 hf3 hfin ho HSd c1 HQ3;go_wp2_with fail;obtain⟨w4,hw4⟩:∃w4,w3.setCell ⟨k,4,none⟩ (.pointer none)=w4:=⟨_,rfl⟩
            have hk4:Keep (· = k) w3 w4:=by rw[←hw4];exact Keep.set rfl
            have hx4:w4.heap[k]?=some (.cells (CanC tb (Ptr nb1) (Ptr nb2) kv (.pointer none) (.pointer none)) 131):=by rw[←hw4,blk_set HX3.out];rfl
            rw[hw4];clear hw4 c4 f4;have hc4:=HC3.out.keep hk4 (fun e=>hkas (.inl e.symm));have hb4:=HB4.out.keep hk4 (fun e=>hkas (.inr e.symm));have hsn:=side_not c bb ck1.fault w4 hc4 HF3.out nb2;have d5:w4.cell? ⟨k,5,none⟩=some (.pointer none):=cB (o:=5) hx4 rfl;have g5:∀o,w4.frozen? ⟨k,o,none⟩=false:=fun o=>fob hx4
            have HSn:=Hy hsn;have HX4:=Hy hx4;have HC4:=Hy hc4;have HB5:=Hy hb4;have HK4:=Hy (HK3.out.trans_ hk4 fun x e=> .inr (by rw[e];exact hwk));clear hsn hx4 hc4 hb4 hk4 HX3 HC3 HB4 HK3;refine HSn.out.mono ?_;rintro e w5 ⟨rfl,e5⟩;subst e5;clear HSn;go_wp2_with fail;obtain⟨w6,hw6⟩:∃w6,w4.setCell ⟨k,5,none⟩ (.pointer none)=w6:=⟨_,rfl⟩
            have hk6:Keep (· = k) w4 w6:=by rw[←hw6];exact Keep.set rfl
            rw[hw6];clear hw6 d5 g5;have hc6:=HC4.out.keep hk6 (fun e=>hkas (.inl e.symm));have hb6:=HB5.out.keep hk6 (fun e=>hkas (.inr e.symm));have hok6:=ok_any c bb ck1.fault w6 hc6;rw[show(ck1.fault.e==0)=false by simpa using HF3.out]at hok6;have HOk6:=Hy hok6;have HFin:Hid (CanW H c bb l u (Pv.canonOf t { left:=l }) w (.returned (.pointer none)) w6):=by
             rw[HFi.out];exact⟨rfl,hc6,⟨u4,hb6,HU4.out⟩,HK4.out.trans_ hk6 fun x e=> .inr (by rw[e];exact hwk)⟩
            clear hc6 hb6 hk6 hok6 HX4 HC4 HB5 HK4;refine HOk6.out.mono ?_;rintro e w7 ⟨rfl,e7⟩;subst e7;go_wp2_with fail;go_ret;exact HFin.out
           ·obtain⟨l3,hl3⟩:∃l3,(({ left:=l2 }:Pv.Ck).side r1).1={ left:=l3 }:=⟨_,Pv.Ck.eta (Pv.Ck.side_some (l:=l2) (r:=r1) (s:=S1) (Prod.ext rfl ho))⟩
            rw[hl3]at hB3;have hq4:=HQ3.out;rw[ho,hl3]at hq4;obtain⟨hc3,⟨u4,hb4,hu4⟩,hk3⟩:=hB3;have hc3':CkAt w3 c bb {}:=hc3;have hb4':BudAt w3 bb l3 u4:=hb4;have hu4':l3+u4=l+u:=(show l3+u4=l2+u3 from hu4).trans hu3';have hx3:=hk3.blk hkas HX2.out;have c4:w3.cell? ⟨k,4,none⟩=some (.pointer none):=cB (o:=4) hx3 rfl;have c2:w3.cell? ⟨k,2,none⟩=some (Ptr nb2):=cB (o:=2) hx3 rfl
            have f4:∀o,w3.frozen? ⟨k,o,none⟩=false:=fun o=>fob hx3
            have hkH3:Keep H2 w2 w3:=hk3.wide fun x e=> .inl (HA2.out x e)
            have HX3:=Hy hx3;have HC3:=Hy hc3';have HB3:=Hy hb4';have HU3:=Hy hu4';have HQ4:=Hy hq4;have HS3:=Hy hs1;have HOk1:=Hy hok1;have HCs3:=Hy (CsAt.keep hk3 HTu2.out HCs2.out);have HRow3:=Hy (RowK.kept HRow2.out hk3 HRoA.out);have HAt3:=Hy (HAt2.out.keep hkH3);have HN13:=Hy (HN1.out.keep hkH3);have HN23:=Hy (HN2.out.keep hkH3);have HKw3:=Hy (HKw2.out.trans hk3);have HT3:=Hy (HT2.out.keep hk3 hn0)
            have hsz3:=hk3.size;have hH2k:H2 k:=H21.out _ H1k;have htk:∀(W:World) {v4 v5:Value},W.heap[k]?=some (.cells (CanC tb (Ptr nb1) (Ptr nb2) kv v4 v5) 131)→Turn H2 (· = k) W:=fun W v4 v5 h=>⟨fun x e=>by rw[e];exact hH2k,fun x e cs fr=>by rw[e];exact blk_ty h (by decide)⟩
            have HTk:=Hy htk;clear hc3 hb4 hu4 hk3 hc3' hb4' hu4' hx3 hkH3 hl3 ho hq4 hs1 hok1 HSd HX2 HN1 HN2 HCs2 HRow2 HAt2 HKw2 HT2 HTu2 HQ3 c1 htk;go_wp2_with fail;obtain⟨w4,hw4⟩:∃w4,w3.setCell ⟨k,4,none⟩ (Ptr s1)=w4:=⟨_,rfl⟩
            have hk4:Keep (· = k) w3 w4:=by rw[←hw4];exact Keep.set rfl
            have hx4:w4.heap[k]?=some (.cells (CanC tb (Ptr nb1) (Ptr nb2) kv (Ptr s1) (.pointer none)) 131):=by rw[←hw4,blk_set HX3.out];rfl
            rw[hw4];clear hw4 c4 f4;have hkH4:Keep H2 w3 w4:=hk4.wide fun x e=> .inl (by rw[e];exact hH2k)
            have hc4:=HC3.out.keep hk4 (fun e=>hkas (.inl e.symm));have hb4:=HB3.out.keep hk4 (fun e=>hkas (.inr e.symm));have hT4:Tab w4:=HT3.out.keep hk4 (fun e=>HT3.out.ne_ptr HX3.out rfl e.symm);have hn4:=HN23.out.keep hkH4;have hsz4:=hk4.size;have hs4:=HS3.out.keep1 hk4 hH2k HX3.out (by decide)
            have hsd:=side_all (H:=H2) (SideR H2 c bb l3 u4 (({ left:=l3 }:Pv.Ck).side r2) w4) r2 nb2 c bb l3 u4 w4 hT4 hn4 hb4 (HA2.out _ (.inr rfl)) (fun x h=>by have:=Hlt2.out x h;omega) z2 (by have:=HU3.out;omega) hc4 (fun w' h h1=> .inl ⟨h,rfl,h1⟩) (fun w' S s h h1 h2 h3 h4=> .inr ⟨S,s,h,rfl,h1,h2,h3,h4⟩);have HSd:=Hy hsd;have HX4:=Hy hx4;have HS4:=Hy hs4
            have HCs4:=Hy (CsAt.keep hk4 (HTk.out w3 HX3.out) HCs3.out);have HRow4:=Hy (RowK.kept HRow3.out hk4 HRoK.out);have HAt4:=Hy (HAt3.out.keep hkH4);have HN14:=Hy (HN13.out.keep hkH4);have HN24:=Hy hn4;have HKw4:=Hy (HKw3.out.trans_ hk4 fun x e=> .inr (by rw[e];exact hwk));have HTu4:=Hy (turn_ask HA2.out hc4 hb4)
            clear hsd hx4 hs4 hn4 hT4 hk4 hkH4 hc4 hb4 HX3 HC3 HB3 HS3 HCs3 HRow3 HAt3 HN13 HN23 HKw3 HT3;refine HSd.out.mono ?_;rintro e w5 (⟨ho,rfl,hB5⟩|⟨S2,s2,ho,rfl,hs2,hok2,hs2w,hB5⟩)
            ·have hf5:=Pv.Ck.side_none ho;have hfin:Pv.canonOf t { left:=l }=((({ left:=l3 }:Pv.Ck).side r2).1,none):=by rw[HQ4.out,ho]
             generalize ({ left:=l3 }:Pv.Ck).side r2=q2 at *;obtain⟨ck2,o2⟩:=q2;obtain⟨hc5,⟨u5,hb5,hu5⟩,hk5⟩:=hB5;have hx5:=hk5.blk hkas HX4.out;have d5:w5.cell? ⟨k,5,none⟩=some (.pointer none):=cB (o:=5) hx5 rfl;have g5:∀o,w5.frozen? ⟨k,o,none⟩=false:=fun o=>fob hx5
             have HC5:=Hy hc5;have HB5:=Hy hb5;have HU5:Hid (ck2.left+u5=l+u):=(show ck2.left+u5=l3+u4 from hu5).trans HU3.out;have HK5:=Hy (HKw4.out.trans hk5);have HF5:=Hy hf5;have HFi:=Hy hfin;clear hx5 hc5 hb5 hu5 hk5 hf5 hfin ho HSd HQ4;go_wp2_with fail;obtain⟨w6,hw6⟩:∃w6,w5.setCell ⟨k,5,none⟩ (.pointer none)=w6:=⟨_,rfl⟩
             have hk6:Keep (· = k) w5 w6:=by rw[←hw6];exact Keep.set rfl
             rw[hw6];clear hw6 d5 g5;have hc6:=HC5.out.keep hk6 (fun e=>hkas (.inl e.symm));have hb6:=HB5.out.keep hk6 (fun e=>hkas (.inr e.symm));have hok6:=ok_any c bb ck2.fault w6 hc6;rw[show(ck2.fault.e==0)=false by simpa using HF5.out]at hok6;have HOk6:=Hy hok6;have HFin:Hid (CanW H c bb l u (Pv.canonOf t { left:=l }) w (.returned (.pointer none)) w6):=by
              rw[HFi.out];exact⟨rfl,hc6,⟨u5,hb6,HU5.out⟩,HK5.out.trans_ hk6 fun x e=> .inr (by rw[e];exact hwk)⟩
             clear hc6 hb6 hk6 hok6 HC5 HB5 HK5;refine HOk6.out.mono ?_;rintro e w7 ⟨rfl,e7⟩;subst e7;go_wp2_with fail;go_ret;exact HFin.out
            ·obtain⟨l5,hl5⟩:∃l5,(({ left:=l3 }:Pv.Ck).side r2).1={ left:=l5 }:=⟨_,Pv.Ck.eta (Pv.Ck.side_some (l:=l3) (r:=r2) (s:=S2) (Prod.ext rfl ho))⟩
             rw[hl5]at hB5;have hfin:Pv.canonOf t { left:=l }=({ left:=l5 },some (.mk t r1 r2 done S1 S2)):=by rw[HQ4.out,ho,hl5]
             obtain⟨hc5,⟨u5,hb5,hu5⟩,hk5⟩:=hB5;have hc5':CkAt w5 c bb {}:=hc5;have hb5':BudAt w5 bb l5 u5:=hb5;have hkH5:Keep H2 w4 w5:=hk5.wide fun x e=> .inl (HA2.out x e)
             have hx5:=hk5.blk hkas HX4.out;have d5:w5.cell? ⟨k,5,none⟩=some (.pointer none):=cB (o:=5) hx5 rfl;have g5:∀o,w5.frozen? ⟨k,o,none⟩=false:=fun o=>fob hx5
             have HX5:=Hy hx5;have HC5:=Hy hc5';have HB5:=Hy hb5';have HU5:Hid (l5+u5=l+u):=(show l5+u5=l3+u4 from hu5).trans HU3.out;have HFi:=Hy hfin;have HS5:=Hy (HS4.out.keepT hk5 (fun x e=> .inl (HA2.out x e)) HTu4.out.nd);have HS52:=Hy hs2;have HOk2:=Hy hok2;have HCs5:=Hy (CsAt.keep hk5 HTu4.out HCs4.out);have HRow5:=Hy (RowK.kept HRow4.out hk5 HRoA.out);have HAt5:=Hy (HAt4.out.keep hkH5)
             have HN15:=Hy (HN14.out.keep hkH5);have HN25:=Hy (HN24.out.keep hkH5);have HKw5:=Hy (HKw4.out.trans hk5);clear hc5 hb5 hu5 hk5 hc5' hb5' hkH5 hx5 hfin hl5 ho hs2 hok2 HSd HX4 HN14 HN24 HCs4 HRow4 HAt4 HKw4 HTu4 HQ4 HS4;go_wp2_with fail;obtain⟨w6,hw6⟩:∃w6,w5.setCell ⟨k,5,none⟩ (Ptr s2)=w6:=⟨_,rfl⟩
             have hk6:Keep (· = k) w5 w6:=by rw[←hw6];exact Keep.set rfl
             have hx6:w6.heap[k]?=some (.cells (CanC tb (Ptr nb1) (Ptr nb2) kv (Ptr s1) (Ptr s2)) 131):=by rw[←hw6,blk_set HX5.out];rfl
             rw[hw6];clear hw6 d5 g5;have hkH6:Keep H2 w5 w6:=hk6.wide fun x e=> .inl (by rw[e];exact hH2k)
             have hc6:=HC5.out.keep hk6 (fun e=>hkas (.inl e.symm));have hb6:=HB5.out.keep hk6 (fun e=>hkas (.inr e.symm));have hok6:=ok_any c bb {} w6 hc6;have HOk6:=Hy hok6;have hsub:∀x,H x→H2 x∨w6.heap.size≤x:=fun x hx=> .inl (H21.out x (HHH1.out x hx))
             obtain⟨ra,rc,erv,hsl6,hrb6⟩:=row_sl (RowK.kept HRow5.out hk6 HRoK.out);rw[List.length_map]at erv;have hcat:CAt H w6 (.mk t r1 r2 done S1 S2) k:=by
              unfold CAt
              refine⟨fun e=>by have:=HH.out k e;omega,tb,nb1,nb2,ra,rc,bs2,s1,s2,(HAt5.out.keep hkH6).widen hsub,(HN15.out.keep hkH6).widen hsub,(HN25.out.keep hkH6).widen hsub,(HS5.out.keep1 hk6 hH2k HX5.out (by decide)).widen hsub,(HS52.out.keep1 hk6 hH2k HX5.out (by decide)).widen hsub,HOk1.out,HOk2.out,fun x y e=>⟨fun hx => ?_,(hrb6 x y e).2⟩,?_,hsl6,CsAt.widen hsub (CsAt.keep hk6 (HTk.out w5 HX5.out) HCs5.out)⟩
              ·have h1:=HH.out x hx;have h2:=(hrb6 x y e).1;omega
              ·rw[←erv];exact hx6
             have HFin:Hid (CanW H c bb l u (Pv.canonOf t { left:=l }) w (.returned (Ptr k)) w6):=by rw[HFi.out];exact⟨⟨k,rfl,hcat,hwk⟩,hc6,⟨u5,hb6,HU5.out⟩,HKw5.out.trans_ hk6 fun x e=> .inr (by rw[e];exact hwk)⟩
             clear hc6 hb6 hk6 hok6 hx6 hkH6 hcat hsl6 hrb6 hsub HX5 HC5 HB5 HKw5 HS5 HS52 HCs5 HRow5 HAt5 HN15 HN25;refine HOk6.out.mono ?_;rintro e w7 ⟨rfl,e7⟩;subst e7;go_wp2_with fail;go_ret;exact HFin.out
end Go.Proofs.YtamkfdlcdiadlaaGreatDoor
