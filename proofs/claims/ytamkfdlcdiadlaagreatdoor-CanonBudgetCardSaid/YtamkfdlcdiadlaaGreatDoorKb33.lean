/- Canonizers: Canon at Cat of Keep and Norm. -/
import Derived.Test.YtamkfdlcdiadlaaGreatDoorKb05
import Derived.Test.YtamkfdlcdiadlaaGreatDoorKb32
set_option linter.all false
namespace Go.Proofs.YtamkfdlcdiadlaaGreatDoor
open Go.RowKit Go.Maps
variable {H:Nat→Prop}
theorem info_can:(Tryz.prog.info? 33).map (fun i=>(i.zero,i.size,i.bytes))=some (some (.pointer none),1,8):=by kernel_rfl
structure St1 (H1:Nat→Prop)(N0 bb k0 tb ta rb1 l1:Nat)(S1:Pv.Side)(w wr:World):Prop where
 ex:∃k1 kv x1 s1 u1,S1.Ok∧wr.heap[k0]?=some (.cells (CanC tb (.pointer none) (.pointer none) kv (.pointer none) (.pointer none)) 131)∧Row N0 33 wr kv [Ptr k1] ∧
  wr.heap[k1]?=some (.cells (CanC ta (Ptr rb1) (Ptr rb1) (.slice none 0 0) (Ptr s1) x1) 131)∧SideAt (fun x=>H1 x∨kv.ownBlock=some x) wr S1 s1∧BudAt wr bb l1 u1∧k1≠k0∧w.heap.size≤k1
 kp:Keep (· = bb) w wr
 sz:N0≤wr.heap.size
structure St2 (H1:Nat→Prop)(N0 bb k0 tb ta tn rb1 rb2 l2:Nat)(text:List UInt8)(S1 S2:Pv.Side)(w wr:World):Prop where
 ex:∃k1 k2 cb kv x1 x2 s1 s2 u2,S1.Ok∧S2.Ok∧wr.heap[k0]?=some (.cells (CanC tb (.pointer none) (.pointer none) kv (.pointer none) (.pointer none)) 131)∧Row N0 33 wr kv [Ptr k1,Ptr k2] ∧
  wr.heap[k1]?=some (.cells (CanC ta (Ptr rb1) (Ptr rb1) (.slice none 0 0) (Ptr s1) x1) 131)∧SideAt H1 wr S1 s1 ∧
  wr.heap[k2]?=some (.cells (CanC tn (Ptr rb2) (Ptr cb) (.slice none 0 0) (Ptr s2) x2) 131)∧SideAt H1 wr S2 s2∧ReAt H1 wr (Pv.word text) cb∧BudAt wr bb l2 u2∧k1≠k0∧k2≠k0∧w.heap.size≤k1∧w.heap.size≤k2
 kp:Keep (· = bb) w wr
 sz:N0≤wr.heap.size
def Rel3 (w1:World)(A B:World→Prop)(i:Value)(wr:World):Prop:=(i = .int .i64 0∧wr=w1)∨(i = .int .i64 1∧A wr)∨(i = .int .i64 2∧B wr)
theorem Tab.keepB {w w':World}{b l u:Nat}(h:Tab w)(hb:BudAt w b l u)(hk:Keep (· = b) w w'):Tab w':=h.keep hk (fun e=>h.bud hb e.symm)
theorem SideAt.keepT {w w':World}{S:Pv.Side}{s:Nat}(h:SideAt H w S s){H':Nat→Prop}(hk:Keep H' w w')(hH:∀k,H' k→H k∨w.heap.size≤k)(hd:∀k,H' k→∀(cs:Array Value) (fr:Nat × Nat),w.heap[k]?≠some (.cells cs 205 fr)):SideAt H w' S s:=
 h.keep hk hH fun k cs fr e h=>hd k h cs fr e
theorem blk_ty {w:World}{g:Nat}{cs cs':Array Value}{t t':TypeId}{fr fr':Nat × Nat}(h:w.heap[g]?=some (.cells cs t fr))(ht:t≠t'):w.heap[g]?≠some (.cells cs' t' fr'):=fun e=>by
 rw[h]at e;injection e with e
 injection e with _ e
 exact ht e
set_option maxRecDepth 20000 in
set_option maxHeartbeats 4000000 in
theorem canon_head (P:Pv.R→Prop)(hP:∀r c,P r→P (Pv.by_ c r))(hPs:∀r,P r→Pv.size r≤300000)(R1 R2:Pv.R)(hrP:P R2)(tb ta tn rb1 rb2 ka0 kc0 c bb l u:Nat)(at1 at2 at3:Int)(n1 n2 n3 tx1 bk1 text bk2 tx3 bk3:List UInt8)(re3:Value)(w:World)(hT:Tab w)
  (ht1:TermAt w ta 16 at1 n1 (Ptr rb1) tx1 bk1 (.slice none 0 0)) (ht2:TermAt w tn 17 at2 n2 (Ptr rb2) text bk2 (.slice none 0 0)) (ht3:TermAt w tb 8 at3 n3 re3 tx3 bk3 (.slice (some ⟨ka0,0,none⟩) 2 kc0)) (hs0:w.cell? ⟨ka0,0,none⟩=some (Ptr ta)) (hs1:w.cell? ⟨ka0,1,none⟩=some (Ptr tn)) (hka:ka0≠bb)
  (hr1:ReAt H w R1 rb1) (hr2:ReAt H w R2 rb2) (htx:text.length<1000000) (hq:Pv.matchR text R2=true) (hbud:BudAt w bb l u) (hbb:H bb) (hH:∀h,H h→h<w.heap.size) (hz:Pv.size R1+Pv.size R2<1000000) (hl:l<1000000) (hc:CkAt w c bb {})
  (SA XA SB XB S1 S2:Pv.Side) (m1 m2 m3 m4 m5 l_ l1:Nat)
  (e1:Pv.side R1 l=(m1,some SA)) (e2:Pv.side R1 m1=(m2,some XA)) (e3:Pv.side R2 m2=(m3,some SB)) (e4:Pv.side (Pv.word text) m3=(m4,some XB))
  (e5:Pv.ambigCat R1 R2 m4=(m5,some none)) (e6:Pv.ambigCat R1 (Pv.word text) m5=(l_,some none)) (e7:Pv.side (Pv.cat [R1,R2]) l_=(l1,some S1)) (e8:(Pv.side (Pv.cat [R1,Pv.word text]) l1).2=some S2)
  (hmm:m1<1000000∧m2<1000000∧m3<1000000∧m4<1000000∧m5<1000000∧l_<1000000∧l1<1000000)
  (hd1:∀A B l1,Pv.build R1 m4=(l1,some A)→(Pv.build R2 l1).2=some B→A.parts.length+B.parts.length≤12) (hd2:∀A B l1,Pv.build R1 m5=(l1,some A)→(Pv.build (Pv.word text) l1).2=some B→A.parts.length+B.parts.length≤12):
  Calls Tryz.prog 57 #[Ptr c,Ptr tb] w fun e w'=>∃k k1 k2 ka kc wv cv v1 v2 v3 v4 cb2 sa sb s1,e = .returned (Ptr k)∧w.heap.size≤k∧w'.heap[k]?=some (.cells (CanC tb wv cv (.slice (some ⟨ka,0,none⟩) 2 kc) (Ptr s1) v1) 131) ∧
   w'.cell? ⟨ka,0,none⟩=some (Ptr k1)∧w'.cell? ⟨ka,1,none⟩=some (Ptr k2)∧w'.heap[k1]?=some (.cells (CanC ta v2 v3 (.slice none 0 0) (Ptr sa) v4) 131)∧(∃v5 v6,w'.heap[k2]?=some (.cells (CanC tn v5 cb2 (.slice none 0 0) (Ptr sb) v6) 131)) ∧
   SideAt H w' SA sa∧SideAt H w' SB sb∧SideAt H w' S1 s1∧SA.Ok∧SB.Ok∧S1.Ok∧Keep (· = bb) w w':=by
 have hsh:=shaped_cat tb at3 n3 tx3 bk3 w re3 (some ⟨ka0,0,none⟩) kc0 ht3;have t0:w.cell? ⟨tb,0,none⟩=some (.int .i64 8):=cB (o:=0) ht3 rfl;have t6:w.cell? ⟨tb,6,none⟩=some (.slice (some ⟨ka0,0,none⟩) 2 kc0):=cB (o:=6) ht3 rfl;have htl:=blk_lt ht3;have HSh:=Hy hsh;have HT:=Hy hT;have HM1:=Hy ht1;have HM2:=Hy ht2;have HM3:=Hy ht3;have HG0:=Hy hs0;have HG1:=Hy hs1;have HR1:=Hy hr1;have HR2:=Hy hr2
 have HBud:=Hy hbud;have HH:=Hy hH;have HC:=Hy hc;have HQ:=Hy hq;have HP:=Hy hP;have HPs:=Hy hPs;have E1:=Hy e1;have E2:=Hy e2;have E3:=Hy e3;have E4:=Hy e4;have E5:=Hy e5;have E6:=Hy e6;have E7:=Hy e7;have E8:=Hy e8;have HD1:=Hy hd1;have HD2:=Hy hd2;have hbbw:=hH bb hbb;clear hsh hT ht1 ht2 ht3 hs0 hs1 hr1 hr2 hbud hH hc hq hP hPs e1 e2 e3 e4 e5 e6 e7 e8 hd1 hd2;go_enter Tryz.func57,Tryz.ntmps57
 go_wp2_with fail;refine HSh.out.mono ?_;rintro e w' ⟨rfl,rfl⟩;go_wp2_with fail;obtain⟨k,hk⟩:∃k,w.heap.size=k:=⟨_,rfl⟩
 obtain⟨w1,hw1⟩:∃w1,w.alloc (.cells #[Ptr tb,.pointer none,.pointer none,.slice none 0 0,.pointer none,.pointer none] 131)=w1:=⟨_,rfl⟩
 have hb1:Below w.heap.size w w1:=by rw[←hw1];exact(Below.refl _ _).alloc (Nat.le_refl _) _
 have hx1:w1.heap[k]?=some (.cells (CanC tb (.pointer none) (.pointer none) (.slice none 0 0) (.pointer none) (.pointer none)) 131):=by rw[←hw1];exact blk_new hk
 rw[hw1,hk];have hwk:w.heap.size≤k:=by omega
 clear hw1 t0 t6;have HB1:=Hy hb1;have HX1:=Hy hx1;have hkl:=blk_lt hx1;obtain⟨H1,hH1⟩:∃H1:Nat→Prop,(fun x=>H x∨x=k)=H1:=⟨_,rfl⟩
 have hHH1:∀x,H x→H1 x:=fun x h=>by rw[←hH1];exact .inl h
 have hH1w:∀x,H1 x→H x∨w.heap.size≤x:=fun x hx=>by
  rw[←hH1]at hx;rcases hx with hx|hx
  ·exact .inl hx
  ·exact .inr (by omega)
 have H1k:H1 k:=by rw[←hH1];exact .inr rfl
 have H1b:H1 bb:=hHH1 _ hbb;have h1lt:∀h,H1 h→h<w1.heap.size:=fun h hh=>by
  have h4:=hb1.size;rw[←hH1]at hh;rcases hh with hh|hh
  ·have:=HH.out h hh;omega
  ·omega
 have HHH1:=Hy hHH1;have HH1w:=Hy hH1w;have H1lt:=Hy h1lt;have HF1:=Hy (HR1.out.widen hH1w);have HF2:=Hy (HR2.out.widen hH1w);have hcw:=blk_lt HC.out;have hwsz1:=hb1.size;obtain⟨i0,hi0,hy0,hy1,hy2⟩:=info_parts info_can;clear hb1 hx1 hHH1 hH1w h1lt hH1
 go_loopw [58] (fun i wr=>Rel3 w1 (St1 H1 w1.heap.size bb k tb ta rb1 m2 SA w) (St2 H1 w1.heap.size bb k tb ta tn rb1 rb2 m4 text SA SB w) i wr) (fun i _=>(2-intOf i).toNat)
 case atStart=>exact .inl ⟨rfl,rfl⟩
 case round=>
 rcases hrel with⟨rfl,e0⟩|⟨rfl,HSt⟩|⟨rfl,HSt⟩
 ·rw[e0];clear e0 wr;have g0:w1.cell? ⟨ka0,0,none⟩=some (Ptr ta):=later HB1.out HG0.out;have hca:=canon_keep (H:=H1) R1 ta rb1 c bb l u at1 n1 tx1 bk1 w1 (HT.out.later HB1.out) (later_blk HB1.out HM1.out) (HF1.out.later HB1.out) (HBud.out.later HB1.out) H1b H1lt.out (by omega) (by omega) (HC.out.later HB1.out) SA XA (by rw[E1.out]) m1 (by rw[E1.out]) (by omega) (by rw[E2.out]);have HCa:=Hy hca
  clear hca;go_wp2_with fail;refine HCa.out.mono ?_;rintro e w2 ⟨k1,s1,s2,rfl,hk1w,hx2,hsa,hxa,hok1,hok2,⟨u2,hb2⟩,hkp2⟩;rw[E2.out]at hb2;simp only at hb2;have hkbb:k≠bb:=by omega
  have hxk2:=hkp2.blk hkbb HX1.out;have x23:w2.cell? ⟨k,3,none⟩=some (.slice none 0 0):=cB (o:=3) hxk2 rfl;have hsz2:=hkp2.size;have hk1k:k1≠k:=by omega
  have HX2:=Hy hx2;have HXk2:=Hy hxk2;have HSa:=Hy hsa;have HB2:=Hy hb2;have HKp2:=Hy hkp2;have HOk1:=Hy hok1;have hkl2:=blk_lt hxk2;have hk1l2:=blk_lt hx2;clear hx2 hxk2 hsa hxa hb2 hkp2 hok1 hok2 HCa g0
  go_wp2_with (at_builtin;refine app1x 129 33 i0 _ 8 Tryz.underlying129 hi0 hy0 hy1 hy2 rfl (by omega) rfl _ _ rfl w1.heap.size _ [] rfl (Row.nil _ _ _) w2.heap.size _ rfl (blk_new rfl) rfl (by simp) (by simp;omega) ?c2)
  case c2=>
   intro v4 w4 hr4 hb4 hg4 hm4;obtain⟨a4,c4,ev4,_,_⟩:=hr4.form;simp only[List.nil_append,List.length_cons,List.length_nil,Nat.zero_add]at ev4;subst ev4;have hk4:Keep (fun _=>False) w2 w4:=(Keep.alloc w2 _).trans (Keep.of_grown hg4 fun x e=>by cases e);have hxk4:=hk4.blk (fun h=>h) HXk2.out;have x43:w4.cell? ⟨k,3,none⟩=some (.slice none 0 0):=cB (o:=3) hxk4 rfl
   have f43:∀o,w4.frozen? ⟨k,o,none⟩=false:=fun o=>fob hxk4
   have hB4:Below w2.heap.size w2 w4:=hk4.below (Nat.le_refl _) fun x h=>h.elim
   have hsd4:SideAt (fun x=>H1 x∨(Value.slice a4 1 c4).ownBlock=some x) w4 SA s1:=(HSa.out.widen (H':=fun x=>H1 x∨(Value.slice a4 1 c4).ownBlock=some x) (fun x hx=>by
    rcases hx with hx|hx
    ·exact .inl hx
    ·rcases hm4 with h|⟨g,h1,h2⟩
     ·rw[hx]at h;cases h
     ·rw[hx]at h1;cases h1;simp at h2;exact .inr (by omega))).later hB4
   have HXk4:=Hy hxk4;have HK4:=Hy hk4;have HR4:=Hy hr4;have HSd4:=Hy hsd4;clear hr4 hb4 hg4 hm4 hk4 hxk4 hB4 hsd4 x23;go_wp2_with fail;obtain⟨w5,hw5⟩:∃w5,w4.setCell ⟨k,3,none⟩ (.slice a4 1 c4)=w5:=⟨_,rfl⟩
   have hk5:Keep (· = k) w4 w5:=by rw[←hw5];exact Keep.set rfl
   have hxk5:w5.heap[k]?=some (.cells (CanC tb (.pointer none) (.pointer none) (.slice a4 1 c4) (.pointer none) (.pointer none)) 131):=by rw[←hw5,blk_set HXk4.out];rfl
   have hst:St1 H1 w1.heap.size bb k tb ta rb1 m2 SA w w5:=⟨⟨k1,.slice a4 1 c4,_,s1,u2,HOk1.out,hxk5,HR4.out.keep fun g hg hl=>hk5.block g hl (by omega),hk5.blk hk1k (HK4.out.blk (fun h=>h) HX2.out),
     HSd4.out.keep1 hk5 (.inl H1k) HXk4.out (by decide),((HB2.out.keep HK4.out (fun h=>h)).keep hk5 (fun e=>hkbb e.symm)),hk1k,by omega⟩,
    (((Keep.of_below HB1.out).trans HKp2.out).trans (HK4.out.wide fun x h=>h.elim)).trans_ hk5 fun x e=> .inr (by rw[e];exact hwk),by have:=HK4.out.size;have:=hk5.size;omega⟩
   have HSt:=Hy hst;rw[hw5];clear hw5 hk5 hxk5 hst x43 f43;go_roundw
   case rel=>exact .inr (.inl ⟨by go_num,HSt.out⟩)
   case measure=>simp[intOf]
 ·obtain⟨⟨k1,kv,xa,s1,u1,hok1,hxk,hrow,hx1,hsd,hb,hk1k,hk1w⟩,hkp,hsz⟩:=HSt;obtain⟨a1,c1,ekv,_,_⟩:=hrow.form;simp only[List.length_cons,List.length_nil,Nat.zero_add]at ekv;subst ekv;obtain⟨H2,hH2⟩:∃H2:Nat→Prop,(fun x=>H1 x∨(Value.slice a1 1 c1).ownBlock=some x)=H2:=⟨_,rfl⟩
  have h21:∀x,H1 x→H2 x:=fun x h=>by rw[←hH2];exact .inl h
  have h2o:∀x,(Value.slice a1 1 c1).ownBlock=some x→H2 x:=fun x h=>by rw[←hH2];exact .inr h
  have h2w:∀x,H2 x→H x∨w.heap.size≤x:=fun x hx=>by
   rw[←hH2]at hx;rcases hx with hx|hx
   ·exact HH1w.out x hx
   ·have:=(RowK.lt hrow hx).1;exact .inr (by omega)
  have h2lt:∀x,H2 x→x<wr.heap.size:=fun x hx=>by
   rw[←hH2]at hx;rcases hx with hx|hx
   ·have:=H1lt.out x hx;omega
   ·exact(RowK.lt hrow hx).2
  rw[hH2]at hsd;have hkbb:k≠bb:=by omega
  have hcb:c≠bb:=HC.out.ne_bud HBud.out;have htb:tn≠bb:=HM2.out.head.ne HBud.out.2 (by decide);have hrr2:ReAt H2 wr R2 rb2:=(HR2.out.widen h2w).keep (hkp.wide fun x e=> .inl (by rw[e];exact h21 _ H1b));have g1:wr.cell? ⟨ka0,1,none⟩=some (Ptr tn):=hkp.cell hka HG1.out
  have hca:=canon_norm (H:=H2) P HP.out HPs.out R2 hrP tn rb2 c bb m2 u1 at2 n2 text bk2 wr (HT.out.keepB HBud.out hkp) (by omega) HQ.out (hkp.blk htb HM2.out) hrr2 hb (h21 _ H1b) h2lt (by omega) (by omega) (HC.out.keep hkp hcb) SB XB (by rw[E3.out]) m3 (by rw[E3.out]) (by omega) (by rw[E4.out]);have HCa:=Hy hca;have HXk:=Hy hxk;have HRow:=Hy hrow;have HX1':=Hy hx1;have HSd:=Hy hsd;have HBd:=Hy hb
  have HKp:=Hy hkp;have HOk1:=Hy hok1;have H21:=Hy h21;have H2o:=Hy h2o;have hkl2:=blk_lt hxk;clear hca hxk hrow hx1 hsd hb hkp hok1 h21 h2o h2w hrr2 hH2;go_wp2_with fail;refine HCa.out.mono ?_;rintro e w2 ⟨k2,sb,s2,cb,rfl,hcb2,hk2w,hx2,hsb,hxb,hok2,hok3,⟨u2,hb2⟩,hkp2⟩;rw[E4.out]at hb2;simp only at hb2;have hxk2:=hkp2.blk hkbb HXk.out;have hx12:=hkp2.blk (show ¬k1=bb by omega) HX1'.out
  have hrow2:Row w1.heap.size 33 w2 (.slice a1 1 c1) [Ptr k1]:=RowK.kept HRow.out hkp2 fun g hg e=>by have:=(RowK.lt HRow.out hg).1;omega
  have hsd2:SideAt H2 w2 SA s1:=HSd.out.keep1 hkp2 (H21.out _ H1b) HBd.out.2 (by decide);have x23:w2.cell? ⟨k,3,none⟩=some (.slice a1 1 c1):=cB (o:=3) hxk2 rfl;have hsz2:=hkp2.size;have hk2k:k2≠k:=by omega
  have HX2:=Hy hx2;have HX12:=Hy hx12;have HXk2:=Hy hxk2;have HRow2:=Hy hrow2;have HSd2:=Hy hsd2;have HSb:=Hy hsb;have HB2:=Hy hb2;have HKp2:=Hy hkp2;have HOk2:=Hy hok2;have HCb:=Hy hcb2;have hk2l2:=blk_lt hx2;clear hx2 hx12 hxk2 hrow2 hsd2 hsb hxb hb2 hkp2 hok2 hok3 HCa g1 hcb2
  go_wp2_with (at_builtin;refine app1x 129 33 i0 _ 8 Tryz.underlying129 hi0 hy0 hy1 hy2 rfl (by omega) rfl _ _ rfl w1.heap.size _ [Ptr k1] rfl (HRow2.out.alloc _) w2.heap.size _ rfl (blk_new rfl) rfl (by simp) (by simp;omega) ?c2)
  case c2=>
   intro v4 w4 hr4 hb4 hg4 hm4;obtain⟨a4,c4,ev4,_,_⟩:=hr4.form;simp only[List.cons_append,List.nil_append,List.length_cons,List.length_nil,Nat.zero_add]at ev4;subst ev4;have hk4:Keep (fun x=>(Value.slice a1 1 c1).ownBlock=some x) w2 w4:=(Keep.alloc w2 _).trans (Keep.of_grown hg4 fun x e=>e)
   have hty:∀x,(Value.slice a1 1 c1).ownBlock=some x→∃cs,w2.heap[x]?=some (.cells cs 33):=fun x hx=>RowK.ty HRow2.out hx
   have hnk:∀ {b:Nat} {cs:Array Value} {t:TypeId} {fr:Nat × Nat},w2.heap[b]?=some (.cells cs t fr)→t≠33→¬(Value.slice a1 1 c1).ownBlock=some b:=fun h ht e=>by obtain⟨cs,h2⟩:=hty _ e;exact blk_ty h2 (fun e=>ht e.symm) h
   have hxk4:=hk4.blk (hnk HXk2.out (by decide)) HXk2.out;have hx14:=hk4.blk (hnk HX12.out (by decide)) HX12.out;have hx24:=hk4.blk (hnk HX2.out (by decide)) HX2.out;have hsdT:∀ {S:Pv.Side} {s:Nat},SideAt H2 w2 S s→SideAt H2 w4 S s:=fun h=>h.keepT hk4 (fun x e=> .inl (H2o.out x e)) fun x e cs fr=>by obtain⟨cs2,h2⟩:=hty x e;exact blk_ty h2 (by decide)
   have hcb4:ReAt H2 w4 (Pv.word text) cb:=HCb.out.keep (hk4.wide fun x e=> .inl (H2o.out x e));have hbd4:BudAt w4 bb m4 u2:=HB2.out.keep hk4 (hnk HB2.out.2 (by decide));have x43:w4.cell? ⟨k,3,none⟩=some (.slice a1 1 c1):=cB (o:=3) hxk4 rfl;have f43:∀o,w4.frozen? ⟨k,o,none⟩=false:=fun o=>fob hxk4
   have hsz4:=hk4.size;have hkw4:Keep (· = bb) w w4:=((HKp.out.trans HKp2.out)).trans_ hk4 fun x e=> .inr (by have:=(RowK.lt HRow2.out e).1;omega)
   have HXk4:=Hy hxk4;have HX14:=Hy hx14;have HX24:=Hy hx24;have HSa4:=Hy (hsdT HSd2.out);have HSb4:=Hy (hsdT HSb.out);have HCb4:=Hy hcb4;have HBd4:=Hy hbd4;have HKw4:=Hy hkw4;have HR4:=Hy hr4;clear hr4 hb4 hg4 hm4 hk4 hty hnk hxk4 hx14 hx24 hsdT hcb4 hbd4 hkw4 x23;go_wp2_with fail;obtain⟨w5,hw5⟩:∃w5,w4.setCell ⟨k,3,none⟩ (.slice a4 2 c4)=w5:=⟨_,rfl⟩
   have hk5:Keep (· = k) w4 w5:=by rw[←hw5];exact Keep.set rfl
   have hxk5:w5.heap[k]?=some (.cells (CanC tb (.pointer none) (.pointer none) (.slice a4 2 c4) (.pointer none) (.pointer none)) 131):=by rw[←hw5,blk_set HXk4.out];rfl
   have hst:St2 H1 w1.heap.size bb k tb ta tn rb1 rb2 m4 text SA SB w w5:=⟨⟨k1,k2,cb,.slice a4 2 c4,_,_,s1,sb,u2,HOk1.out,HOk2.out,hxk5,HR4.out.keep fun g hg hl=>hk5.block g hl (by omega),hk5.blk hk1k HX14.out,
     (HSa4.out.keep1 hk5 (H21.out _ H1k) HXk4.out (by decide)).widen fun x h=> .inl (H21.out x h),hk5.blk hk2k HX24.out,(HSb4.out.keep1 hk5 (H21.out _ H1k) HXk4.out (by decide)).widen fun x h=> .inl (H21.out x h),
     (HCb4.out.keep (hk5.wide fun x e=> .inl (by rw[e];exact H21.out _ H1k))).widen fun x h=> .inl (H21.out x h),HBd4.out.keep hk5 (fun e=>hkbb e.symm),hk1k,hk2k,hk1w,by omega⟩,
    HKw4.out.trans_ hk5 fun x e=> .inr (by rw[e];exact hwk),by have:=hk5.size;omega⟩
   have HSt:=Hy hst;rw[hw5];clear hw5 hk5 hxk5 hst x43 f43;go_roundw
   case rel=>exact .inr (.inr ⟨by go_num,HSt.out⟩)
   case measure=>simp[intOf]
 ·obtain⟨⟨k1,k2,cb,kv,xa,xb,sa,sb,u2,hok1,hok2,hxk,hrow,hx1,hsa,hx2,hsb,hcb,hb,hk1k,hk2k,hk1w,hk2w⟩,hkp,hsz⟩:=HSt;obtain⟨ka,kc,ekv,hka0⟩:=hrow.get (i:=0) (u:=Ptr k1) rfl;obtain⟨ka',kc',ekv',hka1⟩:=hrow.get (i:=1) (u:=Ptr k2) rfl;rw[ekv]at ekv';cases ekv';simp only[List.length_cons,List.length_nil,Nat.zero_add,Nat.reduceAdd]at ekv;subst ekv;have hkbb:k≠bb:=by omega
  have hcbb:c≠bb:=HC.out.ne_bud HBud.out;have htb:tb≠bb:=HM3.out.head.ne HBud.out.2 (by decide);obtain⟨csk,htyk⟩:=RowK.ty hrow (g:=ka) rfl;have hkak:ka≠k:=fun e=>by rw[e]at htyk;exact blk_ty hxk (by decide) htyk
  have hkab:ka≠bb:=fun e=>by rw[e]at htyk;exact blk_ty hb.2 (by decide) htyk
  have hkH:Keep H1 w wr:=hkp.wide fun x e=> .inl (by rw[e];exact H1b)
  have hszw:=hkp.size;have z1:=hmm;have hty:=types_cat (H:=H1) R1 R2 R1 (Pv.word text) rb1 rb2 rb1 cb c bb k tb k1 k2 ka kc m4 u2 at3 n3 tx3 bk3 re3 (.slice (some ⟨ka0,0,none⟩) 2 kc0) wr (HT.out.keepB HBud.out hkp) hxk (hkp.blk htb HM3.out) hka0 hka1 hx1 hx2
   (HF1.out.keep hkH) (HF2.out.keep hkH) (HF1.out.keep hkH) hcb hb H1b (fun h hh=>by have:=H1lt.out h hh;omega) H1k (HC.out.keep hkp hcbb) (by omega) (by
    have:Pv.size (Pv.word text)≤1+text.length:=by unfold Pv.word;have:=size_cat (text.map fun b=>Pv.one (Pv.S4.of [b]));rw[sizes_ones]at this;exact this
    omega) hk1k hk2k HD1.out (by rw[E5.out]) m5 (by rw[E5.out]) (by omega) HD2.out (by rw[E6.out])
  rw[E6.out]at hty;simp only at hty;have HTy:=Hy hty;have HXk:=Hy hxk;have HKa0:=Hy hka0;have HKa1:=Hy hka1;have HXa:=Hy hx1;have HXb:=Hy hx2;have HSa:=Hy hsa;have HSb:=Hy hsb;have HBr:=Hy hb;have HKp:=Hy hkp;have HOka:=Hy hok1;have HOkb:=Hy hok2;have hkl2:=blk_lt hxk;clear hty hxk hka0 hka1 hx1 hx2 hsa hsb hb hkp hok1 hok2 hrow hcb hkH htyk;go_wp2_with fail;refine HTy.out.mono ?_
  rintro e w2 ⟨nb1,nb2,rfl,hx2,hrw,hrc,⟨u3,hb2⟩,hk2⟩;have hK2:Keep (· = bb) w w2:=HKp.out.trans_ hk2 fun x e=>by
   rcases e with e|e
   ·exact .inr (by rw[e];exact hwk)
   ·exact .inl e
  have hc2:CkAt w2 c bb {}:=HC.out.keep hK2 hcbb;have hT2:Tab w2:=HT.out.keepB HBud.out hK2;have hszw2:=hk2.size;have hzs:Pv.size (Pv.cat [R1,R2])≤1+(Pv.size R1+Pv.size R2):=by have:=size_cat [R1,R2];simpa [Pv.sizes] using this
  have hzs2:Pv.size (Pv.cat [R1,Pv.word text])≤1+(Pv.size R1+(1+text.length)):=by
   have h1:=size_cat [R1,Pv.word text];have h2:Pv.size (Pv.word text)≤1+text.length:=by unfold Pv.word;have:=size_cat (text.map fun b=>Pv.one (Pv.S4.of [b]));rw[sizes_ones]at this;exact this
   simp[Pv.sizes]at h1;omega
  have hz1:Pv.size (Pv.cat [R1,R2])<137438953472:=by omega
  have hz2:Pv.size (Pv.cat [R1,Pv.word text])<137438953472:=by omega
  have hll:l_<274877906944:=by omega
  have hl1l:l1<274877906944:=by omega
  have HX2:=Hy hx2;have HRW:=Hy hrw;have HRC:=Hy hrc;have HB2:=Hy hb2;have HC2:=Hy hc2;have HT2:=Hy hT2;have HK2:=Hy hK2;have HKt:=Hy hk2;have h1lt:Hid (∀h,H1 h→h<w2.heap.size):=fun h hh=>by have:=H1lt.out h hh;omega
  have hHH1:=HHH1;have HS1:Hid ((Pv.side (Pv.cat [R1,R2]) l_).2=some S1):=by show _=_;rw[E7.out]
  have HL1:Hid ((Pv.side (Pv.cat [R1,R2]) l_).1=l1):=by show _=_;rw[E7.out]
  have HS2:=E8;clear hx2 hrw hrc hb2 hc2 hT2 hK2 hk2 HTy hkbb hzs hzs2 z1;have z1:=HX2.out;have c1:w2.cell? ⟨k,1,none⟩=some (Ptr nb1):=cB (o:=1) z1 rfl;have hcb:=HC2.out.ne_bud HB2.out;have hkbb:k≠bb:=by rintro rfl;have h2:=HB2.out.2;rw[HX2.out]at h2;cases h2
  have hsd:=side_any (H:=H1) (Pv.cat [R1,R2]) nb1 c bb l_ u3 w2 HT2.out HRW.out HB2.out H1b h1lt.out hz1 hll HC2.out S1 HS1.out;have HSd:=Hy hsd;clear hsd z1;go_wp2_with fail;refine HSd.out.mono ?_;rintro e w3 ⟨s1,rfl,hs1,hS1,hsz1,hc3,⟨u3,hb3⟩,hk3⟩;rw[HL1.out]at hb3;have hx3:=hk3.blk hkbb HX2.out;have c4:w3.cell? ⟨k,4,none⟩=some (.pointer none):=cB (o:=4) hx3 rfl
  have c2:w3.cell? ⟨k,2,none⟩=some (Ptr nb2):=cB (o:=2) hx3 rfl;have f4:∀o,w3.frozen? ⟨k,o,none⟩=false:=fun o=>fob hx3
  have hT3:Tab w3:=HT2.out.keep hk3 (fun e=>HT2.out.bud HB2.out e.symm);have hkH:Keep H1 w2 w3:=hk3.wide fun x e=> .inl (by rw[e];exact H1b)
  have HRC3:=Hy (HRC.out.keep hkH);have hsz3:=hk3.size;have HX3:=Hy hx3;have HS3:=Hy hs1;have HC3:=Hy hc3;have HB3:=Hy hb3;have HK3:=Hy hk3;have HT3:=Hy hT3;have HOK1:=Hy hS1;clear hx3 hs1 hc3 hb3 hk3 hT3 hkH HSd c1 hS1;go_wp2_with fail;obtain⟨w4,hw4⟩:∃w4,w3.setCell ⟨k,4,none⟩ (Ptr s1)=w4:=⟨_,rfl⟩
  have hk4:Keep (· = k) w3 w4:=by rw[←hw4];exact Keep.set rfl
  have hx4:w4.heap[k]?=some (.cells (CanC tb (Ptr nb1) (Ptr nb2) (.slice (some ⟨ka,0,none⟩) 2 kc) (Ptr s1) (.pointer none)) 131):=by rw[←hw4,blk_set HX3.out];rfl
  rw[hw4];clear hw4 c4 f4;have hs4:=HS3.out.keep1 hk4 H1k HX3.out (by decide);have hb4:BudAt w4 bb l1 u3:=HB3.out.keep hk4 (fun e=>hkbb e.symm);have hkc:c≠k:=by rintro rfl;have h2:=HC3.out;unfold CkAt at h2;rw[HX3.out]at h2;cases h2
  have hc4:=HC3.out.keep hk4 hkc;have hT4:Tab w4:=HT3.out.keep hk4 (fun e=>HT3.out.ne_ptr HX3.out rfl e.symm);have hkH4:Keep H1 w3 w4:=hk4.wide fun x e=> .inl (by rw[e];exact H1k)
  have hrc4:=HRC3.out.keep hkH4;have hsz4:=hk4.size;have hsd:=side_any (H:=H1) (Pv.cat [R1,Pv.word text]) nb2 c bb l1 u3 w4 hT4 hrc4 hb4 H1b (fun h hh=>by have:=h1lt.out h hh;omega) hz2 hl1l hc4 S2 HS2.out;have HSd:=Hy hsd;have HX4:=Hy hx4;have HS4:=Hy hs4;have HB4:=Hy hb4;have HK4:=Hy hk4;clear hs4 hb4 hc4 hT4 hkH4 hrc4 hsd hx4 hk4;refine HSd.out.mono ?_
  rintro e w5 ⟨s2,rfl,hs5,hS2,hsz5,hc5,⟨u5,hb5⟩,hk5⟩;have hx5:=hk5.blk hkbb HX4.out;have hs1':SideAt H1 w5 S1 s1:=HS4.out.keep1 hk5 H1b HB4.out.2 (by decide);have c5:w5.cell? ⟨k,5,none⟩=some (.pointer none):=cB (o:=5) hx5 rfl;have f5:∀o,w5.frozen? ⟨k,o,none⟩=false:=fun o=>fob hx5
  have HX5:=Hy hx5;have HS5:=Hy hs5;have HS1':=Hy hs1';have HC5:=Hy hc5;have HB5:=Hy hb5;have HK5:=Hy hk5;have HOK2:=Hy hS2;clear hx5 hs5 hs1' hc5 hb5 hk5 HSd c2 hS2;go_wp2_with fail;obtain⟨w6,hw6⟩:∃w6,w5.setCell ⟨k,5,none⟩ (Ptr s2)=w6:=⟨_,rfl⟩
  have hk6:Keep (· = k) w5 w6:=by rw[←hw6];exact Keep.set rfl
  have hx6:w6.heap[k]?=some (.cells (CanC tb (Ptr nb1) (Ptr nb2) (.slice (some ⟨ka,0,none⟩) 2 kc) (Ptr s1) (Ptr s2)) 131):=by rw[←hw6,blk_set HX5.out];rfl
  rw[hw6];clear hw6 c5 f5;have hok6:=ok_any c bb {} w6 (HC5.out.keep hk6 hkc);have HOk6:=Hy hok6;have HKr:Hid (Keep (fun x=>x=k∨x=bb) w2 w6):=(((HK3.out.wide fun x e=> .inl (.inr e)).trans (HK4.out.wide fun x e=> .inl (.inl e))).trans (HK5.out.wide fun x e=> .inl (.inr e))).trans (hk6.wide fun x e=> .inl (.inl e))
  have hKall:Keep (· = bb) w w6:=(((HK2.out.trans HK3.out).trans_ HK4.out fun x e=> .inr (by rw[e];exact hwk)).trans HK5.out).trans_ hk6 fun x e=> .inr (by rw[e];exact hwk)
  have HFin:Hid (w.heap.size≤k∧w6.heap[k]?=some (.cells (CanC tb (Ptr nb1) (Ptr nb2) (.slice (some ⟨ka,0,none⟩) 2 kc) (Ptr s1) (Ptr s2)) 131)∧SideAt H w6 S1 s1∧SideAt H w6 S2 s2∧S1.Ok∧S2.Ok∧(∃u',BudAt w6 bb (Pv.side (Pv.cat [R1,Pv.word text]) l1).1 u')∧Keep (· = bb) w w6):=
   ⟨hwk,hx6,(HS1'.out.keep1 hk6 H1k HX5.out (by decide)).widen fun x h=> .inl (hHH1.out x h),(HS5.out.keep1 hk6 H1k HX5.out (by decide)).widen fun x h=> .inl (hHH1.out x h),HOK1.out,HOK2.out,⟨_,HB5.out.keep hk6 (fun e=>hkbb e.symm)⟩,hKall⟩
  have HRW6:=Hy ((((HRW.out.keep (HK3.out.wide fun x e=> .inl (by rw[e];exact H1b))).keep (HK4.out.wide fun x e=> .inl (by rw[e];exact H1k))).keep (HK5.out.wide fun x e=> .inl (by rw[e];exact H1b))).keep (hk6.wide fun x e=> .inl (by rw[e];exact H1k)))
  have HRC6:=Hy (((HRC3.out.keep (HK4.out.wide fun x e=> .inl (by rw[e];exact H1k))).keep (HK5.out.wide fun x e=> .inl (by rw[e];exact H1b))).keep (hk6.wide fun x e=> .inl (by rw[e];exact H1k)));clear hk6 hx6 hok6 hKall;go_wp2_with fail;refine HOk6.out.mono ?_;rintro e w' ⟨rfl,rfl⟩;go_wp2_with fail;go_ret;have HKK:Keep (fun x=>x=k∨x=bb) wr w6:=HKt.out.trans HKr.out
  have hsdT:∀ {S:Pv.Side} {s:Nat},SideAt H1 wr S s→SideAt H w6 S s:=fun h=>(h.keepT HKK (fun x e=>by
   rcases e with e|e
   ·exact .inl (by rw[e];exact H1k)
   ·exact .inl (by rw[e];exact H1b)) (fun x e cs fr=>by
   rcases e with e|e
   ·rw[e];exact blk_ty HXk.out (by decide)
   ·rw[e];exact blk_ty HBr.out.2 (by decide))).widen fun x h=> .inl (HHH1.out x h)
  have hnk1:¬(k1=k∨k1=bb):=by omega
  have hnk2:¬(k2=k∨k2=bb):=by omega
  have hnka:¬(ka=k∨ka=bb):=by omega
  exact⟨k,k1,k2,ka,kc,_,_,_,_,_,_,_,sa,sb,s1,rfl,HFin.out.1,HFin.out.2.1,HKK.cell hnka HKa0.out,HKK.cell hnka HKa1.out,HKK.blk hnk1 HXa.out,⟨_,_,HKK.blk hnk2 HXb.out⟩,hsdT HSa.out,hsdT HSb.out,HFin.out.2.2.1,HOka.out,HOkb.out,HFin.out.2.2.2.2.1,HFin.out.2.2.2.2.2.2.2⟩
end Go.Proofs.YtamkfdlcdiadlaaGreatDoor
namespace Go.Proofs.YtamkfdlcdiadlaaGreatDoor
open Go.RowKit Go.Maps
variable {H:Nat→Prop}
abbrev RunAt (w:World)(r fb:Nat):Prop:=w.heap[r]?=some (.cells #[Ptr fb,.bool false,.int .i64 0] 179)
theorem rside_any (r fb k tb s:Nat)(wv cv kv x:Value)(w:World)(h:RunAt w r fb)(hk:w.heap[k]?=some (.cells (CanC tb wv cv kv (Ptr s) x) 131)):Pure 120 #[Ptr r,Ptr k] w (Ptr s):=by have x1:w.cell? ⟨r,1,none⟩=some (.bool false):=cB (o:=1) h rfl;have x4:w.cell? ⟨k,4,none⟩=some (Ptr s):=cB (o:=4) hk rfl;clear h hk;go_enter Tryz.func120,Tryz.ntmps120;go_wp2_with fail;go_ret;exact⟨rfl,rfl⟩
theorem failed_ok (r fb:Nat)(w:World)(h:RunAt w r fb):Calls Tryz.prog 158 #[Ptr r,.int .i64 0] w fun e w'=>e = .returned (.bool false)∧RunAt w' r fb∧Keep (· = r) w w':=by
 have x2:w.cell? ⟨r,2,none⟩=some (.int .i64 0):=cB (o:=2) h rfl;have fr:∀o,w.frozen? ⟨r,o,none⟩=false:=fun o=>fob h
 have HR:=Hy h;clear h;go_enter Tryz.func158,Tryz.ntmps158;go_wp2_with fail;go_ret;exact⟨rfl,by unfold RunAt;rw[blk_set HR.out];rfl,Keep.set rfl⟩
theorem burn_ok (b n:Nat)(f:Pv.Fuel)(w:World)(h:FuelAt w b f)(hn:n<4611686018427387904)(hb:n≤f.left):Calls Tryz.prog 156 #[Ptr b,.int .i64 (n:Int)] w fun e w'=>
  e = .returned (.int .i64 0)∧FuelAt w' b ⟨f.left-n,f.used+n⟩∧Keep (· = b) w w':=by
 have:=burn_any b n f w h hn;have e1:f.burn n=(⟨f.left-n,f.used+n⟩,0):=by unfold Pv.Fuel.burn;rw[if_neg (by omega)]
 rw[e1]at this;exact this
def leafO (op:Nat)(text s:List UInt8):List UInt8:=if op=17 then text else s
set_option maxRecDepth 20000 in
theorem leaf_any (op:Nat)(hop:op=16∨op=17)(r fb k tb:Nat)(at_:Int)(name text back s:List UInt8)(re kids wv cv kv v4 v5:Value)(f:Pv.Fuel)(w:World)(h:RunAt w r fb)(hk:w.heap[k]?=some (.cells (CanC tb wv cv kv v4 v5) 131))(ht:TermAt w tb op at_ name re text back kids)
  (hf:FuelAt w fb f) (hs:s.length<1000000) (hs2:(leafO op text s).length<1000000) (hb:s.length+(leafO op text s).length+1≤f.left):
  Calls Tryz.prog 161 #[Ptr r,Ptr k,Str s] w fun e w'=>e = .returned (Str (leafO op text s))∧RunAt w' r fb∧FuelAt w' fb ⟨f.left-(s.length+(leafO op text s).length+1),f.used+(s.length+(leafO op text s).length+1)⟩∧Keep (fun x=>x=r∨x=fb) w w':=by
 have x0:w.cell? ⟨r,0,none⟩=some (Ptr fb):=cB (o:=0) h rfl;have y0:w.cell? ⟨k,0,none⟩=some (Ptr tb):=cB (o:=0) hk rfl;have t4:w.cell? ⟨tb,4,none⟩=some (Str text):=cB (o:=4) ht rfl;have hbu:=burn_ok fb (s.length+(leafO op text s).length+1) f w hf (by omega) hb;have hrf:r≠fb:=by rintro rfl;have h2:=hf.2;rw[h]at h2;cases h2
 have HR:=Hy h;have HBu:=Hy hbu;have hfd:∀w1,Keep (· = fb) w w1→Calls Tryz.prog 158 #[Ptr r,.int .i64 0] w1 fun e w'=>e = .returned (.bool false)∧RunAt w' r fb∧Keep (· = r) w1 w':=fun w1 hk1=>failed_ok r fb w1 (hk1.blk hrf h)
 have HFd:=Hy hfd;rcases hop with rfl|rfl
 ·have t0:w.cell? ⟨tb,0,none⟩=some (.int .i64 16):=cB (o:=0) ht rfl;have e1:leafO 16 text s=s:=rfl;rw[e1]at HBu hs2 ⊢;clear h hk ht hf hbu hfd hb;have hw1:IntKind.i64.wrap ((s.length:Int)+s.length)=(s.length:Int)+s.length:=by rw[IntKind.wrap_i64]<;>omega
  have hw2:IntKind.i64.wrap ((s.length:Int)+s.length+1)=((s.length+s.length+1:Nat):Int):=by rw[IntKind.wrap_i64]<;>omega
  go_enter Tryz.func161,Tryz.ntmps161;go_wp2_with fail;refine HBu.out.mono ?_;rintro e w1 ⟨rfl,hf1,hk1⟩;have HF1:=Hy hf1;have HK1:=Hy hk1;clear hf1 hk1 HBu x0 y0 t0 t4 hw1 hw2;go_wp2_with fail;refine(HFd.out w1 HK1.out).mono ?_;rintro e w2 ⟨rfl,hr2,hk2⟩
  have HFin:Hid (RunAt w2 r fb∧FuelAt w2 fb ⟨f.left-(s.length+s.length+1),f.used+(s.length+s.length+1)⟩∧Keep (fun x=>x=r∨x=fb) w w2):=⟨hr2,HF1.out.keep hk2 (fun e=>hrf e.symm),(HK1.out.wide fun x e=> .inl (.inr e)).trans (hk2.wide fun x e=> .inl (.inl e))⟩
  clear hr2 hk2 HF1 HK1 HFd;go_wp2_with fail;go_ret;exact⟨rfl,HFin.out⟩
 ·have t0:w.cell? ⟨tb,0,none⟩=some (.int .i64 17):=cB (o:=0) ht rfl;have e1:leafO 17 text s=text:=rfl;rw[e1]at HBu hs2 ⊢;clear h hk ht hf hbu hfd hb;have hw1:IntKind.i64.wrap ((s.length:Int)+text.length)=(s.length:Int)+text.length:=by rw[IntKind.wrap_i64]<;>omega
  have hw2:IntKind.i64.wrap ((s.length:Int)+text.length+1)=((s.length+text.length+1:Nat):Int):=by rw[IntKind.wrap_i64]<;>omega
  go_enter Tryz.func161,Tryz.ntmps161;go_wp2_with fail;refine HBu.out.mono ?_;rintro e w1 ⟨rfl,hf1,hk1⟩;have HF1:=Hy hf1;have HK1:=Hy hk1;clear hf1 hk1 HBu x0 y0 t0 t4 hw1 hw2;go_wp2_with fail;refine(HFd.out w1 HK1.out).mono ?_;rintro e w2 ⟨rfl,hr2,hk2⟩
  have HFin:Hid (RunAt w2 r fb∧FuelAt w2 fb ⟨f.left-(s.length+text.length+1),f.used+(s.length+text.length+1)⟩∧Keep (fun x=>x=r∨x=fb) w w2):=⟨hr2,HF1.out.keep hk2 (fun e=>hrf e.symm),(HK1.out.wide fun x e=> .inl (.inr e)).trans (hk2.wide fun x e=> .inl (.inl e))⟩
  clear hr2 hk2 HF1 HK1 HFd;go_wp2_with fail;go_ret;exact⟨rfl,HFin.out⟩
set_option maxRecDepth 20000 in
theorem run_leaf (op:Nat)(hop:op=16∨op=17)(r fb k tb:Nat)(at_:Int)(name text back s:List UInt8)(re kids wv cv kv v4 v5:Value)(f:Pv.Fuel)(w:World)(h:RunAt w r fb)(hk:w.heap[k]?=some (.cells (CanC tb wv cv kv v4 v5) 131))(ht:TermAt w tb op at_ name re text back kids)
  (hf:FuelAt w fb f) (hs:s.length<1000000) (hs2:(leafO op text s).length<1000000) (hb:s.length+(leafO op text s).length+1≤f.left):
  Calls Tryz.prog 122 #[Ptr r,Ptr k,Str s] w fun e w'=>e = .returned (Str (leafO op text s))∧RunAt w' r fb∧FuelAt w' fb ⟨f.left-(s.length+(leafO op text s).length+1),f.used+(s.length+(leafO op text s).length+1)⟩∧Keep (fun x=>x=r∨x=fb) w w':=by
 have hl:=leaf_any op hop r fb k tb at_ name text back s re kids wv cv kv v4 v5 f w h hk ht hf hs hs2 hb;have HL:=Hy hl;have x2:w.cell? ⟨r,2,none⟩=some (.int .i64 0):=cB (o:=2) h rfl;have y0:w.cell? ⟨k,0,none⟩=some (Ptr tb):=cB (o:=0) hk rfl;have hz:w.cell? ⟨tb,0,none⟩=some (.int .i64 (op:Int)):=cB (o:=0) ht rfl;generalize leafO op text s=out at *;clear h hk ht hf hl hb;rcases hop with rfl|rfl
 ·have t0:w.cell? ⟨tb,0,none⟩=some (.int .i64 16):=hz;clear hz;go_enter Tryz.func122,Tryz.ntmps122;go_wp2_with fail;refine HL.out.mono ?_;rintro e w1 ⟨rfl,h1⟩;have H1:=Hy h1;clear h1 HL x2 y0 t0;go_wp2_with fail;go_ret;exact⟨rfl,H1.out⟩
 ·have t0:w.cell? ⟨tb,0,none⟩=some (.int .i64 17):=hz;clear hz;go_enter Tryz.func122,Tryz.ntmps122;go_wp2_with fail;refine HL.out.mono ?_;rintro e w1 ⟨rfl,h1⟩;have H1:=Hy h1;clear h1 HL x2 y0 t0;go_wp2_with fail;go_ret;exact⟨rfl,H1.out⟩
end Go.Proofs.YtamkfdlcdiadlaaGreatDoor
