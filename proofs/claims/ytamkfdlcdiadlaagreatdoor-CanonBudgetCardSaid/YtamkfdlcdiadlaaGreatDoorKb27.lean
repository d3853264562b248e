/- ambig: the text that led to a spot, and its places. -/
import Derived.Test.YtamkfdlcdiadlaaGreatDoorKb05
import Derived.Test.YtamkfdlcdiadlaaGreatDoorKb26
import Derived.Test.YtamkfdlcdiadlaaGreatDoorKb24
import Derived.Test.YtamkfdlcdiadlaaGreatDoorKb11
import Derived.Test.YtamkfdlcdiadlaaGreatDoorKb03
set_option linter.all false
namespace Go.Proofs.YtamkfdlcdiadlaaGreatDoor
open Go.RowKit Go.Maps
variable {H:Nat→Prop}
def StepsAt (w:World)(gs:Nat)(tr:Pv.Trail):Prop:=∀(i:Nat) (x:Pv.Spot) (st:Pv.Step),tr[i]?=some (x,st)→w.cell? ⟨gs,i*3,none⟩=some (.int .i64 st.from_)∧w.cell? ⟨gs,i*3+1,none⟩=some (byteV st.by_)∧w.cell? ⟨gs,i*3+2,none⟩=some (.bool st.free)
theorem StepsAt.later {w w':World}{gs:Nat}{tr:Pv.Trail}(h:StepsAt w gs tr)(hb:Below w.heap.size w w'):StepsAt w' gs tr:=fun i x st hi=>
 ⟨Go.Proofs.YtamkfdlcdiadlaaGreatDoor.later hb (h i x st hi).1,Go.Proofs.YtamkfdlcdiadlaaGreatDoor.later hb (h i x st hi).2.1,Go.Proofs.YtamkfdlcdiadlaaGreatDoor.later hb (h i x st hi).2.2⟩
theorem SrAt.stepsAt {N0:Nat}{w:World}{s a b M bb:Nat}{A B:Pv.Dfa}{lv sv:Value}{tr:Pv.Trail}{l u:Nat}(hs:SrAt H N0 w s a b M bb A B lv sv tr l u)(h0:0<tr.length):
  ∃gs cap,w.cell? ⟨s,4,none⟩=some (.slice (some ⟨gs,0,none⟩) tr.length cap)∧StepsAt w gs tr:=by
 rcases RowK.blk hs.steps with⟨_,e,_⟩|⟨gl,cap,cur,rfl,_,hcur,hn,_,hsz,htk⟩
 ·omega
 ·refine ⟨gl,cap,cB (o:=4) hs.sr rfl,fun i x st hi => ?_⟩;have hil:=(List.getElem?_eq_some_iff.1 hi).1;have key:∀(j:Nat) (v:Value),(stepC st)[j]?=some v→w.cell? ⟨gl,i*3+j,none⟩=some v:=fun j v hj=>by
   have hjl:j<3:=by have:=(List.getElem?_eq_some_iff.1 hj).1;simpa using this
   refine cB hcur ?_;have h1:(cur.toList.take (tr.length*3))[i*3+j]?=some v:=by
    rw[htk];clear htk hs hcur hsz hn h0;induction tr generalizing i with
    | nil=>simp at hi
    | cons y tr ih=>
      cases i with
      | zero=>
        simp at hi;subst hi;rw[List.flatMap_cons,List.getElem?_append_left (by simp;omega)];simpa using hj
      | succ i=>
        rw[List.flatMap_cons,List.getElem?_append_right (by simp;omega)];have:=ih i (by simpa using hi) (by simpa using hil);rw[←this];congr 1;simp;omega
   rw[List.getElem?_take,if_pos (by omega)]at h1;simpa using h1
  exact⟨key 0 _ rfl,key 1 _ rfl,key 2 _ rfl⟩
def TwoI (tr:Pv.Trail)(i0:Nat)(base:Nat)(wr:World)(k:Nat)(v5 v6:Value):Prop:=∃(out:List UInt8) (pl:List Nat) (f:Nat),Row base 5 wr v5 (out.map byteV)∧Row base 3 wr v6 (pl.map intV) ∧
 k<f∧out.length+pl.length+k≤i0∧(∀q∈pl,q≤out.length)∧Pv.twoGo tr f k out pl=Pv.twoGo tr (tr.length+1) i0 [] []
open Go.Sort Go.Lib in
theorem breverse_any (base:Nat)(v:Value)(l:List UInt8)(w:World)(h:Row base 5 w v (l.map byteV))(hl:l.length<1099511627776)(hb:base≤w.heap.size):
  Calls Tryz.prog 204 #[v] w fun e w'=>e = .returned (.tuple #[])∧Row base 5 w' v (l.reverse.map byteV)∧(∀b,b<w.heap.size→some b≠v.ownBlock→w'.heap[b]?=w.heap[b]?)∧Below base w w':=by
 rcases RowK.blk h with⟨rfl,e,_⟩|⟨g,cap,cur,rfl,hg,hblk,hle,hmax,hsz,htk⟩
 ·have:l=[]:=by simpa using e
  subst this;refine(Tryz.slices_Reverse_empty_f204 (α:=Nat) none 0 w).mono ?_;rintro e w' ⟨rfl,rfl⟩;exact⟨rfl,h,fun _ _ _=>rfl,Below.refl _ _⟩
 ·rw[List.length_map]at hle htk ⊢;rw[Nat.mul_one]at htk hsz;have hH:Holds byteV w g 0 l.toArray:=fun j hj=>by
   have hj':j<l.length:=by simpa using hj
   rw[getElem!_pos l.toArray j hj,Nat.zero_add];refine⟨cB hblk ?_,fob hblk⟩;have:(cur.toList.take l.length)[j]?=some (byteV l[j]):=by rw[htk];simp[hj']
   rw[List.getElem?_take,if_pos hj']at this;simpa using this
  refine(Tryz.slices_Reverse_f204 byteV (fun _=>rfl) g 0 cap l w hH (by omega)).mono ?_;rintro e w' ⟨rfl,n,rfl⟩;have e0:putRow byteV (Sort.ahead w n) g 0 l.reverse.toArray=sortWorld byteV w g 0 n l.reverse.toArray #[]:=by unfold sortWorld;rw[grow_empty]
  rw[e0];refine⟨rfl,?_,?_,sw_below byteV w base g n _ #[] hg (blk_lt hblk)⟩
  ·have:=sw_row byteV (base:=base) (m:=n) (os:=#[]) (dk:=l.reverse.toArray) hblk hg hsz (by simpa using hle) hmax;simpa using this
  ·intro b hb hne;exact sw_ne byteV w g n _ #[] hb (fun e=>hne (by rw[e];rfl))
set_option maxRecDepth 20000 in
set_option maxHeartbeats 4000000 in
theorem two_any (tr:Pv.Trail)(hgd:∀(i:Nat) (x:Pv.Spot) (st:Pv.Step),tr[i]?=some (x,st)→st.from_<(i:Int))(i0:Nat)(hi0:i0<tr.length)(hpl:2≤(Pv.twoGo tr (tr.length+1) i0 [] []).2.length)(hlt:tr.length<549755813888)(s gs cap:Nat)(w:World)
  (hs:w.cell? ⟨s,4,none⟩=some (.slice (some ⟨gs,0,none⟩) tr.length cap)) (hst:StepsAt w gs tr):
  Calls Tryz.prog 182 #[Ptr s,.int .i64 (i0:Int)] w fun e w'=>e = .returned (.agg #[Str (Pv.twoOf tr i0).text,.int .i64 (Pv.twoOf tr i0).i,.int .i64 (Pv.twoOf tr i0).j])∧Below w.heap.size w w':=by
 obtain⟨iB,hiB,hB0,hB1,hB2⟩:=info_parts info_u8';obtain⟨iP,hiP,hP0,hP1,hP2⟩:=info_parts info_int';have HS:=Hy hs;have HSt:=Hy hst;have HGd:=Hy hgd;have HPl:=Hy hpl;clear hs hst hgd hpl;go_enter Tryz.func182,Tryz.ntmps182;go_wp2_with fail;obtain⟨r,hr⟩:∃n,w.heap.size=n:=⟨_,rfl⟩
 obtain⟨w1,hw1⟩:∃w1,w.alloc (.cells #[.string ⟨#[]⟩,.int .i64 0,.int .i64 0] 223)=w1:=⟨_,rfl⟩
 have hb1:Below w.heap.size w w1:=by rw[←hw1];exact(Below.refl _ _).alloc (Nat.le_refl _) _
 have hx1:w1.heap[r]?=some (.cells #[.string ⟨#[]⟩,.int .i64 0,.int .i64 0] 223):=by rw[←hw1];exact blk_new hr
 have hsz1:w1.heap.size=r+1:=by rw[←hw1,←hr];simp
 rw[hr,hw1];clear hw1;have HW1:=Hy hb1;have HX1:=Hy hx1;have HZ1:=Hy hsz1;have HRr:=Hy hr;clear hb1 hx1 hsz1 hr;go_loopw [1,5,6] (fun i v5 v6 wr=>∃(k:Nat),i = .int .i64 k∧k<tr.length∧Hid (TwoI tr i0 (r+1) wr k v5 v6)∧Hid (Below (r+1) w1 wr)) (fun i _ _ _=>(intOf i).toNat)
 case atStart=>exact⟨i0,rfl,hi0,⟨[],[],tr.length+1,Row.nil _ _ _,Row.nil _ _ _,by omega,by simp,(fun _ h=>by cases h),rfl⟩,Below.refl _ _⟩
 case round=>
  obtain⟨k,rfl,hk,HI,HB⟩:=hrel;obtain⟨out,pl,f,hro,hrp,hkf,hlen,hpq,hgo⟩:=HI.out;obtain⟨⟨x,st⟩,hxs⟩:∃xs,tr[k]?=some xs:=⟨tr[k],List.getElem?_eq_getElem hk⟩
  have hszr:r+1≤wr.heap.size:=by have:=HB.out.size;have:=HZ1.out;omega
  have hbW:Below w.heap.size w wr:=HW1.out.trans (HB.out.mono (by have:=HRr.out;omega));obtain⟨c0,c1,c2⟩:=(HSt.out.later hbW) k x st hxs;have s4:=later hbW HS.out;have hfrom:=HGd.out k x st hxs;obtain⟨f',rfl⟩:∃g,f=g+1:=⟨f-1,by omega⟩
  have hk':(k:Int)<tr.length:=by omega
  have hk40:(k:Int)<1099511627776:=by omega
  have HGo:=Hy hgo;have HRo:=Hy hro;have HRp:=Hy hrp;have HXs:=Hy hxs;have HPq:=Hy hpq;clear hgo hro hrp hxs HI hpq;by_cases hneg:st.from_<0
  ·have hexit:Pv.twoGo tr (f'+1) k out pl=(out,pl):=by unfold Pv.twoGo;rw[HXs.out];simp only;rw[if_pos hneg]
   have hfin:=HGo.out;rw[hexit]at hfin;have hge:decide ((0:Int)≤st.from_)=false:=decide_eq_false (by omega);have HFin:=Hy hfin;obtain⟨a5,c5,e5,_,_⟩:=HRo.out.form;rw[List.length_map]at e5;subst e5;clear hexit hfin HGo hneg c1 c2;go_wp2_with fail;refine(breverse_any (r+1) _ out wr HRo.out (by omega) hszr).mono ?_;rintro e w2 ⟨rfl,hr2,hk2,hb2⟩
   have hkeep:Keep (fun b=>(Value.slice a5 out.length c5).ownBlock=some b) wr w2:=⟨hb2.os,hb2.tape,hb2.output,hb2.size,fun b hb hn=>hk2 b hb (fun e=>hn e.symm)⟩
   have hrp2:Row (r+1) 3 w2 u6 (pl.map intV):=RowK.kept (G:=fun b=>(Value.slice a5 out.length c5).ownBlock=some b) HRp.out hkeep (fun g hg hg2=>by obtain⟨cs,h1⟩:=RowK.ty HRo.out hg2;exact RowK.ne HRp.out h1 (by decide) hg)
   obtain⟨q0,q1,qr,hq⟩:∃q0 q1 qr,pl=q0::q1::qr:=by
    have h1:=HPl.out;rw[←HFin.out]at h1
    match pl,h1 with
    | q0::q1::qr,_=>exact⟨q0,q1,qr,rfl⟩
   subst hq;obtain⟨gp,cp,ep,hp0⟩:=Row.get hrp2 (i:=0) (u:=intV q0) rfl;obtain⟨gp',cp',ep',hp1⟩:=Row.get hrp2 (i:=1) (u:=intV q1) rfl;rw[ep]at ep';obtain⟨n,hn⟩:∃n,(List.map intV (q0::q1::qr)).length=n:=⟨_,rfl⟩
   have hn2:1<n:=by rw[←hn];simp
   rw[hn]at ep ep';have hn2':(1:Int)<n:=by omega
   have hn20:0<n:=by omega
   have egp:gp'=gp:=by
    injection ep' with e1 _ _
    injection e1 with e1
    injection e1 with e1
    exact e1.symm
   rw[egp]at hp1;subst ep;have hq0:q0≤out.length:=HPq.out q0 (by simp);have hq1:q1≤out.length:=HPq.out q1 (by simp);have hol:out.length<549755813888:=by simp at hlen;omega
   have hs0:IntKind.i64.wrap ((out.length:Int)-(q0:Int))=(out.length:Int)-(q0:Int):=by rw[IntKind.wrap_i64]<;>omega
   have hs1:IntKind.i64.wrap ((out.length:Int)-(q1:Int))=(out.length:Int)-(q1:Int):=by rw[IntKind.wrap_i64]<;>omega
   have hcv:∀W,Below w2.heap.size w2 W→(convert 135 9 (.slice a5 out.length c5)).run Tryz.prog W = .ok (Str out.reverse) W:=fun W hb=>conv_row (hr2.later hb)
   have hcv0:=hcv w2 (Below.refl _ _);have hcv1:=hcv w2.drew (Below.refl _ _).drew;have hB2:=HB.out.trans hb2;have hx2:w2.heap[r]?=some (.cells #[.string ⟨#[]⟩,.int .i64 0,.int .i64 0] 223):=(hB2.block r (by omega)).trans HX1.out;have x0:w2.cell? ⟨r,0,none⟩=some (.string ⟨#[]⟩):=cB (o:=0) hx2 rfl;have x1:w2.cell? ⟨r,1,none⟩=some (.int .i64 0):=cB (o:=1) hx2 rfl
   have x2:w2.cell? ⟨r,2,none⟩=some (.int .i64 0):=cB (o:=2) hx2 rfl;have fr:∀o,w2.frozen? ⟨r,o,none⟩=false:=fun o=>fob hx2
   have HX2:=Hy hx2;have HBf:=Hy (HW1.out.trans (hB2.mono (by have:=HRr.out;omega)));have HCv:=Hy hcv;clear hn ep' hcv hB2 hx2 hr2 hk2 hb2 hkeep hrp2 hq0 hq1 s4 c0 hge HRp HRo hbW;go_wp2_with fail
   refine Eag.region (.mov 0 (.mov 1 (.mov 2 (.mov 3 (.mov 4 (.mov 5 (.mov 6 (.mov 7 (.mov 8 (.mov 9 (.mov 10 (.mov 11 (.mov 12 (.anc 13 Eag.Sch.fin)))))))))))))) [13] (by kernel_rfl) (by kernel_rfl) (fun K ops hops hK => ?_);iterate 1
    refine Eag.mov hops rfl rfl (fun w' hb => ?_) ?_
    ·clear hb;go_simp
    go_simp
   refine Eag.mov hops rfl rfl (fun w' hb => ?_) ?_
   ·have hq:=HCv.out w' ((Below.refl _ w2).drew.trans hb);clear hb;go_simp
   go_simp;iterate 11
    refine Eag.mov hops rfl rfl (fun w' hb => ?_) ?_
    ·have q0:=later hb hp0;have q1:=later hb hp1;clear hb;go_simp
    go_simp
   refine Eag.anc hops rfl rfl ?_;go_wp2_with fail;refine Eag.fin (hK _ _ ?_);clear hK hops;go_simp;go_wp2_with fail;refine bodyPost_ret (v:= .agg #[Str out.reverse,.int .i64 ((out.length:Int)-(q1:Int)),.int .i64 ((out.length:Int)-(q0:Int))]) ?_ rfl ⟨?_,?_⟩
   ·simp[results,Tryz.results182,go_sem,x0,x1,x2,Str]
   ·unfold Pv.twoOf;rw[←HFin.out];rfl
   ·have hrr:w.heap.size≤r:=by have:=HRr.out;omega
    exact(((HBf.out.setCell hrr _).setCell hrr _).setCell hrr _).drew
  ·obtain⟨k2,hk2⟩:∃k2:Nat,st.from_=k2:=⟨st.from_.toNat,by omega⟩
   rw[hk2]at c0 hfrom;have HK2:=Hy hk2;have hk2k:k2<k:=by omega
   have hge:decide ((0:Int)≤(k2:Int))=true:=decide_eq_true (by omega);obtain⟨a5,c5,e5,_,_⟩:=HRo.out.form;rw[List.length_map]at e5;subst e5;cases hfr:st.free with
   | true=>
     have hgo':Pv.twoGo tr (f'+1) k out pl=Pv.twoGo tr f' k2 out (pl++[out.length]):=by
      conv=>lhs;unfold Pv.twoGo
      rw[HXs.out];simp only;rw[if_neg hneg,hfr,if_pos rfl,hk2];simp
     have hg2:=HGo.out;rw[hgo']at hg2;have HG2:=Hy hg2;rw[hfr]at c2;clear hgo' hg2 HGo hneg hk2 hfr c1;go_wp2_with (at_builtin;refine app1 212 3 iP _ 8 Tryz.underlying212 hiP hP0 hP1 hP2 rfl (by omega) rfl _ _ rfl (r+1) u6 (pl.map intV) rfl ?p1 wr.heap.size (.int .i64 (out.length:Int)) rfl ?p2 rfl ?p3 ?p4 ?p5)
     case p1=>exact HRp.out.alloc _
     case p2=>exact blk_new rfl
     case p3=>simp;omega
     case p4=>simp;omega
     case p5=>
      intro v1 w2 hr2 hb2 hg2;have hro2:=Hy (show Row (r+1) 5 w2 (.slice a5 out.length c5) (out.map byteV) from RowK.other (HRo.out.alloc _) (HRp.out.alloc _) (by decide) hg2);have hB2:=Hy ((HB.out.alloc hszr (.cells #[.int .i64 (out.length:Int)] 3)).trans hb2);have HR2:=Hy hr2;have hbW2:Below w.heap.size w w2:=HW1.out.trans (hB2.out.mono (by have:=HRr.out;omega))
      have d0:=((HSt.out.later hbW2) k x st HXs.out).1;rw[HK2.out]at d0;have d4:=later hbW2 HS.out;clear hr2 hb2 hg2 hbW2 c0 c2 s4 hbW;go_wp2_with fail;go_roundw
      case rel=>exact⟨k2,rfl,by omega,⟨out,pl++[out.length],f',hro2.out,by simpa using HR2.out,by omega,by simp;omega,(fun q hq=>by
       rcases List.mem_append.1 hq with hq|hq
       ·exact HPq.out q hq
       ·rw[List.mem_singleton.1 hq];exact Nat.le_refl _),HG2.out⟩,hB2.out⟩
      case measure=>simp[intOf];omega
   | false=>
     have hgo':Pv.twoGo tr (f'+1) k out pl=Pv.twoGo tr f' k2 (out++[st.by_]) pl:=by
      conv=>lhs;unfold Pv.twoGo
      rw[HXs.out];simp only;rw[if_neg hneg,hfr,hk2];simp
     have hg2:=HGo.out;rw[hgo']at hg2;have HG2:=Hy hg2;rw[hfr]at c2;obtain⟨b,hb⟩:∃b,st.by_=b:=⟨_,rfl⟩
     have c1':wr.cell? ⟨gs,k*3+1,none⟩=some (.int .u8 (b.toNat:Int)):=by rw[←hb];exact c1
     have HBy:=Hy hb;clear hgo' hg2 HGo hneg hk2 hfr c1 hb;go_wp2_with (at_builtin;refine app1 135 5 iB _ 1 Tryz.underlying135 hiB hB0 hB1 hB2 rfl (by omega) rfl _ _ rfl (r+1) (.slice a5 out.length c5) (out.map byteV) rfl ?q1 wr.heap.size (.int .u8 (b.toNat:Int)) rfl ?q2 rfl ?q3 ?q4 ?q5)
     case q1=>exact HRo.out.alloc _
     case q2=>exact blk_new rfl
     case q3=>simp;omega
     case q4=>simp;omega
     case q5=>
      intro v1 w2 hr2 hb2 hg2;have hrp2:=Hy (show Row (r+1) 3 w2 u6 (pl.map intV) from RowK.other (HRp.out.alloc _) (HRo.out.alloc _) (by decide) hg2);have hB2:=Hy ((HB.out.alloc hszr (.cells #[.int .u8 (b.toNat:Int)] 5)).trans hb2);have HR2:=Hy hr2;have hbW2:Below w.heap.size w w2:=HW1.out.trans (hB2.out.mono (by have:=HRr.out;omega));have d0:=((HSt.out.later hbW2) k x st HXs.out).1;rw[HK2.out]at d0
      have d4:=later hbW2 HS.out;clear hr2 hb2 hg2 hbW2 c0 c2 c1' s4 hbW;go_wp2_with fail;go_roundw
      case rel=>exact⟨k2,rfl,by omega,⟨out++[st.by_],pl,f',by rw[HBy.out];simpa using HR2.out,hrp2.out,by omega,by simp;omega,(fun q hq=>by have:=HPq.out q hq;simp;omega),HG2.out⟩,hB2.out⟩
      case measure=>simp[intOf];omega
end Go.Proofs.YtamkfdlcdiadlaaGreatDoor
