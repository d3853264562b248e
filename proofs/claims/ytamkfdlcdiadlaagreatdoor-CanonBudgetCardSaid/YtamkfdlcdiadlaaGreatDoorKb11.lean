/- The walks of package re: Many, Both. -/
import Derived.Test.YtamkfdlcdiadlaaGreatDoorKb05
import Derived.Test.YtamkfdlcdiadlaaGreatDoorKb10
import Derived.Laws.MakeOwn
set_option linter.all false
namespace Go.Proofs.YtamkfdlcdiadlaaGreatDoor
open Go.RowKit
variable {H:Nat→Prop}
theorem Sl.of_blk {w:World}{g t:Nat}{xs:List Value}(h:w.heap[g]?=some (.cells xs.toArray t)):Sl w (some ⟨g,0,none⟩) xs.length xs:=
 ⟨Nat.le_refl _,(fun h=>by cases h),fun i hi=>⟨g,0,rfl,cB h (by simp[hi])⟩⟩
set_option maxRecDepth 20000 in
set_option maxHeartbeats 2000000 in
theorem many_any (r:Pv.R)(b:Nat)(w:World)(h:ReAt H w r b)(hH:∀h,H h→h<w.heap.size)(hsz:Pv.size r<549755813888):MakesRe H 31 #[Ptr b] w (Pv.many r):=by
 obtain⟨_,_,_,h0,_⟩:=h.cells;have Hat:=Hy h;have hm:Hid (Pv.many r=if r.op=0∨r.op=1 then Pv.empty else if r.op=5 then r else .mk 5 .zero [r]):=rfl;clear h;by_cases e0:r.op=0
 ·have e0':((r.op:Int)==0)=true:=by rw[beq_iff_eq];omega
  have E0:=Hy e0;clear e0;go_enter Tryz.func31,Tryz.ntmps31;go_wp2_with fail;refine(empty_re _ hH).mono ?_;rintro e w' ⟨b,rfl,h,hb⟩;go_wp2_with fail;go_ret;refine⟨b,rfl,?_,hb⟩;rw[hm.out,if_pos (.inl E0.out)];exact h
 ·have e0':((r.op:Int)==0)=false:=by rw[beq_eq_false_iff_ne];omega
  have E0:=Hy e0;clear e0;by_cases e1:r.op=1
  ·have e1':((r.op:Int)==1)=true:=by rw[beq_iff_eq];omega
   have E1:=Hy e1;clear e1;go_enter Tryz.func31,Tryz.ntmps31;go_wp2_with fail;refine(empty_re _ hH).mono ?_;rintro e w' ⟨b,rfl,h,hb⟩;go_wp2_with fail;go_ret;refine⟨b,rfl,?_,hb⟩;rw[hm.out,if_pos (.inr E1.out)];exact h
  ·have e1':((r.op:Int)==1)=false:=by rw[beq_eq_false_iff_ne];omega
   have E1:=Hy e1;clear e1;by_cases e5:r.op=5
   ·have e5':((r.op:Int)==5)=true:=by rw[beq_iff_eq];omega
    have E5:=Hy e5;clear e5;go_enter Tryz.func31,Tryz.ntmps31;go_wp2_with fail;go_ret;refine⟨b,rfl,?_,Below.refl _ _⟩;rw[hm.out,if_neg (by have:=E0.out;have:=E1.out;omega),if_pos E5.out];exact Hat.out
   ·have e5':((r.op:Int)==5)=false:=by rw[beq_eq_false_iff_ne];omega
    have E5:=Hy e5;clear e5;go_enter Tryz.func31,Tryz.ntmps31;go_wp2_with fail;have hb1:Below w.heap.size w (w.alloc (.cells #[Ptr b] 59)):=(Below.refl _ _).alloc (Nat.le_refl _) _;have hmade:=made_any 5 (by omega) .zero (fun _=>rfl) [r] (by simp) (some ⟨w.heap.size,0,none⟩) 1 [b] (w.alloc (.cells #[Ptr b] 59))
     (Sl.of_blk (xs:=[Ptr b]) (blk_new rfl)) (ResAt.one (Hat.out.later hb1)) (fun h hh=>by have:=hH h hh;simp;omega)
     (fun blk off e=>by cases e;exact⟨fun hh=>by have:=hH _ hh;omega,by simp⟩) (by unfold Pv.size Pv.sizes Pv.sizes;omega)
    refine hmade.mono ?_;rintro e w' ⟨b2,rfl,h,hb⟩;go_wp2_with fail;go_ret;refine⟨b2,rfl,?_,hb1.trans (hb.mono (by simp))⟩;rw[hm.out,if_neg (by have:=E0.out;have:=E1.out;omega),if_neg E5.out];exact h
set_option maxRecDepth 20000 in
set_option maxHeartbeats 2000000 in
theorem both_any (l:List Pv.R)(a:Option Addr)(c:Nat)(bs:List Nat)(w:World)(hs:Sl w a c (bs.map Ptr))(hk:ResAt H w l bs)(hH:∀h,H h→h<w.heap.size)(hsz:Pv.sizes l<549755813888):
  MakesRe H 53 #[.slice a bs.length c] w (Pv.both l):=by
 have hjoin:=joinl_any 6 87 enters_and Pv.S4.and and_any l a c bs w hs hk hH hsz;have hsj:=sizes_join 6 l Pv.S4.and;clear hs hk;go_enter Tryz.func53,Tryz.ntmps53;go_wp2_with fail;refine hjoin.mono ?_;rintro e w2 ⟨v2,qs,rfl,hps1,⟨hrow,hps2⟩,hB⟩;have hpl:qs.length<1099511627776:=by have:=sizes_len (qs.map (·.2));rw[List.length_map,hps1]at this;omega
 have HB2:=Hy hB;have Hcat:Hid (Pv.both l=Pv.bothOf (qs.map (·.2))):=by show _=_;rw[hps1];rfl
 have hsz2:Pv.sizes (qs.map (·.2))<549755813888:=by rw[hps1];omega
 obtain⟨a2,c2,rfl,hsl,hown2⟩:=hrow.form;have Hka:=Hy (hrow.ha hH);have hres:=(hps2.ext (Ext.unhideV _ _)).res;rw[List.length_map];have Hsl:=Hy hsl;have Hres:=Hy hres;clear hown2 hjoin hps2 hsl hres hps1 hrow hsj hB;have hq40:=sizes_len (qs.map (·.2));rw[List.length_map]at hq40;go_wp2_with fail
 go_loopw [4,11] (fun b i wr=>∃k:Nat,k≤qs.length∧i = .int .i64 k∧b = .bool (((qs.map (·.2)).take k).all Pv.null)∧Hid (((qs.map (·.2)).take k).any (fun r=>r.op==0)=false)∧wr=w2) (fun _ i _=>(qs.length-intOf i).toNat)
 case atStart=>exact⟨0,by omega,rfl,by simp,by simp[Hid],rfl⟩
 case round=>
  obtain⟨k,hk,rfl,rfl,hany,rfl⟩:=hrel;by_cases hkn:k<qs.length
  ·obtain⟨hkb,hat⟩:=Hres.out.get k (by simpa using hkn);obtain⟨blk,off,rfl,hbl,hcs⟩:=Hsl.out.at_ (by simp;omega);have hc0:=hcs k (by simpa using hkn);obtain⟨_,_,_,h0,_,_,_,_,_,h6,_⟩:=hat.cells;simp only[List.getElem_map]at hc0 h0 h6;have hkn':(k:Int)<qs.length:=by omega
   have hk40:(k:Int)<1099511627776:=by omega
   clear hcs hat;generalize hbb:qs[k].1=bb at *;have hany':((qs.map (·.2)).take (k+1)).any (fun r=>r.op==0)=(qs[k].2.op==0):=by rw[List.take_succ_eq_append_getElem (by simpa using hkn),List.any_append,hany.out];simp
   have hall':((qs.map (·.2)).take (k+1)).all Pv.null=(((qs.map (·.2)).take k).all Pv.null&&Pv.null qs[k].2):=by rw[List.take_succ_eq_append_getElem (by simpa using hkn),List.all_append];simp
   have Hany:=Hy hany';have Hall:=Hy hall';clear hany' hall' hbb;generalize Hb0:((qs.map (·.2)).take k).all Pv.null=b0 at *;by_cases hop:qs[k].2.op=0
   ·have hop':((qs[k].2.op:Int)==0)=true:=by rw[beq_iff_eq];omega
    have HOP:=Hy hop;clear hop;go_wp2_with fail;refine(nothing_any _ (fun h hh=>by have:=hH h hh;have:=HB2.out.size;omega)).mono ?_;rintro e w3 ⟨b,rfl,h,hb3⟩;go_wp2_with fail;go_ret;refine⟨b,rfl,?_,HB2.out.trans (hb3.mono HB2.out.size)⟩;rw[Hcat.out];unfold Pv.bothOf;rw[if_pos]
    ·exact h
    ·exact List.any_eq_true.2 ⟨qs[k].2,List.mem_map.2 ⟨_,List.getElem_mem hkn,rfl⟩,by rw[HOP.out];rfl⟩
   ·have hop':((qs[k].2.op:Int)==0)=false:=by rw[beq_eq_false_iff_ne];omega
    have HOP:=Hy hop;clear hop;have HB0:Hid (((qs.map (·.2)).take k).all Pv.null=b0):=Hb0;clear Hb0;cases b0
    ·go_wp2_with fail;go_roundw
     case rel=>
      refine⟨k+1,by omega,by go_num,by rw[Hall.out];rfl,?_,by first|rfl|trivial⟩;show _=false;rw[Hany.out,beq_eq_false_iff_ne];exact HOP.out
     case measure=>simp[intOf];omega
    ·go_wp2_with fail;go_roundw
     case rel=>
      refine⟨k+1,by omega,by go_num,by rw[Hall.out];simp,?_,by first|rfl|trivial⟩;show _=false;rw[Hany.out,beq_eq_false_iff_ne];exact HOP.out
     case measure=>simp[intOf];omega
  ·have e:k=qs.length:=by omega
   subst e;have hany0:=hany.out;rw[List.take_of_length_le (by simp)]at hany0;have Hany:=Hy hany0;clear hany hany0;have HBb:Hid ((qs.map (·.2)).all Pv.null=((qs.map (·.2)).take qs.length).all Pv.null):=by show _=_;rw[List.take_of_length_le (by simp)]
   generalize ((qs.map (·.2)).take qs.length).all Pv.null=b0 at *
   match qs,hq40,hsz2,Hcat,Hsl,Hres,Hany,HBb with
   | [],hq40,hsz2,Hcat,Hsl,Hres,Hany,HBb=>
     go_wp2_with fail;refine(all_any _).mono ?_;rintro e w3 ⟨rfl,hb3⟩;have HB3:=Hy (HB2.out.trans (hb3.mono HB2.out.size));clear hb3;go_wp2_with fail;refine(one_any (H:=H) Pv.S4.all w3 (fun h hh=>by have:=hH h hh;have:=HB3.out.size;omega)).mono ?_;rintro e w4 ⟨b4,rfl,h4,hb4⟩;have HB4:=Hy (HB3.out.trans (hb4.mono HB3.out.size));have H4:=Hy h4;clear hb4 h4;go_wp2_with fail
     refine(many_any _ b4 w4 H4.out (fun h hh=>by have:=hH h hh;have:=HB4.out.size;omega) (by rw[size_one];omega)).mono ?_;rintro e w5 ⟨b5,rfl,h5,hb5⟩;go_wp2_with fail;go_ret;refine⟨b5,rfl,?_,HB4.out.trans (hb5.mono HB4.out.size)⟩;rw[Hcat.out];exact h5
   | [q],hq40,hsz2,Hcat,Hsl,Hres,Hany,HBb=>
     obtain⟨hkb,hat⟩:=Hres.out.get 0 (by simp);obtain⟨blk,off,rfl,hbl,hcs⟩:=Hsl.out.at_ (by simp);have hc0:=hcs 0 (by simp);simp only[List.map_cons,List.getElem_cons_zero,Nat.add_zero]at hc0 hat;clear hcs;go_wp2_with fail;go_ret;refine⟨q.1,rfl,?_,HB2.out⟩;rw[Hcat.out];unfold Pv.bothOf;rw[if_neg (by rw[Hany.out];simp)];exact hat
   | q::q2::qr,hq40,hsz2,Hcat,Hsl,Hres,Hany,HBb=>
     have hthen:Pv.bothOf ((q::q2::qr).map (·.2)) = .mk 6 .zero ((q::q2::qr).map (·.2)):=by unfold Pv.bothOf;rw[if_neg (by rw[Hany.out];simp)];rfl
     have hnull:Pv.null (.mk 6 .zero ((q::q2::qr).map (·.2)))=b0:=by rw[←HBb.out,Pv.null,Pv.nulls_map];simp[Pv.nullOf]
     have hmade:=made_any 6 (by omega) .zero (fun _=>rfl) ((q::q2::qr).map (·.2)) (by simp) a2 c2 ((q::q2::qr).map (·.1)) wr (by rw[List.map_map];exact Hsl.out) Hres.out (fun h hh=>by have:=hH h hh;have:=HB2.out.size;omega) Hka.out (by unfold Pv.size;omega);rw[hnull,List.length_map]at hmade;have Hthen:=Hy hthen;clear hthen hnull;have hn0:(((q::q2::qr).length:Nat):Int)≠0:=by simp;omega
     have hn1:(((q::q2::qr).length:Nat):Int)≠1:=by simp;omega
     generalize (q::q2::qr)=qs at *;have hn0':((qs.length:Int)==0)=false:=by rw[beq_eq_false_iff_ne];exact hn0
     have hn1':((qs.length:Int)==1)=false:=by rw[beq_eq_false_iff_ne];exact hn1
     go_wp2_with fail;refine hmade.mono ?_;rintro e w3 ⟨b,rfl,h,hb3⟩;go_wp2_with fail;go_ret;refine⟨b,rfl,?_,HB2.out.trans (hb3.mono HB2.out.size)⟩;rw[Hcat.out,Hthen.out];exact h
end Go.Proofs.YtamkfdlcdiadlaaGreatDoor
namespace Go.Proofs.YtamkfdlcdiadlaaGreatDoor
open Go.RowKit
variable {H:Nat→Prop}
theorem opT {n k:Nat}(h:n=k):((n:Int)==(k:Int))=true:=by rw[beq_iff_eq];omega
theorem opF {n k:Nat}(h:n≠k):((n:Int)==(k:Int))=false:=by rw[beq_eq_false_iff_ne];omega
set_option maxRecDepth 20000 in
set_option maxHeartbeats 4000000 in
theorem but_any (r q:Pv.R)(b d:Nat)(w:World)(h:ReAt H w r b)(h':ReAt H w q d)(hH:∀h,H h→h<w.heap.size)(hsz:Pv.size r+Pv.size q<549755813888):MakesRe H 108 #[Ptr b,Ptr d] w (Pv.but r q):=by
 obtain⟨_,_,_,h0,h1,h2,h3,h4,_,h6,_⟩:=h.cells;obtain⟨_,_,_,p0,p1,p2,p3,p4,_,p6,_⟩:=h'.cells;have Hat:=Hy h;have Hat':=Hy h';have hm:Hid (Pv.but r q=if r.op=0∨Pv.same r q=true then Pv.nothing else if q.op=0 then r
  else if r.op=2∧q.op=2 then Pv.one (r.set.minus q.set) else .mk 7 .zero [r,q]):=rfl
 have hsame:=same_any r q b d w h h';clear h h';by_cases e0:r.op=0
 ·have e0':((r.op:Int)==0)=true:=opT e0;have E0:=Hy e0;clear e0;go_enter Tryz.func108,Tryz.ntmps108;go_wp2_with fail;refine(nothing_any _ hH).mono ?_;rintro e w' ⟨b,rfl,h,hb⟩;go_wp2_with fail;go_ret;refine⟨b,rfl,?_,hb⟩;rw[hm.out,if_pos (.inl E0.out)];exact h
 ·have e0':((r.op:Int)==0)=false:=opF e0;have E0:=Hy e0;clear e0;cases hs:Pv.same r q
  ·rw[hs]at hsame;have HS:=Hy hs;clear hs;by_cases e1:q.op=0
   ·have e1':((q.op:Int)==0)=true:=opT e1;have E1:=Hy e1;clear e1;go_enter Tryz.func108,Tryz.ntmps108;go_wp2_with fail;refine hsame.mono ?_;rintro e w' ⟨rfl,rfl⟩;go_wp2_with fail;go_ret;refine⟨b,rfl,?_,Below.refl _ _⟩;rw[hm.out,if_neg (by rw[HS.out];have:=E0.out;simp;omega),if_pos E1.out];exact Hat.out
   ·have e1':((q.op:Int)==0)=false:=opF e1;have E1:=Hy e1;clear e1;by_cases e2:r.op=2∧q.op=2
    ·have e2':((r.op:Int)==2)=true:=opT e2.1;have e3':((q.op:Int)==2)=true:=opT e2.2;have E2:=Hy e2;clear e2;go_enter Tryz.func108,Tryz.ntmps108;go_wp2_with fail;refine hsame.mono ?_;rintro e w' ⟨rfl,rfl⟩;go_wp2_with fail
     refine Eag.region (.mov 0 (.mov 1 (.mov 2 (.mov 3 (.mov 4 (.mov 5 (.mov 6 (.mov 7 (.anc 8 (.anc 9 (.mov 10 Eag.Sch.fin))))))))))) [] (by kernel_rfl) (by kernel_rfl) (fun K ops hops hK => ?_);iterate 8
      refine Eag.mov hops rfl rfl (fun w' hb => ?_) ?_
      ·have q0:=later hb h1;have q1:=later hb h2;have q2:=later hb h3;have q3:=later hb h4;have q4:=later hb p1;have q5:=later hb p2;have q6:=later hb p3;have q7:=later hb p4;clear hb;go_simp
      go_simp
     refine Eag.anc hops rfl rfl ?_;go_wp2_with fail;refine(minus_any _ _ _).mono ?_;rintro e w2 ⟨rfl,hb⟩;refine⟨hb,?_⟩;have HB:=Hy hb;clear hb;refine Eag.anc hops rfl rfl ?_;go_wp2_with fail;refine(one_any (H:=H) (r.set.minus q.set) w2 (fun h hh=>by have:=hH h hh;have:w.heap.size≤w2.heap.size:=HB.out.size;omega)).mono ?_;rintro e w3 ⟨b3,rfl,h3,hb3⟩;refine⟨hb3,?_⟩
     have HB3:=Hy (HB.out.trans (hb3.mono HB.out.size));have H3:=Hy h3;clear hb3 h3;iterate 1
      refine Eag.mov hops rfl rfl (fun w' hb => ?_) ?_
      ·clear hb;go_simp
      go_simp
     refine Eag.fin (hK _ _ ?_);clear hK;go_simp;go_wp2_with fail;go_ret;refine⟨b3,rfl,?_,(Below.refl _ _).drew.trans HB3.out⟩;rw[hm.out,if_neg (by rw[HS.out];have:=E0.out;simp;omega),if_neg E1.out,if_pos E2.out];exact H3.out
    ·have E2:=Hy e2;have hb1:Below w.heap.size w (w.alloc (.cells #[Ptr b,Ptr d] 59)):=(Below.refl _ _).alloc (Nat.le_refl _) _;have hnull:Pv.null (.mk 7 .zero [r,q])=(Pv.null r && !Pv.null q):=by simp[Pv.null,Pv.nulls,Pv.nullOf]
     have hmade:=made_any 7 (by omega) .zero (fun _=>rfl) [r,q] (by simp) (some ⟨w.heap.size,0,none⟩) 2 [b,d] (w.alloc (.cells #[Ptr b,Ptr d] 59))
      (Sl.of_blk (xs:=[Ptr b,Ptr d]) (blk_new rfl)) (ResAt.append (ResAt.one (Hat.out.later hb1)) (ResAt.one (Hat'.out.later hb1))) (fun h hh=>by have:=hH h hh;simp;omega)
      (fun blk off e=>by cases e;exact⟨fun hh=>by have:=hH _ hh;omega,by simp⟩) (by unfold Pv.size Pv.sizes Pv.sizes Pv.sizes;omega)
     rw[hnull]at hmade;clear hnull;generalize Pv.null r=nr at *;generalize Pv.null q=nq at *;have Hmade:=Hy hmade;clear hmade;by_cases e3:r.op=2
     ·have e2':((r.op:Int)==2)=true:=opT e3;have e3':((q.op:Int)==2)=false:=opF (fun h=>e2 ⟨e3,h⟩);clear e2 e3;cases nr;all_goals
       go_enter Tryz.func108,Tryz.ntmps108;go_wp2_with fail;refine hsame.mono ?_;rintro e w' ⟨rfl,rfl⟩;go_wp2_with fail;refine Hmade.out.mono ?_;rintro e w' ⟨b2,rfl,h,hb⟩;go_wp2_with fail;go_ret;refine⟨b2,rfl,?_,hb1.trans (hb.mono (by simp))⟩;rw[hm.out,if_neg (by rw[HS.out];have:=E0.out;simp;omega),if_neg E1.out,if_neg E2.out];exact h
     ·have e2':((r.op:Int)==2)=false:=opF e3;clear e2 e3;cases nr;all_goals
       go_enter Tryz.func108,Tryz.ntmps108;go_wp2_with fail;refine hsame.mono ?_;rintro e w' ⟨rfl,rfl⟩;go_wp2_with fail;refine Hmade.out.mono ?_;rintro e w' ⟨b2,rfl,h,hb⟩;go_wp2_with fail;go_ret;refine⟨b2,rfl,?_,hb1.trans (hb.mono (by simp))⟩;rw[hm.out,if_neg (by rw[HS.out];have:=E0.out;simp;omega),if_neg E1.out,if_neg E2.out];exact h
  ·rw[hs]at hsame;have HS:=Hy hs;clear hs;go_enter Tryz.func108,Tryz.ntmps108;go_wp2_with fail;refine hsame.mono ?_;rintro e w' ⟨rfl,rfl⟩;go_wp2_with fail;refine(nothing_any _ hH).mono ?_;rintro e w' ⟨b,rfl,h,hb⟩;go_wp2_with fail;go_ret;refine⟨b,rfl,?_,hb⟩;rw[hm.out,if_pos (.inr HS.out)];exact h
end Go.Proofs.YtamkfdlcdiadlaaGreatDoor
namespace Go.Proofs.YtamkfdlcdiadlaaGreatDoor
open Go.RowKit
variable {H:Nat→Prop}
def manyOr (r:Pv.R):List Pv.R→Pv.R
 | [k]=>Pv.many k
 | _=>r
def butOr (r:Pv.R):List Pv.R→Pv.R
 | [a,b]=>Pv.but a b
 | _=>r
theorem withKids_eq (r:Pv.R)(ks:List Pv.R):Pv.withKids r ks=if r.op=3 then Pv.cat ks else if r.op=4 then Pv.any ks else if r.op=6 then Pv.both ks
  else if r.op=5 then manyOr r ks else if r.op=7 then butOr r ks else r:=by
 unfold Pv.withKids manyOr butOr;rfl
set_option maxRecDepth 20000 in
set_option maxHeartbeats 4000000 in
theorem with_any (r:Pv.R)(b:Nat)(ks:List Pv.R)(a:Option Addr)(c:Nat)(bs:List Nat)(w:World)(h:ReAt H w r b)(hs:Sl w a c (bs.map Ptr))(hk:ResAt H w ks bs)(hH:∀h,H h→h<w.heap.size)(hsz:Pv.sizes ks<549755813888):
  MakesRe H 85 #[Ptr b,.slice a bs.length c] w (Pv.withKids r ks):=by
 obtain⟨_,_,_,h0,_⟩:=h.cells;have Hat:=Hy h;have hm:=Hy (withKids_eq r ks);have hlen:=hk.length;have h40:=sizes_len ks;have hlb:bs.length<1099511627776:=by omega
 clear h;by_cases e3:r.op=3
 ·have h0':w.cell? ⟨b,0,none⟩=some (.int .i64 3):=by rw[h0,e3];rfl
  have E3:=Hy e3;have hcall:=cat_any ks a c bs w hs hk hH hsz;clear h0 e3 hlen hs hk;go_enter Tryz.func85,Tryz.ntmps85;go_wp2_with fail;refine hcall.mono ?_;rintro e w' ⟨b,rfl,h,hb⟩;go_wp2_with fail;go_ret;refine⟨b,rfl,?_,hb⟩;rw[hm.out,if_pos E3.out];exact h
 by_cases e4:r.op=4
 ·have h0':w.cell? ⟨b,0,none⟩=some (.int .i64 4):=by rw[h0,e4];rfl
  have E3:=Hy e3;have E4:=Hy e4;have hcall:=any_any ks a c bs w hs hk hH hsz;clear h0 e3 e4 hlen hs hk;go_enter Tryz.func85,Tryz.ntmps85;go_wp2_with fail;refine hcall.mono ?_;rintro e w' ⟨b,rfl,h,hb⟩;go_wp2_with fail;go_ret;refine⟨b,rfl,?_,hb⟩;rw[hm.out,if_neg E3.out,if_pos E4.out];exact h
 by_cases e6:r.op=6
 ·have h0':w.cell? ⟨b,0,none⟩=some (.int .i64 6):=by rw[h0,e6];rfl
  have E3:=Hy e3;have E4:=Hy e4;have E6:=Hy e6;have hcall:=both_any ks a c bs w hs hk hH hsz;clear h0 e3 e4 e6 hlen hs hk;go_enter Tryz.func85,Tryz.ntmps85;go_wp2_with fail;refine hcall.mono ?_;rintro e w' ⟨b,rfl,h,hb⟩;go_wp2_with fail;go_ret;refine⟨b,rfl,?_,hb⟩;rw[hm.out,if_neg E3.out,if_neg E4.out,if_pos E6.out];exact h
 by_cases e5:r.op=5
 ·have h0':w.cell? ⟨b,0,none⟩=some (.int .i64 5):=by rw[h0,e5];rfl
  have hm5:Hid (Pv.withKids r ks=manyOr r ks):=by show _=_;rw[hm.out,if_neg e3,if_neg e4,if_neg e6,if_pos e5]
  clear h0 e3 e4 e6 e5 hm
  match ks,bs,hlen,hk,hs,hsz,hm5 with
  | [k],[d],hlen,hk,hs,hsz,hm5=>
    obtain⟨_,hat⟩:=hk.get 0 (by simp);obtain⟨blk,off,rfl,hbl,hcs⟩:=hs.at_ (by simp);have hc0:=hcs 0 (by simp);simp only[List.map_cons,List.getElem_cons_zero,Nat.add_zero]at hc0 hat;have hcall:=many_any k d w hat hH (by unfold Pv.sizes Pv.sizes at hsz;omega);clear hk hs hat hcs hlen;go_enter Tryz.func85,Tryz.ntmps85;go_wp2_with fail;refine hcall.mono ?_;rintro e w' ⟨b,rfl,h,hb⟩;go_wp2_with fail;go_ret
    refine⟨b,rfl,?_,hb⟩;rw[hm5.out];exact h
  | [],[],hlen,hk,hs,hsz,hm5=>
    clear hk hs hlen;go_enter Tryz.func85,Tryz.ntmps85;go_wp2_with fail;go_ret;refine⟨b,rfl,?_,Below.refl _ _⟩;rw[hm5.out];exact Hat.out
  | k::k2::kr,d::d2::dr,hlen,hk,hs,hsz,hm5=>
    have hn1:(((d::d2::dr).length:Nat):Int)≠1:=by simp;omega
    have HM:Hid (Pv.withKids r (k::k2::kr)=r):=hm5;clear hk hs hlen hm5;generalize (d::d2::dr)=ds at *;have hn1':((ds.length:Int)==1)=false:=by rw[beq_eq_false_iff_ne];exact hn1
    go_enter Tryz.func85,Tryz.ntmps85;go_wp2_with fail;go_ret;refine⟨b,rfl,?_,Below.refl _ _⟩;rw[HM.out];exact Hat.out
 by_cases e7:r.op=7
 ·have h0':w.cell? ⟨b,0,none⟩=some (.int .i64 7):=by rw[h0,e7];rfl
  have hm7:Hid (Pv.withKids r ks=butOr r ks):=by show _=_;rw[hm.out,if_neg e3,if_neg e4,if_neg e6,if_neg e5,if_pos e7]
  clear h0 e3 e4 e6 e5 e7 hm
  match ks,bs,hlen,hk,hs,hsz,hm7 with
  | [k,k2],[d,d2],hlen,hk,hs,hsz,hm7=>
    obtain⟨_,hat⟩:=hk.get 0 (by simp);obtain⟨_,hat2⟩:=hk.get 1 (by simp);obtain⟨blk,off,rfl,hbl,hcs⟩:=hs.at_ (by simp);have hc0:=hcs 0 (by simp);have hc1:=hcs 1 (by simp);simp only[List.map_cons,List.getElem_cons_zero,List.getElem_cons_succ,Nat.add_zero]at hc0 hc1 hat hat2
    have hcall:=fun W' (hb:Below w.heap.size w W')=>but_any k k2 d d2 W' (hat.later hb) (hat2.later hb) (fun h hh=>by have:=hH h hh;have:=hb.size;omega) (by unfold Pv.sizes Pv.sizes Pv.sizes at hsz;omega)
    have Hcall:=Hy hcall;clear hk hs hat hat2 hcs hlen hcall;go_enter Tryz.func85,Tryz.ntmps85;go_wp2_with fail;refine Eag.region (.mov 0 (.mov 1 (.mov 2 (.mov 3 (.mov 4 (.mov 5 (.anc 6 (.mov 7 Eag.Sch.fin)))))))) [] (by kernel_rfl) (by kernel_rfl) (fun K ops hops hK => ?_);iterate 6
     refine Eag.mov hops rfl rfl (fun w' hb => ?_) ?_
     ·have q0:=later hb hc0;have q1:=later hb hc1;clear hb;go_simp
     go_simp
    refine Eag.anc hops rfl rfl ?_;go_wp2_with fail;refine(Hcall.out _ ((Below.refl _ _).drew)).mono ?_;rintro e w' ⟨b,rfl,h,hb⟩;refine⟨hb,?_⟩;have HH:=Hy h;have HB:Hid (Below w.heap.size w w'):=(Below.refl _ _).drew.trans hb;clear hb h;iterate 1
     refine Eag.mov hops rfl rfl (fun w' hb => ?_) ?_
     ·clear hb;go_simp
     go_simp
    refine Eag.fin (hK _ _ ?_);clear hK;go_simp;go_wp2_with fail;go_ret;refine⟨b,rfl,?_,HB.out⟩;rw[hm7.out];exact HH.out
  | [],[],hlen,hk,hs,hsz,hm7=>
    clear hk hs hlen;go_enter Tryz.func85,Tryz.ntmps85;go_wp2_with fail;go_ret;refine⟨b,rfl,?_,Below.refl _ _⟩;rw[hm7.out];exact Hat.out
  | [k],[d],hlen,hk,hs,hsz,hm7=>
    clear hk hs hlen;go_enter Tryz.func85,Tryz.ntmps85;go_wp2_with fail;go_ret;refine⟨b,rfl,?_,Below.refl _ _⟩;rw[hm7.out];exact Hat.out
  | k::k2::k3::kr,d::d2::d3::dr,hlen,hk,hs,hsz,hm7=>
    have hn1:(((d::d2::d3::dr).length:Nat):Int)≠2:=by simp;omega
    have HM:Hid (Pv.withKids r (k::k2::k3::kr)=r):=hm7;clear hk hs hlen hm7;generalize (d::d2::d3::dr)=ds at *;have hn1':((ds.length:Int)==2)=false:=by rw[beq_eq_false_iff_ne];exact hn1
    go_enter Tryz.func85,Tryz.ntmps85;go_wp2_with fail;go_ret;refine⟨b,rfl,?_,Below.refl _ _⟩;rw[HM.out];exact Hat.out
 ·have f3:((r.op:Int)==3)=false:=opF e3;have f4:((r.op:Int)==4)=false:=opF e4;have f6:((r.op:Int)==6)=false:=opF e6;have f5:((r.op:Int)==5)=false:=opF e5;have f7:((r.op:Int)==7)=false:=opF e7;have hm7:Hid (Pv.withKids r ks=r):=by show _=_;rw[hm.out,if_neg e3,if_neg e4,if_neg e6,if_neg e5,if_neg e7]
  clear e3 e4 e6 e5 e7 hm hlen hk hs;go_enter Tryz.func85,Tryz.ntmps85;go_wp2_with fail;go_ret;refine⟨b,rfl,?_,Below.refl _ _⟩;rw[hm7.out];exact Hat.out
end Go.Proofs.YtamkfdlcdiadlaaGreatDoor
namespace Go.Proofs.YtamkfdlcdiadlaaGreatDoor
open Go.RowKit
variable {H:Nat→Prop}
theorem size_many (r:Pv.R):Pv.size (Pv.many r)≤1+Pv.size r:=by
 unfold Pv.many;split
 ·simp[Pv.empty,Pv.size,Pv.sizes]
 ·split
  ·omega
  ·simp[Pv.size,Pv.sizes]
theorem size_but (a b:Pv.R):Pv.size (Pv.but a b)≤1+(Pv.size a+Pv.size b):=by
 unfold Pv.but;split
 ·simp[Pv.nothing,Pv.size,Pv.sizes]
 ·split
  ·omega
  ·split
   ·rw[size_one];omega
   ·simp[Pv.size,Pv.sizes]
theorem size_cat (l:List Pv.R):Pv.size (Pv.cat l)≤1+Pv.sizes l:=by
 have h1:=sizes_flat 3 l;have h2:=sizes_filter (fun r => !(r.op==1)) (Pv.flat 3 l);unfold Pv.cat;generalize (Pv.flat 3 l).filter (fun r => !(r.op==1))=m at *;unfold Pv.thenOf;split
 ·simp[Pv.nothing,Pv.size,Pv.sizes]
 ·split
  ·simp[Pv.empty,Pv.size,Pv.sizes]
  ·simp only[Pv.sizes]at h2;omega
  ·rw[Pv.size];omega
theorem size_anyl (l:List Pv.R):Pv.size (Pv.any l)≤1+Pv.sizes l:=by
 have h1:=sizes_join 4 l Pv.S4.or;have h2:=sizes_filter (fun r => !(r.op==0)) (Pv.join 4 l Pv.S4.or);unfold Pv.any;generalize (Pv.join 4 l Pv.S4.or).filter (fun r => !(r.op==0))=m at *;unfold Pv.anyOf;split
 ·simp[Pv.nothing,Pv.size,Pv.sizes]
 ·simp only[Pv.sizes]at h2;omega
 ·rw[Pv.size];omega
theorem size_both (l:List Pv.R):Pv.size (Pv.both l)≤2+Pv.sizes l:=by
 have h1:=sizes_join 6 l Pv.S4.and;unfold Pv.both;generalize Pv.join 6 l Pv.S4.and=m at *;unfold Pv.bothOf;split
 ·simp[Pv.nothing,Pv.size,Pv.sizes];omega
 ·split
  ·have:=size_many (Pv.one Pv.S4.all);rw[size_one]at this;omega
  ·simp only[Pv.sizes]at h1;omega
  ·rw[Pv.size];omega
theorem size_with (r:Pv.R)(ks:List Pv.R):Pv.size (Pv.withKids r ks)≤max (2+Pv.sizes ks) (Pv.size r):=by
 rw[withKids_eq];have h1:=size_cat ks;have h2:=size_anyl ks;have h3:=size_both ks;split
 ·omega
 split
 ·omega
 split
 ·omega
 split
 ·unfold manyOr;split
  ·rename_i k;have:=size_many k;simp only[Pv.sizes];omega
  ·omega
 split
 ·unfold butOr;split
  ·rename_i a b;have:=size_but a b;simp only[Pv.sizes];omega
  ·omega
 ·omega
theorem sizes_reverse (l:List Pv.R):Pv.sizes l.reverse=Pv.sizes l:=sizes_perm l.reverse_perm
mutual
theorem size_back:∀r:Pv.R,Pv.size (Pv.back r)≤2*Pv.size r
 | .mk op s []=>by unfold Pv.back;omega
 | .mk op s (k::ks)=>by
   have h:=sizes_backs (k::ks);have h2:=size_with (.mk op s (k::ks)) (if op=3 then(Pv.backs (k::ks)).reverse else Pv.backs (k::ks));have h3:Pv.sizes (if op=3 then(Pv.backs (k::ks)).reverse else Pv.backs (k::ks))=Pv.sizes (Pv.backs (k::ks)):=by
    split
    ·exact sizes_reverse _
    ·rfl
   rw[h3]at h2;rw[Pv.back];rw[Pv.size]at h2 ⊢;omega
theorem sizes_backs:∀l:List Pv.R,Pv.sizes (Pv.backs l)≤2*Pv.sizes l
 | []=>Nat.le_refl _
 | r::l=>by have:=size_back r;have:=sizes_backs l;simp only[Pv.backs,Pv.sizes];omega
end
theorem backs_map:∀l:List Pv.R,Pv.backs l=l.map Pv.back
 | []=>rfl
 | r::l=>by rw[Pv.backs,backs_map l];rfl
theorem ReAt.setH {w:World}{r:Pv.R}{b g o:Nat}{v:Value}(h:ReAt H w r b)(hg:H g):ReAt H (w.setCell ⟨g,o,none⟩ v) r b:=(h.hide_ hg).ext (Ext.unhide g w).set
theorem madeCells_one (z:Value)(n:Nat):madeCells #[z] n=Array.replicate n z:=by
 apply Array.ext
 ·simp[madeCells]
 ·intro i h1 h2;simp[madeCells,Nat.mod_one]
theorem make_re (n c:Nat)(hnc:n≤c)(hc:c<1099511627776)(w:World):(Instr.makeSlice 101 (.int .i64 (n:Int)) (.int .i64 (c:Int))).run Tryz.prog w = .ok (.slice (some ⟨w.heap.size,0,none⟩) n c) (w.alloc (.cells (Array.replicate c (.pointer none)) 59)):=by
 obtain⟨i0,hi,hz0,hz1,hz2⟩:=info_parts info_re;have hr:=run_make (P:=Tryz.prog) w 101 59 i0 _ Tryz.underlying101 hi hz0 .i64 .i64 (n:Int) (c:Int) (by omega) (by omega) (by rw[hz2];omega) (by omega);simp only[Int.toNat_natCast]at hr;rw[hr,hz1];simp only[Value.cells,Nat.mul_one,madeCells_one]
theorem ResAt.reverse {w:World}{rs:List Pv.R}{bs:List Nat}(h:ResAt H w rs bs):ResAt H w rs.reverse bs.reverse:=by obtain⟨ps,rfl,rfl,hp⟩:=h.prs;rw[←List.map_reverse,←List.map_reverse];exact Prs.res fun x hx=>hp x (List.mem_reverse.1 hx)
theorem ResAt.setH {w:World}{rs:List Pv.R}{bs:List Nat}{g o:Nat}{v:Value}(h:ResAt H w rs bs)(hg:H g):ResAt H (w.setCell ⟨g,o,none⟩ v) rs bs:=(h.hide_ hg).ext (Ext.unhide g w).set
open Go.Sort Go.Lib in
theorem reverse_re (g cap:Nat)(ds:List Nat)(w:World)(cur:Array Value)(h:w.heap[g]?=some (.cells cur 59))(hc:cur.size=cap)(hd:ds.length≤cap)(hm:cap≤maxLen)(ht:cur.toList.take ds.length=ds.map Ptr)(hl:ds.length<1099511627776):
  Calls Tryz.prog 84 #[.slice (some ⟨g,0,none⟩) ds.length cap] w fun e w'=>e = .returned (.tuple #[])∧Row g 59 w' (.slice (some ⟨g,0,none⟩) ds.length cap) (ds.reverse.map Ptr)∧Ext (hide g w) w'∧Below g w w':=by
 have hH:Holds Ptr w g 0 ds.toArray:=fun j hj=>by
  have hj':j<ds.length:=by simpa using hj
  rw[getElem!_pos ds.toArray j hj,Nat.zero_add];refine⟨cB h ?_,fob h⟩;have:(cur.toList.take ds.length)[j]?=some (Ptr ds[j]):=by rw[ht];simp[hj']
  rw[List.getElem?_take,if_pos hj']at this;simpa using this
 refine(Tryz.slices_Reverse_f84 Ptr (fun _=>rfl) g 0 cap ds w hH (by omega)).mono ?_;rintro e w' ⟨rfl,n,rfl⟩;have e0:putRow Ptr (Sort.ahead w n) g 0 ds.reverse.toArray=sortWorld Ptr w g 0 n ds.reverse.toArray #[]:=by unfold sortWorld;rw[grow_empty]
 rw[e0];refine⟨rfl,?_,sw_ext Ptr w g n _ #[],sw_below Ptr w g g n _ #[] (Nat.le_refl _) (blk_lt h)⟩;have:=sw_row Ptr (base:=g) (m:=n) (os:=#[]) (dk:=ds.reverse.toArray) h (Nat.le_refl _) hc (by simpa using hd) hm;simpa using this
set_option maxRecDepth 20000 in
set_option maxHeartbeats 4000000 in
theorem back_any:∀(n:Nat) (H:Nat→Prop) (r:Pv.R) (b:Nat) (w:World),Pv.size r≤n→ReAt H w r b→(∀h,H h→h<w.heap.size)→2*Pv.size r<549755813888 →
  MakesRe H 52 #[Ptr b] w (Pv.back r)
 | 0,_,r,_,_,hn,_,_,_=>by have:=size_pos r;omega
 | n+1,H,r,b,w,hn,hat,hH,hsz=>by
   obtain⟨a,c,bs,h0,_,_,_,_,h5,_,_,_,hsl,hres,hlt⟩:=hat.cells;have hlen:=hres.length;have hks:=sizes_len r.kids;have hsk:=size_kids r;have Hat:=Hy hat;have Hsl:=Hy hsl;have Hres:=Hy hres;clear hat hsl hres;by_cases he:r.kids=[]
   ·have hb0:bs=[]:=List.length_eq_zero_iff.1 (by rw[hlen,he];rfl);have hbk:Hid (Pv.back r=r):=by
     cases r with
     | mk op s ks=>
       have:ks=[]:=he;subst this;show _=_;rw[Pv.back]
    subst hb0;clear he hlen;go_enter Tryz.func52,Tryz.ntmps52;go_wp2_with fail;go_ret;refine⟨b,rfl,?_,Below.refl _ _⟩;rw[hbk.out];exact Hat.out
   ·have hbn:bs≠[]:=fun h=>he (List.length_eq_zero_iff.1 (by rw[←hlen,h];rfl))
    have hb1:0<bs.length:=List.length_pos_iff.2 hbn;have hb2:((bs.length:Int)==0)=false:=by rw[beq_eq_false_iff_ne];omega
    have hb3:(bs.length:Int)<1099511627776:=by omega
    have HE:=Hy he;have HL:=Hy hlen;clear he hbn hlen;go_enter Tryz.func52,Tryz.ntmps52;go_wp2_with fail;rw[make_re bs.length bs.length (Nat.le_refl _) (by omega) w];go_simp;go_wp2_with fail;go_loopw [28] (fun i wr=>∃(k:Nat) (cur:Array Value) (ds:List Nat),k≤bs.length∧i = .int .i64 k∧ds.length=k∧cur.size=bs.length∧Hid (wr.heap[w.heap.size]?=some (.cells cur 59)) ∧
     Hid (cur.toList.take k=ds.map Ptr)∧Hid (ResAt (fun x=>H x∨x=w.heap.size) wr ((r.kids.take k).map Pv.back) ds)∧Hid (Below w.heap.size w wr)∧w.heap.size<wr.heap.size) (fun i _=>(bs.length-intOf i).toNat)
    case atStart=>
     exact⟨0,Array.replicate bs.length (.pointer none),[],by omega,rfl,rfl,by simp,blk_new rfl,by simp[Hid],(show ResAt _ _ [] [] from ResAt.nil),(Below.refl _ _).alloc (Nat.le_refl _) _,by simp⟩
    case round=>
     obtain⟨k,cur,ds,hk,rfl,hdl,hcs,HC,HT,HR,HB,hz⟩:=hrel;by_cases hkn:k<bs.length
     ·obtain⟨hkb,hatk⟩:=Hres.out.get k (by rw[←HL.out];exact hkn);obtain⟨blk,off,rfl,hbl,hcl⟩:=Hsl.out.at_ (by simp;omega);have hc0:=later HB.out (hcl k (by simpa using hkn));rw[List.getElem_map]at hc0;have hatk2:ReAt (fun x=>H x∨x=w.heap.size) wr (r.kids[k]'(by rw[←HL.out];exact hkn)) bs[k]:=(hatk.widen (fun x hx=>by rcases hx with hx|hx;exact .inl hx;exact .inr (by omega))).later HB.out
      have hck:cur[k]?=some (cur[k]'(by omega)):=Array.getElem?_eq_getElem _;have hcw:=cB HC.out hck;have hfw:=fob (o:=k) HC.out;have hszk:Pv.size (r.kids[k]'(by rw[←HL.out];exact hkn))≤Pv.sizes r.kids:=by have h1:=sizes_take r.kids k (by rw[←HL.out];exact hkn);have h2:=sizes_take_le r.kids (k+1);omega
      have hcall:=back_any n (fun x=>H x∨x=w.heap.size) _ _ wr (by omega) hatk2 (fun h hh=>by rcases hh with hh|hh;(have:=hH h hh;omega);omega) (by omega);have Hcall:=Hy hcall;have htk:(r.kids.take (k+1)).map Pv.back=(r.kids.take k).map Pv.back++[Pv.back (r.kids[k]'(by rw[←HL.out];exact hkn))]:=by rw[List.take_succ_eq_append_getElem (by rw[←HL.out];exact hkn),List.map_append];rfl
      have HTK:=Hy htk;clear hcall hatk2 hatk hcl htk hck;generalize hbb:bs[k]=bk at *;generalize hkk:(r.kids[k]'(by rw[←HL.out];exact hkn))=kk at *;clear hbb hkk;have hkn':(k:Int)<bs.length:=by omega
      have hk40:(k:Int)<1099511627776:=by omega
      go_wp2_with fail;refine Hcall.out.mono ?_;rintro e w2 ⟨b2,rfl,h2,hb2⟩;have HC2:=Hy (later_blk hb2 HC.out);have hcw2:=later hb2 hcw;have hfw2:=fob (o:=k) HC2.out;have HR2:=Hy (HR.out.later hb2);have HB2:=Hy (HB.out.trans (hb2.mono (Nat.le_of_lt hz)));have H2:=Hy h2;have hz2':w.heap.size<w2.heap.size:=Nat.lt_of_lt_of_le hz hb2.size;clear hb2 h2 hcw hfw;go_wp2_with fail;go_roundw
      case rel=>
       refine⟨k+1,cur.setIfInBounds k (Ptr b2),ds++[b2],by omega,by go_num,by simp;omega,by simpa using hcs,blk_set HC2.out,?_,?_,HB2.out.setCell (Nat.le_refl _) _,by simpa using hz2'⟩
       ·show _=_;rw[Array.toList_setIfInBounds,List.take_succ_eq_append_getElem (by simp;omega),List.take_set,List.set_eq_of_length_le (by simp;omega),HT.out];simp
       ·show ResAt _ _ _ _;rw[HTK.out];exact ResAt.append (HR2.out.setH (.inr rfl)) (ResAt.one (H2.out.setH (.inr rfl)))
      case measure=>simp[intOf];omega
     ·have e:k=bs.length:=by omega
      subst e;have hm:=HB.out;have h0':=later hm h0;have hback:Hid (Pv.back r=Pv.withKids r (if r.op=3 then(r.kids.map Pv.back).reverse else r.kids.map Pv.back)):=by
       have he:=HE.out;cases r with
       | mk op s ks=>
         cases ks with
         | nil=>exact absurd rfl he
         | cons k ks=>show _=_;rw[Pv.back,backs_map];rfl
      have hR:=HR.out;rw[HL.out,List.take_of_length_le (Nat.le_refl _)]at hR;have HR3:=Hy hR;have hszs:Pv.sizes (r.kids.map Pv.back)<549755813888:=by have:=sizes_backs r.kids;rw[backs_map]at this;omega
      have Hszs:=Hy hszs;clear hm hR HR;have hsize:w.heap.size≤wr.heap.size:=by omega
      have hwith:∀(w3:World) (ks:List Pv.R) (ds3:List Nat),Below w.heap.size w w3→Sl w3 (some ⟨w.heap.size,0,none⟩) bs.length (ds3.map Ptr)→ResAt (fun x=>H x∨x=w.heap.size) w3 ks ds3→ds3.length=bs.length→Pv.sizes ks<549755813888 →
        MakesRe H 85 #[Ptr b,.slice (some ⟨w.heap.size,0,none⟩) bs.length bs.length] w3 (Pv.withKids r ks):=fun w3 ks ds3 hb3 hs3 hr3 hl3 hz3=>by
       rw[show #[Ptr b,Value.slice (some ⟨w.heap.size,0,none⟩) bs.length bs.length]=#[Ptr b,Value.slice (some ⟨w.heap.size,0,none⟩) ds3.length bs.length] by rw[hl3]];exact with_any r b ks _ _ ds3 w3 (Hat.out.later hb3) hs3 (hr3.widen fun x hx=> .inl (.inl hx)) (fun h hh=>by have:=hH h hh;have:=hb3.size;omega) hz3
      have Hwith:=Hy hwith;clear hwith;by_cases e3:r.op=3
      ·have h0'':wr.cell? ⟨b,0,none⟩=some (.int .i64 3):=by rw[h0',e3];rfl
       have h0w:w.cell? ⟨b,0,none⟩=some (.int .i64 3):=by rw[h0,e3];rfl
       rw[if_pos e3]at hback;have hrev:=reverse_re w.heap.size bs.length ds wr cur HC.out hcs (by omega) (by unfold maxLen;omega) (by rw[hdl];exact HT.out) (by omega);rw[hdl]at hrev;have Hrev:=Hy hrev;clear hrev h0' h0 e3;go_wp2_with fail;refine Hrev.out.mono ?_;rintro e w3 ⟨rfl,hrow3,hE3,hB3⟩;have HB3:=Hy (HB.out.trans hB3);have hsl3:Sl w3 (some ⟨w.heap.size,0,none⟩) bs.length (ds.reverse.map Ptr):=by
        obtain⟨a',c',e,hs,_⟩:=hrow3.form;injection e with e1 _ e2
        subst e1;subst e2;exact hs
       have hr3:=((HR3.out.hide_ (.inr rfl)).ext hE3).reverse;have h00:=later HB3.out h0w;have hcall:=Hwith.out w3 _ _ HB3.out hsl3 hr3 (by rw[List.length_reverse];exact hdl) (by rw[sizes_reverse];exact Hszs.out);clear hrow3 hE3 hB3 hsl3 hr3;go_wp2_with fail;refine hcall.mono ?_;rintro e w4 ⟨b4,rfl,h4,hb4⟩;go_wp2_with fail;go_ret;refine⟨b4,rfl,?_,HB3.out.trans (hb4.mono HB3.out.size)⟩
       rw[hback.out];exact h4
      ·have e3':((r.op:Int)==3)=false:=opF e3;rw[if_neg e3]at hback;have hsl3:Sl wr (some ⟨w.heap.size,0,none⟩) bs.length (ds.map Ptr):=by have:=Row.of_cells (base:=0) (xs:=ds.map Ptr) (Nat.zero_le _) HC.out (by rw[List.length_map];omega) (by unfold maxLen;omega) hcs (by rw[List.length_map,hdl];exact HT.out);obtain⟨a',c',e,hs,_⟩:=this.form;cases e;exact hs
       have hcall:=Hwith.out wr _ _ HB.out hsl3 HR3.out hdl Hszs.out;clear hsl3 h0 e3;go_wp2_with fail;refine hcall.mono ?_;rintro e w4 ⟨b4,rfl,h4,hb4⟩;go_wp2_with fail;go_ret;refine⟨b4,rfl,?_,HB.out.trans (hb4.mono HB.out.size)⟩;rw[hback.out];exact h4
end Go.Proofs.YtamkfdlcdiadlaaGreatDoor
