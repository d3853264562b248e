/- law 17's enough: of how many states the conditions and sides of a term may need at most. -/
import Derived.Test.YtamkfdlcdiadlaaGreatDoorKb05
import Derived.Test.YtamkfdlcdiadlaaGreatDoorKb38
import Derived.Test.YtamkfdlcdiadlaaGreatDoorKb39
import Derived.Deep.DeepCutAuto
import Derived.Deep.CutBlock
set_option linter.all false
namespace Pv
theorem enoughL_map:∀ts:List T,enoughL ts=ts.map enoughOf
 | []=>rfl
 | t::ts=>by rw[enoughL,enoughL_map ts];rfl
theorem sumO_take {L:List (Option Nat)}{k A B:Nat}(hk:k<L.length)(h:sumO (L.take k)=some A)(hb:L[k]=some B):sumO (L.take (k+1))=some (A+B):=by rw[List.take_succ_eq_append_getElem hk];exact sumO_app h (by rw[hb];rfl)
theorem sumO_bad:∀ {L:List (Option Nat)},none∈L→sumO L=none
 | [],h=>by cases h
 | none::_,_=>rfl
 | some x::L,h=>by rw[sumO,sumO_bad (List.mem_of_ne_of_mem (by simp) h)];rfl
theorem enough_kid {t:T}{k:Nat}(hk:k<t.kids.length)(h:enoughOf t.kids[k]=none):enoughOf t=none:=by rw[enoughOf_eq];exact sumO_bad (List.mem_append_left _ (by rw[enoughL_map];exact List.mem_map.2 ⟨_,List.getElem_mem hk,h⟩))
theorem enough_expr {t:T}{k:Nat}(hk:k<(exprsOf t).length)(h:cnt (exprsOf t)[k]=none):enoughOf t=none:=by rw[enoughOf_eq];exact sumO_bad (List.mem_append_right _ (List.mem_append_left _ (List.mem_map.2 ⟨_,List.getElem_mem hk,h⟩)))
theorem enough_pair {t:T}{k:Nat}(hk:k<(pairsOf t).length)(h:pairN (pairsOf t)[k].1 (pairsOf t)[k].2=none):enoughOf t=none:=by rw[enoughOf_eq];exact sumO_bad (List.mem_append_right _ (List.mem_append_right _ (List.mem_map.2 ⟨_,List.getElem_mem hk,h⟩)))
theorem enough_all {t:T}{A B C:Nat}(h1:sumO (enoughL t.kids)=some A)(h2:sumO ((exprsOf t).map cnt)=some B)(h3:sumO ((pairsOf t).map fun p=>pairN p.1 p.2)=some C):enoughOf t=some (A+B+C):=by rw[enoughOf_eq,Nat.add_assoc];exact sumO_app h1 (sumO_app h2 h3)
theorem kid_types {t:T}(hg:CG t)(hz:tsize t<100000)(i:Nat):size (nthR (typesL t.kids) i).1≤1100000∧size (nthR (typesL t.kids) i).2≤1100000:=by
 have h:∀(ts:List T) (i:Nat),(∀x∈ts,CG x∧tsize x<100000)→size (nthR (typesL ts) i).1≤1100000∧size (nthR (typesL ts) i).2≤1100000:=by
  intro ts;induction ts with
  | nil=>
    intro i _;have e:nthR (typesL []) i=(nothing,nothing):=by simp[typesL,nthR]
    rw[e];exact⟨by decide,by decide⟩
  | cons x ts ih=>
    intro i h;cases i with
    | zero=>
      have g:=types_good _ x (Nat.le_refl _) (h x (by simp)).1;have:=(h x (by simp)).2;have g1:=g.s1;have g2:=g.s2;have e:nthR (typesL (x::ts)) 0=typesOf x:=by simp[typesL,nthR]
      rw[e];omega
    | succ i=>
      have e:nthR (typesL (x::ts)) (i+1)=nthR (typesL ts) i:=by simp[typesL,nthR]
      rw[e];exact ih i fun y hy=>h y (List.mem_cons_of_mem _ hy)
 refine h t.kids i fun x hx=>⟨hg.open_.2.2.2.2.2.2.mem x hx,?_⟩
 obtain⟨j,hj,rfl⟩:=List.getElem_of_mem hx;have:=tsizes_get hj;have:tsize t=1+tsizes t.kids:=by cases t;rfl
 omega
theorem exprs_size {t:T}(hg:CG t)(hz:tsize t<100000):∀r∈exprsOf t,size r<549755813888:=by
 intro r hr;have g:=types_good _ t (Nat.le_refl _) hg;have g1:=g.s1;have g2:=g.s2;have b1:=Go.Proofs.YtamkfdlcdiadlaaGreatDoor.size_back (typesOf t).1;have b2:=Go.Proofs.YtamkfdlcdiadlaaGreatDoor.size_back (typesOf t).2;have k0:=kid_types hg hz 0;have k1:=kid_types hg hz 1;unfold exprsOf at hr;rcases List.mem_append.1 hr with hr|hr
 ·simp only[List.mem_cons,List.not_mem_nil,or_false]at hr;rcases hr with rfl|rfl|rfl|rfl<;>omega
 ·split at hr
  ·simp only[List.mem_cons,List.not_mem_nil,or_false]at hr;subst hr;have h:=Go.Proofs.YtamkfdlcdiadlaaGreatDoor.size_both [(nthR (typesL t.kids) 0).1,(nthR (typesL t.kids) 1).1];simp only[sizes]at h;omega
  ·cases hr
theorem pairs_size {t:T}(hg:CG t)(hz:tsize t<100000):∀p∈pairsOf t,size p.1<549755813888∧size p.2<549755813888:=by
 intro p hp;have k0:=kid_types hg hz 0;have k1:=kid_types hg hz 1;have m1:=Go.Proofs.YtamkfdlcdiadlaaGreatDoor.size_many (nthR (typesL t.kids) 0).1;have m2:=Go.Proofs.YtamkfdlcdiadlaaGreatDoor.size_many (nthR (typesL t.kids) 0).2;unfold pairsOf pairsAsk at hp;split at hp
 ·simp only[List.mem_cons,List.not_mem_nil,or_false]at hp;rcases hp with rfl|rfl<;>(simp only;omega)
 ·split at hp
  ·simp only[List.mem_cons,List.not_mem_nil,or_false]at hp;rcases hp with rfl|rfl<;>(simp only;omega)
  ·cases hp
theorem exprs_len (t:T):(exprsOf t).length≤5:=by unfold exprsOf;rw[List.length_append];split<;>simp
end Pv
namespace Go.Proofs.YtamkfdlcdiadlaaGreatDoor
open Go.RowKit Go.Maps
variable {H:Nat→Prop}
def EsAt (H:Nat→Prop)(w:World)(l:List Pv.R)(v:Value):Prop:=∃a c bs,v = .slice a bs.length c∧Sl w a c (bs.map Ptr)∧ResAt H w l bs
def PsAt (H:Nat→Prop)(w:World)(l:List (Pv.R × Pv.R))(v:Value):Prop:=(l=[]∧∃b c,v = .slice (some ⟨b,0,none⟩) 0 c) ∨
 ∃p q b a1 a2 b1 b2,l=[p,q]∧v = .slice (some ⟨b,0,none⟩) 2 2∧w.heap[b]?=some (.cells #[Ptr a1,Ptr a2,Ptr b1,Ptr b2] 103)∧ReAt H w p.1 a1∧ReAt H w p.2 a2∧ReAt H w q.1 b1∧ReAt H w q.2 b2
theorem EsAt.later {w w':World}{l:List Pv.R}{v:Value}(h:EsAt H w l v)(hb:Below w.heap.size w w'):EsAt H w' l v:=by obtain⟨a,c,bs,e,h1,h2⟩:=h;exact⟨a,c,bs,e,h1.later hb,h2.later hb⟩
theorem PsAt.later {w w':World}{l:List (Pv.R × Pv.R)}{v:Value}(h:PsAt H w l v)(hb:Below w.heap.size w w'):PsAt H w' l v:=by
 rcases h with⟨e,h⟩|⟨p,q,b,a1,a2,b1,b2,e,e2,h1,h2,h3,h4,h5⟩
 ·exact .inl ⟨e,h⟩
 ·exact .inr ⟨p,q,b,a1,a2,b1,b2,e,e2,later_blk hb h1,h2.later hb,h3.later hb,h4.later hb,h5.later hb⟩
theorem NumW.no {B:Nat}{w w':World}{o:Option Nat}(h:o=none)(hb:Below w.heap.size w w'):NumW B o w (.returned (.tuple #[.int .i64 0,.bool false])) w':=⟨0,false,rfl,by rw[h];rfl,(fun m e=>by rw[h]at e;cases e),Nat.zero_le _,hb⟩
set_option maxRecDepth 20000 in
set_option maxHeartbeats 4000000 in
theorem enough_step (t:Pv.T)(tb:Nat)(w:World)(hz:Pv.tsize t<100000)(hg:Pv.CG t)(hat:TAt H w t tb)(hT:Tab w)(hH:∀h,H h→h<w.heap.size)
  (hih:∀(k:Pv.T) (kb:Nat) (W:World),k∈t.kids→TAt H W k kb→Tab W→(∀h,H h→h<W.heap.size)→Calls Tryz.prog 12 #[Ptr kb] W (NumW (543300*Pv.tsize k) (Pv.enoughOf k) W)):
  Calls Tryz.prog 12 #[Ptr tb] w (NumW (543300*Pv.tsize t) (Pv.enoughOf t) w):=by
 have ho:=hg.open_;obtain⟨htb,rv,a,kc,bs,hr,ha,hterm,hsl,hts⟩:=hat.open_;have hlen:=hts.length;have hbs2:bs.length≤2:=by have:=shaped_len ho.2.1;omega
 have t6:w.cell? ⟨tb,6,none⟩=some (.slice a bs.length kc):=cB (o:=6) hterm rfl;have HG:=Hy hg;have HAt:=Hy hat;have HT:=Hy hT;have HH:=Hy hH;have HTm:=Hy hterm;have HSl:=Hy hsl;have HTs:=Hy hts;have HL:=Hy hlen;have HZ:=Hy hz;have HIH:=Hy hih;clear hg hat hT hH hterm hsl hts ha hlen hz hr ho hih;go_enter Tryz.func12,Tryz.ntmps12;go_wp2_with fail
 go_loopw [4,36] (fun v i wr=>∃(k A:Nat),k≤bs.length∧i = .int .i64 k∧v = .int .i64 (A:Int)∧A≤54330000000*k∧Hid (Pv.sumO ((Pv.enoughL t.kids).take k)=some A)∧Hid (Below w.heap.size w wr)) (fun _ i _=>(bs.length-intOf i).toNat)
 case atStart=>exact⟨0,0,by omega,rfl,rfl,by omega,rfl,Below.refl _ _⟩
 case round=>
  obtain⟨k,A,hk,rfl,rfl,hA,HS,HB⟩:=hrel;have hszr:=HB.out.size;by_cases hkn:k<bs.length
  ·have hkt:k<t.kids.length:=by rw[←HL.out];exact hkn
   obtain⟨hjb,hatj⟩:=HTs.out.get k hkt;obtain⟨blk,off,rfl,hbl,hcl⟩:=HSl.out.at_ (by simp;omega);have hc0:=later HB.out (hcl k (by simpa using hkn));rw[List.getElem_map]at hc0;have hzk:=Pv.tsizes_get hkt;have hzt:=tsize_eq t;have hca:=HIH.out t.kids[k] bs[k] wr (List.getElem_mem hkt) (hatj.later HB.out) (HT.out.later HB.out) (fun h hh=>by have:=HH.out h hh;omega);have hbad:=Pv.enough_kid (t:=t) hkt
   have hgo:∀B,Pv.enoughOf t.kids[k]=some B→Pv.sumO ((Pv.enoughL t.kids).take (k+1))=some (A+B):=fun B hB=>by
    have hl:(Pv.enoughL t.kids).length=t.kids.length:=by rw[Pv.enoughL_map,List.length_map]
    refine Pv.sumO_take (by omega) HS.out ?_;simp only[Pv.enoughL_map,List.getElem_map];exact hB
   have hB0:543300*Pv.tsize t.kids[k]≤54330000000:=by have:=HZ.out;omega
   obtain⟨o,ho⟩:∃o,Pv.enoughOf t.kids[k]=o:=⟨_,rfl⟩
   obtain⟨B0,hB1⟩:∃B0,543300*Pv.tsize t.kids[k]=B0:=⟨_,rfl⟩
   rw[hB1]at hB0 hca;rw[ho]at hca hbad hgo;have HCa:=Hy hca;have HBad:=Hy hbad;have HGo:=Hy hgo;have hk':(k:Int)<bs.length:=by omega
   have hk40:(k:Int)<1099511627776:=by omega
   clear hca hbad hgo hcl hatj ho hB1 hzk hzt;go_wp2_with fail;refine HCa.out.mono ?_;rintro e w2 ⟨n,b,rfl,hb,hn,hn3,hbb⟩;have HB2:=Hy (HB.out.trans (hbb.mono hszr));clear hbb HCa hc0;cases o with
   | none=>
     subst hb;have HE:=Hy (HBad.out rfl);clear hn;go_wp2_with fail;refine bodyPost_ret (v:= .tuple #[.int .i64 0,.bool false]) (by simp[results,Tryz.results12,go_sem]) rfl ?_;exact NumW.no HE.out HB2.out
   | some B=>
     subst hb;have e:=hn B rfl;subst e;have HGo2:=Hy (HGo.out n rfl);have hA':(A:Int)≤543300000000:=by omega
     have hn':(n:Int)≤54330000000:=by omega
     clear hn;go_wp2_with fail;go_roundw
     case rel=>exact⟨k+1,A+n,by omega,by go_num,by go_num,by omega,HGo2.out,HB2.out⟩
     case measure=>simp[intOf];omega
  ·have hkn2:k=bs.length:=by omega
   have hkn3:¬(k:Int)<bs.length:=by omega
   have hS:=HS.out;rw[hkn2,HL.out,show t.kids.length=(Pv.enoughL t.kids).length by rw[Pv.enoughL_map,List.length_map],List.take_length]at hS;have HK:=Hy hS;clear hS HS;have HAr:=Hy (HAt.out.later HB.out);have HTr:=Hy (HT.out.later HB.out);have hHr:∀h,H h→h<wr.heap.size:=fun h hh=>by have:=HH.out h hh;omega
   have HTy:=Hy (types17_any _ H t tb wr (Nat.le_refl _) HZ.out HG.out HAr.out hHr);have HHr:=Hy hHr;clear hHr;go_wp2_with fail;refine HTy.out.mono ?_;rintro e w1 ⟨x1,x2,rfl,hx1,hx2,hb1⟩;have gx:=Pv.types_good _ t (Nat.le_refl _) HG.out;have HGx:=Hy gx;have HX1:=Hy hx1;have HX2:=Hy hx2;have HB1:=Hy (HB.out.trans (hb1.mono hszr));have HA1:=Hy (HAr.out.later hb1);have HT1:=Hy (HTr.out.later hb1)
   have hs1:=gx.s1;have hs2:=gx.s2;have hz2:=HZ.out;have hsz1:=hb1.size;clear hx1 hx2 hb1 gx HAr HTr HB HTy;go_wp2_with fail;refine(back_any _ H (Pv.typesOf t).1 x1 w1 (Nat.le_refl _) HX1.out (fun h hh=>by have:=HHr.out h hh;omega) (by omega)).mono ?_;rintro e w2 ⟨y1,rfl,hy1,hb2⟩;have HY1:=Hy hy1;have hsz2:=hb2.size;replace HX1:=Hy (HX1.out.later hb2);replace HX2:=Hy (HX2.out.later hb2)
   replace HB1:=Hy (HB1.out.trans (hb2.mono (by omega)));replace HA1:=Hy (HA1.out.later hb2);replace HT1:=Hy (HT1.out.later hb2);clear hy1 hb2;go_wp2_with fail;refine(back_any _ H (Pv.typesOf t).2 x2 w2 (Nat.le_refl _) HX2.out (fun h hh=>by have:=HHr.out h hh;omega) (by omega)).mono ?_;rintro e w3 ⟨y2,rfl,hy2,hb3⟩;have HY2:=Hy hy2;have hsz3:=hb3.size;replace HX1:=Hy (HX1.out.later hb3)
   replace HX2:=Hy (HX2.out.later hb3);replace HY1:=Hy (HY1.out.later hb3);replace HB1:=Hy (HB1.out.trans (hb3.mono (by omega)));replace HA1:=Hy (HA1.out.later hb3);replace HT1:=Hy (HT1.out.later hb3);clear hy2 hb3;go_upto_region 13 with fail
   obtain⟨gb,hgb⟩:∃n,w3.heap.size=n:=⟨_,rfl⟩
   obtain⟨w4,hw4⟩:∃W,(w3.alloc (.cells #[Ptr x1,Ptr y1,Ptr x2,Ptr y2] 59)).alloc (.cells #[] 103)=W:=⟨_,rfl⟩
   have hb4:Below w3.heap.size w3 w4:=by rw[←hw4];exact((Below.refl _ _).alloc (Nat.le_refl _) _).alloc (by simp) _
   have hg4:w4.heap[gb]?=some (.cells #[Ptr x1,Ptr y1,Ptr x2,Ptr y2] 59):=by rw[←hw4];exact blk_old (blk_new hgb)
   rw[hgb,hw4];clear hw4;have HGb:=Hy hg4;have hsz4:=hb4.size;have hwd:∀x,(fun x=>H x∨x=gb) x→H x∨w3.heap.size≤x:=fun x h=>by
    rcases h with h|h
    ·exact .inl h
    ·exact .inr (by omega)
   obtain⟨G,hG⟩:∃G:Nat→Prop,G=fun x=>H x∨x=gb:=⟨_,rfl⟩
   rw[←hG]at hwd;have KX1:=Hy ((HX1.out.widen (H':=G) hwd).later hb4);have KX2:=Hy ((HX2.out.widen (H':=G) hwd).later hb4);have KY1:=Hy ((HY1.out.widen (H':=G) hwd).later hb4);have KY2:=Hy ((HY2.out.widen (H':=G) hwd).later hb4);have KA1:=Hy ((HA1.out.widen (H':=G) hwd).later hb4);clear hwd;replace HX1:=Hy (HX1.out.later hb4);replace HX2:=Hy (HX2.out.later hb4);replace HY1:=Hy (HY1.out.later hb4)
   replace HY2:=Hy (HY2.out.later hb4);replace HB1:=Hy (HB1.out.trans (hb4.mono (by omega)));replace HA1:=Hy (HA1.out.later hb4);replace HT1:=Hy (HT1.out.later hb4);clear hb4 hg4;have t0:w4.cell? ⟨tb,0,none⟩=some (.int .i64 (t.op:Int)):=later HB1.out (cB (o:=0) HTm.out rfl);go_upto_block 2 with fail
   go_cut [11,12] (fun v11 v12 wx=>Hid (EsAt H wx (Pv.exprsOf t) v11)∧Hid (PsAt H wx (Pv.pairsOf t) v12)∧Hid (Below w.heap.size w wx))
   case first=>
    obtain⟨_,rvA,aA,kcA,bsA,_,haA,htermA,hslA,htsA⟩:=KA1.out.open_;have s6:w4.cell? ⟨tb,6,none⟩=some (.slice aA bsA.length kcA):=cB (o:=6) htermA rfl;have hes:t.op≠7→EsAt H w4 (Pv.exprsOf t) (.slice (some ⟨gb,0,none⟩) 4 4):=fun h7=>by
     have hR:=Row.of_blk (base:=gb) (e:=59) (xs:=[Ptr x1,Ptr y1,Ptr x2,Ptr y2]) (Nat.le_refl _) HGb.out (by unfold maxLen;simp);obtain⟨a,c,e1,e2,_⟩:=hR.form;refine⟨a,c,[x1,y1,x2,y2],e1,e2,?_⟩;unfold Pv.exprsOf;rw[if_neg h7];exact ResAt.append (ResAt.one HX1.out) (ResAt.append (ResAt.one HY1.out) (ResAt.append (ResAt.one HX2.out) (ResAt.one HY2.out)))
    have HEs:=Hy hes;have hgbl:=blk_lt HGb.out;have hH4:∀h,G h→h<w4.heap.size:=fun h hh=>by
     rw[hG]at hh;rcases hh with hh|hh
     ·have:=HHr.out h hh;omega
     ·omega
    have hGH:∀x,H x→G x:=fun x h=>by rw[hG];exact .inl h
    have HGH:=Hy hGH;clear hGH;have HH4:=Hy hH4;clear hes hH4 haA htermA;rcases HG.out.op5 with e|e|e|e|e
    ·skip
     have q9:((t.op:Int)==9)=false:=by rw[e];rfl
     have q7:((t.op:Int)==7)=false:=by rw[e];rfl
     have q8:((t.op:Int)==8)=false:=by rw[e];rfl
     have hps:Pv.pairsOf t=[]:=by unfold Pv.pairsOf Pv.pairsAsk;rw[if_neg (by omega),if_neg (by omega)]
     have HPs:=Hy hps;have HE:=Hy (HEs.out (by omega));clear hps hslA htsA s6 e;go_wp2_with fail;go_meet;exact⟨HE,.inl ⟨HPs.out,_,_,rfl⟩,HB1⟩
    ·skip
     have q9:((t.op:Int)==9)=false:=by rw[e];rfl
     have q7:((t.op:Int)==7)=false:=by rw[e];rfl
     have q8:((t.op:Int)==8)=false:=by rw[e];rfl
     have hps:Pv.pairsOf t=[]:=by unfold Pv.pairsOf Pv.pairsAsk;rw[if_neg (by omega),if_neg (by omega)]
     have HPs:=Hy hps;have HE:=Hy (HEs.out (by omega));clear hps hslA htsA s6 e;go_wp2_with fail;go_meet;exact⟨HE,.inl ⟨HPs.out,_,_,rfl⟩,HB1⟩
    ·have q9:((t.op:Int)==9)=false:=by rw[e];rfl
     have q7:((t.op:Int)==7)=true:=by rw[e];rfl
     obtain⟨x,y,hkx,hgx,hgy⟩:=HG.out.two (.inl e);have hps:Pv.pairsOf t=[]:=by unfold Pv.pairsOf Pv.pairsAsk;rw[if_neg (by omega),if_neg (by omega)]
     have hes7:Pv.exprsOf t=[(Pv.typesOf t).1,Pv.back (Pv.typesOf t).1,(Pv.typesOf t).2,Pv.back (Pv.typesOf t).2]++[Pv.both [(Pv.typesOf x).1,(Pv.typesOf y).1]]:=by unfold Pv.exprsOf;rw[if_pos e,hkx];rfl
     have HE7:=Hy hes7;clear hes7;have HPs:=Hy hps;rw[hkx]at htsA;obtain⟨h0,a0⟩:=htsA.get 0 (by simp);obtain⟨h1,a1⟩:=htsA.get 1 (by simp);obtain⟨ka,off,rfl,c0⟩:=hslA.cell 0 (by simpa using h0);obtain⟨ka',off',eka,c1⟩:=hslA.cell 1 (by simpa using h1);cases eka;rw[List.getElem_map]at c0 c1;replace c0:w4.cell? ⟨ka,off,none⟩=some (Ptr bsA[0]):=c0;have hn':(0:Int)<bsA.length:=by omega
     have hn1:(1:Int)<bsA.length:=by omega
     have hzx:Pv.tsize x<100000∧Pv.tsize y<100000:=by have h1:=tsize_eq t;rw[hkx]at h1;simp only[Pv.tsizes]at h1;omega
     have gx:=Pv.types_good _ x (Nat.le_refl _) hgx;have gy:=Pv.types_good _ y (Nat.le_refl _) hgy;have g1:=gx.s1;have g2:=gx.s2;have g3:=gy.s1;have g4:=gy.s2;have HTy:=Hy (types17_any _ G x bsA[0] w4 (Nat.le_refl _) hzx.1 hgx a0 HH4.out)
     have HTy2:=fun(W:World) (hW:Below w4.heap.size w4 W)=>types17_any _ G y bsA[1] W (Nat.le_refl _) hzx.2 hgy (a1.later hW) (fun h hh=>by have:=HH4.out h hh;have:=hW.size;omega)
     have HTy3:=Hy HTy2;clear hps hslA htsA a0 a1 gx gy e hkx HTy2;go_wp2_with fail;refine HTy.out.mono ?_;rintro e w5 ⟨z1,z2,rfl,hz1,hz2,hb5⟩;have HZ1:=Hy hz1;have HZ2:=Hy hz2;have hsz5:=hb5.size;have HB5:=Hy hb5;replace c1:=later hb5 c1;replace s6:=later hb5 s6;have HTw:=Hy (HTy3.out w5 hb5);clear hz1 hz2 hb5 HTy HTy3 c0;go_wp2_with fail;refine HTw.out.mono ?_;rintro e w6 ⟨v1,v2,rfl,hv1,hv2,hb6⟩
     have HV1:=Hy hv1;have HV2:=Hy hv2;have hsz6:=hb6.size;replace HZ1:=Hy (HZ1.out.later hb6);replace HZ2:=Hy (HZ2.out.later hb6);replace HB5:=Hy (HB5.out.trans (hb6.mono (by omega)));clear hv1 hv2 hb6 HTw c1 s6;have hb7:∀o,Below w6.heap.size w6 (w6.alloc o):=fun o=>(Below.refl _ _).alloc (Nat.le_refl _) _
     have hbo:=both_any (H:=G) [(Pv.typesOf x).1,(Pv.typesOf y).1] (some ⟨w6.heap.size,0,none⟩) 2 [z1,v1] (w6.alloc (.cells #[Ptr z1,Ptr v1] 59)) (Sl.of_blk2 (blk_new rfl)) (ResAt.append (ResAt.one (HZ1.out.later (hb7 _))) (ResAt.one (HV1.out.later (hb7 _)))) (fun h hh=>by have:=HH4.out h hh;have:=(hb7 (.cells #[Ptr z1,Ptr v1] 59)).size;omega) (by simp[Pv.sizes];omega);have HBo:=Hy hbo;clear hbo
     go_wp2_with fail;refine HBo.out.mono ?_;rintro e w8 ⟨ob,rfl,hob,hb8⟩;have hb48:Below w4.heap.size w4 w8:=HB5.out.trans (((hb7 _).trans (hb8.mono (hb7 (.cells #[Ptr z1,Ptr v1] 59)).size)).mono (by omega));have hR:=Row.of_blk (base:=gb) (e:=59) (xs:=[Ptr x1,Ptr y1,Ptr x2,Ptr y2]) (Nat.le_refl _) (later_blk hb48 HGb.out) (by unfold maxLen;simp);have HR:=Hy hR;have HOb:=Hy hob;have HB48:=Hy hb48
     have hsz8:=hb48.size;clear hR hob hb48 hb8 HBo hb7;obtain⟨i0,hi,hi0,hi1,hi2⟩:=info_parts info_re;go_wp2_with (at_builtin;refine app1 _ _ i0 _ 8 Tryz.underlying101 hi hi0 hi1 hi2 rfl (by omega) rfl _ _ rfl gb _ _ rfl (HR.out.alloc _) w8.heap.size _ rfl (blk_new rfl) rfl ?c1 (by simp;omega) ?c2)
     case c1=>simp
     case c2=>
      intro v' w9 hr9 hb9 hg9;have hk9:Keep (· = gb) w8 w9:=(Keep.alloc w8 _).trans (Keep.of_grown hg9 fun x e=>by cases e;rfl);have hk9G:Keep G w8 w9:=hk9.wide fun x e=> .inl (by rw[hG];exact .inr e)
      have HK9:=Hy hk9G;have hB9:Below w.heap.size w w9:=(HB1.out.trans (HB48.out.mono HB1.out.size)).trans (hk9.below (by have:=HB1.out.size;omega) fun x e=>by rw[e];omega);have HB9:=Hy hB9;have HR9:=Hy hr9;obtain⟨a9,c9,ev9,_,_⟩:=hr9.form;subst ev9;clear hr9 hb9 hg9 hk9 hk9G hB9;go_wp2_with fail;go_meet
      have wk:∀ {r:Pv.R} {b:Nat} {W:World},ReAt G W r b→ReAt H W r b:=fun h=>h.widen (H':=H) fun x hx=> .inl (HGH.out x hx)
      obtain⟨a,c,e1,e2,_⟩:=HR9.out.form;refine⟨⟨a,c,[x1,y1,x2,y2,ob],e1,e2,?_⟩,.inl ⟨HPs.out,_,_,rfl⟩,HB9.out⟩;rw[HE7.out]
      exact ResAt.append (ResAt.one (wk ((KX1.out.later HB48.out).keep HK9.out))) (ResAt.append (ResAt.one (wk ((KY1.out.later HB48.out).keep HK9.out))) (ResAt.append (ResAt.one (wk ((KX2.out.later HB48.out).keep HK9.out))) (ResAt.append (ResAt.one (wk ((KY2.out.later HB48.out).keep HK9.out))) (ResAt.one (wk (HOb.out.keep HK9.out))))))
    ·have q9:((t.op:Int)==9)=false:=by rw[e];rfl
     have q7:((t.op:Int)==7)=false:=by rw[e];rfl
     have q8:((t.op:Int)==8)=true:=by rw[e];rfl
     obtain⟨x,y,hkx,hgx,hgy⟩:=HG.out.two (.inr e);have hps:Pv.pairsOf t=[((Pv.typesOf x).1,(Pv.typesOf y).1),((Pv.typesOf x).2,(Pv.typesOf y).2)]:=by unfold Pv.pairsOf Pv.pairsAsk;rw[if_neg (by omega),if_pos e,hkx];rfl
     have HE:=Hy (HEs.out (by omega));have HPs:=Hy hps;rw[hkx]at htsA;obtain⟨h0,a0⟩:=htsA.get 0 (by simp);obtain⟨h1,a1⟩:=htsA.get 1 (by simp);obtain⟨ka,off,rfl,c0⟩:=hslA.cell 0 (by simpa using h0);obtain⟨ka',off',eka,c1⟩:=hslA.cell 1 (by simpa using h1);cases eka;rw[List.getElem_map]at c0 c1;replace c0:w4.cell? ⟨ka,off,none⟩=some (Ptr bsA[0]):=c0;have hn':(0:Int)<bsA.length:=by omega
     have hn1:(1:Int)<bsA.length:=by omega
     have hzx:Pv.tsize x<100000∧Pv.tsize y<100000:=by have h1:=tsize_eq t;rw[hkx]at h1;simp only[Pv.tsizes]at h1;omega
     have gx:=Pv.types_good _ x (Nat.le_refl _) hgx;have gy:=Pv.types_good _ y (Nat.le_refl _) hgy;have g1:=gx.s1;have g2:=gx.s2;have g3:=gy.s1;have g4:=gy.s2;have HTy:=Hy (types17_any _ G x bsA[0] w4 (Nat.le_refl _) hzx.1 hgx a0 HH4.out)
     have HTy2:=fun(W:World) (hW:Below w4.heap.size w4 W)=>types17_any _ G y bsA[1] W (Nat.le_refl _) hzx.2 hgy (a1.later hW) (fun h hh=>by have:=HH4.out h hh;have:=hW.size;omega)
     have HTy3:=Hy HTy2;clear hps hslA htsA a0 a1 gx gy e hkx HTy2;go_wp2_with fail;refine HTy.out.mono ?_;rintro e w5 ⟨z1,z2,rfl,hz1,hz2,hb5⟩;have HZ1:=Hy hz1;have HZ2:=Hy hz2;have hsz5:=hb5.size;have HB5:=Hy hb5;replace c1:=later hb5 c1;replace s6:=later hb5 s6;have HTw:=Hy (HTy3.out w5 hb5);clear hz1 hz2 hb5 HTy HTy3 c0;go_wp2_with fail;refine HTw.out.mono ?_;rintro e w6 ⟨v1,v2,rfl,hv1,hv2,hb6⟩
     have HV1:=Hy hv1;have HV2:=Hy hv2;have hsz6:=hb6.size;replace HZ1:=Hy (HZ1.out.later hb6);replace HZ2:=Hy (HZ2.out.later hb6);replace HB5:=Hy (HB5.out.trans (hb6.mono (by omega)));clear hv1 hv2 hb6 HTw c1 s6;go_wp2_with fail;go_meet;have wk:∀ {r:Pv.R} {b:Nat} {W:World},ReAt G W r b→ReAt H W r b:=fun h=>h.widen (H':=H) fun x hx=> .inl (HGH.out x hx)
     have hb7:∀o,Below w6.heap.size w6 (w6.alloc o):=fun o=>(Below.refl _ _).alloc (Nat.le_refl _) _
     have hb8:=HB5.out.trans ((hb7 (.cells #[Ptr z1,Ptr v1,Ptr z2,Ptr v2] 103)).mono (show w4.heap.size≤w6.heap.size by omega));refine⟨HE.out.later hb8,.inr ⟨_,_,_,z1,v1,z2,v2,HPs.out,rfl,blk_new rfl,wk (HZ1.out.later (hb7 _)),wk (HV1.out.later (hb7 _)),wk (HZ2.out.later (hb7 _)),wk (HV2.out.later (hb7 _))⟩,HB1.out.trans (hb8.mono HB1.out.size)⟩
    ·skip
     have q9:((t.op:Int)==9)=true:=by rw[e];rfl
     obtain⟨x,hkx,hgx⟩:=HG.out.one e;have hps:Pv.pairsOf t=[((Pv.typesOf x).1,Pv.many (Pv.typesOf x).1),((Pv.typesOf x).2,Pv.many (Pv.typesOf x).2)]:=by unfold Pv.pairsOf Pv.pairsAsk;rw[if_pos e,hkx];rfl
     have HPs:=Hy hps;have HE:=Hy (HEs.out (by omega));rw[hkx]at htsA;obtain⟨h0,a0⟩:=htsA.get 0 (by simp);obtain⟨ka,off,rfl,c0⟩:=hslA.cell 0 (by simpa using h0);rw[List.getElem_map]at c0;replace c0:w4.cell? ⟨ka,off,none⟩=some (Ptr bsA[0]):=c0;have hn':(0:Int)<bsA.length:=by omega
     have hzx:Pv.tsize x<100000:=by have h1:=tsize_eq t;rw[hkx]at h1;simp only[Pv.tsizes]at h1;omega
     have gx:=Pv.types_good _ x (Nat.le_refl _) hgx;have g1:=gx.s1;have g2:=gx.s2;have HTy:=Hy (types17_any _ G x bsA[0] w4 (Nat.le_refl _) hzx hgx a0 HH4.out);clear hps hslA htsA a0 gx e hkx;go_wp2_with fail;refine HTy.out.mono ?_;rintro e w5 ⟨z1,z2,rfl,hz1,hz2,hb5⟩;have HZ1:=Hy hz1;have HZ2:=Hy hz2;have hsz5:=hb5.size;have HB5:=Hy hb5;clear hz1 hz2 hb5 HTy c0 s6;go_wp2_with fail
     refine(many_any (H:=G) (Pv.typesOf x).1 z1 w5 HZ1.out (fun h hh=>by have:=HH4.out h hh;omega) (by omega)).mono ?_;rintro e w6 ⟨m1,rfl,hm1,hb6⟩;have HM1:=Hy hm1;have hsz6:=hb6.size;replace HZ1:=Hy (HZ1.out.later hb6);replace HZ2:=Hy (HZ2.out.later hb6);replace HB5:=Hy (HB5.out.trans (hb6.mono (by omega)));clear hm1 hb6;go_wp2_with fail
     refine(many_any (H:=G) (Pv.typesOf x).2 z2 w6 HZ2.out (fun h hh=>by have:=HH4.out h hh;omega) (by omega)).mono ?_;rintro e w7 ⟨m2,rfl,hm2,hb7⟩;have HM2:=Hy hm2;have hsz7:=hb7.size;replace HZ1:=Hy (HZ1.out.later hb7);replace HZ2:=Hy (HZ2.out.later hb7);replace HM1:=Hy (HM1.out.later hb7);replace HB5:=Hy (HB5.out.trans (hb7.mono (by omega)));clear hm2 hb7;go_wp2_with fail;go_meet
     have wk:∀ {r:Pv.R} {b:Nat} {W:World},ReAt G W r b→ReAt H W r b:=fun h=>h.widen (H':=H) fun x hx=> .inl (HGH.out x hx)
     have hb8:∀o,Below w7.heap.size w7 (w7.alloc o):=fun o=>(Below.refl _ _).alloc (Nat.le_refl _) _
     have hb9:=HB5.out.trans ((hb8 (.cells #[Ptr z1,Ptr m1,Ptr z2,Ptr m2] 103)).mono (show w4.heap.size≤w7.heap.size by omega));refine⟨HE.out.later hb9,.inr ⟨_,_,_,z1,m1,z2,m2,HPs.out,rfl,blk_new rfl,wk (HZ1.out.later (hb8 _)),wk (HM1.out.later (hb8 _)),wk (HZ2.out.later (hb8 _)),wk (HM2.out.later (hb8 _))⟩,HB1.out.trans (hb9.mono HB1.out.size)⟩
   case rest=>
    obtain⟨HE,HP,HB⟩:=hcut;clear HX1 HX2 HY1 HY2 KX1 KX2 KY1 KY2 KA1 HGb HA1 HB1 hG;obtain⟨ea,ec,eb,ev,hesl,hers⟩:=HE.out;subst ev;have hel:=hers.length;have HESl:=Hy hesl;have HERs:=Hy hers;have HEl:=Hy hel;have hszc:=HB.out.size;clear hesl hers HE;have HTc:=Hy (HT.out.later HB.out);have hHc:∀h,H h→h<wc.heap.size:=fun h hh=>by have:=HH.out h hh;omega
    have hwcs:w.heap.size≤wc.heap.size:=by omega
    have HSz:=Hy (Pv.exprs_size HG.out HZ.out);have HSp:=Hy (Pv.pairs_size HG.out HZ.out);have hel5:=Pv.exprs_len t;have heb5:eb.length≤5:=by omega
    clear hel hel5;go_wp2_with fail;go_loopw [4,149] (fun v i wr=>∃(k B:Nat),k≤eb.length∧i = .int .i64 k∧v = .int .i64 ((A+B:Nat):Int)∧B≤300*k∧Hid (Pv.sumO (((Pv.exprsOf t).map Pv.cnt).take k)=some B)∧Hid (Below wc.heap.size wc wr)) (fun _ i _=>(eb.length-intOf i).toNat)
    case atStart=>exact⟨0,0,by omega,rfl,rfl,by omega,rfl,Below.refl _ _⟩
    case round=>
     obtain⟨k,B,hk,rfl,rfl,hB,HS2,HBr⟩:=hrel;have hszr2:=HBr.out.size;by_cases hkn:k<eb.length
     ·have hkt:k<(Pv.exprsOf t).length:=by have:=HEl.out;omega
      obtain⟨hjb,hatk⟩:=HERs.out.get k hkt;obtain⟨blk,off,rfl,hbl,hcl⟩:=HESl.out.at_ (by simp;omega);have hc0:=later HBr.out (hcl k (by simpa using hkn));rw[List.getElem_map]at hc0;have hca:=count_any (H:=H) (Pv.exprsOf t)[k] eb[k] wr (hatk.later HBr.out) (HTc.out.later HBr.out) (fun h hh=>by have:=hHc h hh;omega) (HSz.out _ (List.getElem_mem hkt));have hbad:=Pv.enough_expr (t:=t) hkt
      have hgo:∀C,Pv.cnt (Pv.exprsOf t)[k]=some C→Pv.sumO (((Pv.exprsOf t).map Pv.cnt).take (k+1))=some (B+C):=fun C hC=>by refine Pv.sumO_take (by rw[List.length_map];omega) HS2.out ?_;rw[List.getElem_map];exact hC
      obtain⟨o,ho⟩:∃o,Pv.cnt (Pv.exprsOf t)[k]=o:=⟨_,rfl⟩
      rw[ho]at hca hbad hgo;have HCa:=Hy hca;have HBad:=Hy hbad;have HGo:=Hy hgo;have hk':(k:Int)<eb.length:=by omega
      have hk40:(k:Int)<1099511627776:=by omega
      clear hca hbad hgo hcl hatk ho;go_wp2_with fail;refine HCa.out.mono ?_;rintro e w2 ⟨n,b,rfl,hb,hn,hn3,hbb⟩;have HB2:=Hy (HBr.out.trans (hbb.mono hszr2));clear hbb HCa hc0;cases o with
      | none=>
        subst hb;have HE:=Hy (HBad.out rfl);have HB3:=Hy (HB.out.trans (HB2.out.mono hwcs));clear hn;go_wp2_with fail;refine bodyPost_ret (v:= .tuple #[.int .i64 0,.bool false]) (by simp[results,Tryz.results12,go_sem]) rfl ?_;exact NumW.no HE.out HB3.out
      | some C=>
        subst hb;have e:=hn C rfl;subst e;have HGo2:=Hy (HGo.out n rfl);have hAB:((A+B:Nat):Int)≤543300000000:=by omega
        have hn':(n:Int)≤300:=by omega
        have hsum:((A+B:Nat):Int)+(n:Int)=((A+(B+n):Nat):Int):=by omega
        have hwr:IntKind.i64.wrap (((A+B:Nat):Int)+(n:Int))=((A+(B+n):Nat):Int):=by rw[IntKind.wrap_i64]<;>omega
        have hkw:IntKind.i64.wrap ((k:Int)+1)=((k+1:Nat):Int):=by rw[IntKind.wrap_i64]<;>omega
        clear hn;obtain⟨AB,hABe⟩:∃z,A+B=z:=⟨_,rfl⟩
        rw[hABe]at hwr hAB hsum ⊢;go_wp2_with fail;go_roundw
        case rel=>exact⟨k+1,B+n,by omega,(by first|go_num|(rw[hkw];rfl)),congrArg (Value.int IntKind.i64) (by first|rfl|(rw[hwr];omega)|omega),by omega,HGo2.out,HB2.out⟩
        case measure=>simp[intOf];omega
     ·have hkn2:k=eb.length:=by omega
      have hkn3:¬(k:Int)<eb.length:=by omega
      have hS:=HS2.out;rw[hkn2,HEl.out,show(Pv.exprsOf t).length=((Pv.exprsOf t).map Pv.cnt).length by rw[List.length_map],List.take_length]at hS;have HL2:=Hy hS;clear hS HS2;replace HP:=Hy (HP.out.later HBr.out);replace HTc:=Hy (HTc.out.later HBr.out);replace HB:=Hy (HB.out.trans (HBr.out.mono hwcs));obtain⟨AB,hABe⟩:∃z,A+B=z:=⟨_,rfl⟩
      rw[hABe];have hAB:AB≤108660001500:=by omega
      have hHr3:∀h,H h→h<wr.heap.size:=fun h hh=>by have:=hHc h hh;omega
      clear HBr hHc HERs HESl HSz;obtain⟨wz,hwz⟩:∃W,W=wr:=⟨_,rfl⟩
      subst hwz;rcases HP.out with⟨he,pb,pc,rfl⟩|⟨p,q,pb,a1,a2,b1,b2,he,rfl,hpb,ha1,ha2,hb1,hb2⟩
      ·have HFin:=Hy (Pv.enough_all HK.out HL2.out (show Pv.sumO ((Pv.pairsOf t).map fun p=>Pv.pairN p.1 p.2)=some 0 by rw[he];rfl));clear HP he;go_wp2_with fail;go_loopw [4,166] (fun v i wr2=>v = .int .i64 (AB:Int)∧i = .int .i64 0∧wr2=wz) (fun _ _ _=>0)
       case atStart=>exact⟨rfl,rfl,rfl⟩
       case round=>
        obtain⟨rfl,rfl,rfl⟩:=hrel;go_wp2_with fail;refine bodyPost_ret (v:= .tuple #[.int .i64 (AB:Int),.bool true]) (by simp[results,Tryz.results12,go_sem]) rfl ?_;have hfin:=HFin.out;rw[Nat.add_zero,hABe]at hfin;exact⟨AB,true,rfl,by rw[hfin];rfl,(fun m h=>by rw[hfin]at h;simpa using h),Pv.enough_le hfin,HB.out⟩
      ·have HA1:=Hy ha1;have HA2:=Hy ha2;have HB1:=Hy hb1;have HB2:=Hy hb2;have HPb:=Hy hpb;have HHe:=Hy he;clear HP ha1 ha2 hb1 hb2 hpb he;go_wp2_with fail;go_loopw [4,166] (fun v i wr2=>∃(k C:Nat),k≤2∧i = .int .i64 k∧v = .int .i64 ((AB+C:Nat):Int)∧C≤270900*k∧Hid (Pv.sumO ([Pv.pairN p.1 p.2,Pv.pairN q.1 q.2].take k)=some C)∧Hid (Below wz.heap.size wz wr2)) (fun _ i _=>(2-intOf i).toNat)
       case atStart=>exact⟨0,0,by omega,rfl,rfl,by omega,rfl,Below.refl _ _⟩
       case round=>
        obtain⟨k,C,hk3,rfl,rfl,hC,HS3,HBq⟩:=hrel;have hszq:=HBq.out.size;have hPb:=later_blk HBq.out HPb.out;have c0:wr.cell? ⟨pb,0,none⟩=some (Ptr a1):=cB (o:=0) hPb rfl;have c1:wr.cell? ⟨pb,1,none⟩=some (Ptr a2):=cB (o:=1) hPb rfl;have c2:wr.cell? ⟨pb,2,none⟩=some (Ptr b1):=cB (o:=2) hPb rfl;have c3:wr.cell? ⟨pb,3,none⟩=some (Ptr b2):=cB (o:=3) hPb rfl;clear hPb;have hk6:k=0∨k=1∨k=2:=by omega
        rcases hk6 with rfl|rfl|rfl
        ·skip
         have hbA:∀o,Below wr.heap.size wr (wr.alloc o):=fun o=>(Below.refl _ _).alloc (Nat.le_refl _) _
         have hbZ:=HBq.out.trans ((hbA (.cells #[Ptr a1,Ptr a2] 103)).mono hszq);have hsp:=HSp.out p (by rw[HHe.out];simp);have hca:=pair_any (H:=H) p.1 p.2 a1 a2 (wr.alloc (.cells #[Ptr a1,Ptr a2] 103)) (HA1.out.later hbZ) (HA2.out.later hbZ) (HTc.out.later hbZ) (fun h hh=>by have:=hHr3 h hh;have:=(hbA (.cells #[Ptr a1,Ptr a2] 103)).size;omega) hsp.1 hsp.2
         have hbad:Pv.pairN p.1 p.2=none→Pv.enoughOf t=none:=fun h=>Pv.enough_pair (t:=t) (k:=0) (by rw[HHe.out];simp) (by simp only[HHe.out];exact h)
         have hgo:∀D,Pv.pairN p.1 p.2=some D→Pv.sumO ([Pv.pairN p.1 p.2,Pv.pairN q.1 q.2].take (0+1))=some (C+D):=fun D hD=>Pv.sumO_take (by simp) HS3.out hD
         obtain⟨o,ho⟩:∃o,Pv.pairN p.1 p.2=o:=⟨_,rfl⟩
         rw[ho]at hca;have hbad2:o=none→Pv.enoughOf t=none:=fun e=>hbad (ho.trans e)
         have hgo2:=fun D (e:o=some D)=>hgo D (ho.trans e)
         have HCa:=Hy hca;have HBad:=Hy hbad2;have HGo:=Hy hgo2;clear hca hbad hgo hbad2 hgo2 hsp ho;go_wp2_with fail;refine HCa.out.mono ?_;rintro e w2 ⟨n,b,rfl,hb,hn,hn3,hbb⟩;have HBn:=Hy (hbZ.trans (hbb.mono hbZ.size));clear hbb HCa c0 c1 c2 c3 hbZ hbA;cases o with
         | none=>
           subst hb;have HE:=Hy (HBad.out rfl);have HB3:=Hy (HB.out.trans (HBn.out.mono HB.out.size));clear hn;go_wp2_with fail;refine bodyPost_ret (v:= .tuple #[.int .i64 0,.bool false]) (by simp[results,Tryz.results12,go_sem]) rfl ?_;exact NumW.no HE.out HB3.out
         | some D=>
           subst hb;have e:=hn D rfl;subst e;have HGo3:=Hy (HGo.out n rfl);have hwr:IntKind.i64.wrap (((AB+C:Nat):Int)+(n:Int))=((AB+(C+n):Nat):Int):=by rw[IntKind.wrap_i64]<;>omega
           obtain⟨ABC,hABC⟩:∃z,AB+C=z:=⟨_,rfl⟩
           rw[hABC]at hwr ⊢;clear hn;go_wp2_with fail;go_roundw
           case rel=>exact⟨0+1,C+n,by omega,by first|rfl|go_num,congrArg (Value.int IntKind.i64) (by first|rfl|(rw[hwr];omega)|omega),by omega,HGo3.out,HBn.out⟩
           case measure=>simp[intOf]
        ·skip
         have hbA:∀o,Below wr.heap.size wr (wr.alloc o):=fun o=>(Below.refl _ _).alloc (Nat.le_refl _) _
         have hbZ:=HBq.out.trans ((hbA (.cells #[Ptr b1,Ptr b2] 103)).mono hszq);have hsp:=HSp.out q (by rw[HHe.out];simp);have hca:=pair_any (H:=H) q.1 q.2 b1 b2 (wr.alloc (.cells #[Ptr b1,Ptr b2] 103)) (HB1.out.later hbZ) (HB2.out.later hbZ) (HTc.out.later hbZ) (fun h hh=>by have:=hHr3 h hh;have:=(hbA (.cells #[Ptr b1,Ptr b2] 103)).size;omega) hsp.1 hsp.2
         have hbad:Pv.pairN q.1 q.2=none→Pv.enoughOf t=none:=fun h=>Pv.enough_pair (t:=t) (k:=1) (by rw[HHe.out];simp) (by simp only[HHe.out];exact h)
         have hgo:∀D,Pv.pairN q.1 q.2=some D→Pv.sumO ([Pv.pairN p.1 p.2,Pv.pairN q.1 q.2].take (1+1))=some (C+D):=fun D hD=>Pv.sumO_take (by simp) HS3.out hD
         obtain⟨o,ho⟩:∃o,Pv.pairN q.1 q.2=o:=⟨_,rfl⟩
         rw[ho]at hca;have hbad2:o=none→Pv.enoughOf t=none:=fun e=>hbad (ho.trans e)
         have hgo2:=fun D (e:o=some D)=>hgo D (ho.trans e)
         have HCa:=Hy hca;have HBad:=Hy hbad2;have HGo:=Hy hgo2;clear hca hbad hgo hbad2 hgo2 hsp ho;go_wp2_with fail;refine HCa.out.mono ?_;rintro e w2 ⟨n,b,rfl,hb,hn,hn3,hbb⟩;have HBn:=Hy (hbZ.trans (hbb.mono hbZ.size));clear hbb HCa c0 c1 c2 c3 hbZ hbA;cases o with
         | none=>
           subst hb;have HE:=Hy (HBad.out rfl);have HB3:=Hy (HB.out.trans (HBn.out.mono HB.out.size));clear hn;go_wp2_with fail;refine bodyPost_ret (v:= .tuple #[.int .i64 0,.bool false]) (by simp[results,Tryz.results12,go_sem]) rfl ?_;exact NumW.no HE.out HB3.out
         | some D=>
           subst hb;have e:=hn D rfl;subst e;have HGo3:=Hy (HGo.out n rfl);have hwr:IntKind.i64.wrap (((AB+C:Nat):Int)+(n:Int))=((AB+(C+n):Nat):Int):=by rw[IntKind.wrap_i64]<;>omega
           obtain⟨ABC,hABC⟩:∃z,AB+C=z:=⟨_,rfl⟩
           rw[hABC]at hwr ⊢;clear hn;go_wp2_with fail;go_roundw
           case rel=>exact⟨1+1,C+n,by omega,by first|rfl|go_num,congrArg (Value.int IntKind.i64) (by first|rfl|(rw[hwr];omega)|omega),by omega,HGo3.out,HBn.out⟩
           case measure=>simp[intOf]
        ·have hS:=HS3.out;have hS2:Pv.sumO ((Pv.pairsOf t).map fun p=>Pv.pairN p.1 p.2)=some C:=by rw[HHe.out];exact hS
         have HFin:=Hy (Pv.enough_all HK.out HL2.out hS2);have HBz:=Hy (HB.out.trans (HBq.out.mono HB.out.size));clear hS hS2 HS3 HHe;obtain⟨ABC,hABC⟩:∃z,AB+C=z:=⟨_,rfl⟩
         rw[hABC];go_wp2_with fail;refine bodyPost_ret (v:= .tuple #[.int .i64 (ABC:Int),.bool true]) (by simp[results,Tryz.results12,go_sem]) rfl ?_;have hfin:=HFin.out;rw[hABe,hABC]at hfin;exact⟨ABC,true,rfl,by rw[hfin];rfl,(fun m h=>by rw[hfin]at h;simpa using h),Pv.enough_le hfin,HBz.out⟩
theorem enough17_any:∀(m:Nat) (H:Nat→Prop) (t:Pv.T) (tb:Nat) (w:World),Pv.tsize t≤m→Pv.tsize t<100000→Pv.CG t→TAt H w t tb→Tab w→(∀h,H h→h<w.heap.size) →
  Calls Tryz.prog 12 #[Ptr tb] w (NumW (543300*Pv.tsize t) (Pv.enoughOf t) w)
 | 0,_,t,_,_,hm,_,_,_,_,_=>by have:=tsize_eq t;omega
 | m+1,H,t,tb,w,hm,hz,hg,hat,hT,hH=>by
   have hseq:=tsize_eq t;refine enough_step t tb w hz hg hat hT hH fun k kb W hk h1 h2 h3 => ?_
   obtain⟨i,hi,rfl⟩:=List.getElem_of_mem hk;have:=Pv.tsizes_get hi;exact enough17_any m H _ kb W (by omega) (by omega) (hg.open_.2.2.2.2.2.2.mem _ hk) h1 h2 h3
end Go.Proofs.YtamkfdlcdiadlaaGreatDoor
