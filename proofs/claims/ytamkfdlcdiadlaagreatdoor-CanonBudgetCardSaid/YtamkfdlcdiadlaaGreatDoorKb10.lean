/- The walks of package re: unique, Then, join. -/
import Derived.Test.YtamkfdlcdiadlaaGreatDoorKb05
import Derived.Test.YtamkfdlcdiadlaaGreatDoorKb09
import Derived.Test.YtamkfdlcdiadlaaGreatDoorKb02
set_option linter.all false
namespace Go.Proofs.YtamkfdlcdiadlaaGreatDoor
open Go.RowKit
variable {H:Nat→Prop}
theorem Ext.hideV_ {v:Value}{W W':World}(h:Ext (hideV v W) W'):Ext (hideV v W) (hideV v W'):=by
 unfold hideV at *;split
 ·rename_i g hg;rw[hg]at h;exact h.hide_
 ·rename_i hg;rw[hg]at h;exact h
theorem keptC_map:∀(ps:List (Nat × Pv.R)) (o:Option (Nat × Pv.R)),(keptGo keepC o ps).map (·.2)=match o,Pv.compact (ps.map (·.2)) with
  | none,l=>l
  | some _,[]=>[]
  | some y,x::m=>if Pv.same y.2 x then m else x::m
 | [],o=>by cases o<;>rfl
 | p::ps,o=>by
   have h:=keptC_map ps (some p);unfold keptGo;rw[List.map_append,h];have hc:Pv.compact ((p::ps).map (·.2))=p.2::(match Pv.compact (ps.map (·.2)) with|[]=>[]|x::m=>if Pv.same p.2 x then m else x::m):=by
    rw[List.map_cons,Pv.compact];cases Pv.compact (ps.map (·.2)) with
    | nil=>rfl
    | cons x m=>simp only;split<;>rfl
   rw[hc];cases o with
   | none=>
     simp only[keepC,if_true,List.map_cons,List.map_nil,List.cons_append,List.nil_append];cases Pv.compact (ps.map (·.2))<;>rfl
   | some y=>
     have hs:Pv.same p.2 y.2=Pv.same y.2 p.2:=by unfold Pv.same;exact Bool.beq_comm
     simp only[keepC,hs];cases hq:Pv.same y.2 p.2
     ·simp;cases Pv.compact (ps.map (·.2))<;>rfl
     ·simp;cases Pv.compact (ps.map (·.2))<;>rfl
theorem unique_pairs {ps ps':List (Nat × Pv.R)}(hp:ps'.Perm ps)(hs:ps'.Pairwise (fun x y=>¬Pv.key y.2<Pv.key x.2))(hw:∀x∈ps,Pv.WF x.2):(keptGo keepC none ps').map (·.2)=Pv.unique (ps.map (·.2)):=by
 rw[keptC_map];show Pv.compact _=Pv.compact _;congr 1;refine Pv.sorted_eq ((hp.map _).trans (Pv.isort_perm _).symm) ?_ (Pv.isort_sorted _) fun x hx => ?_
 ·rw[List.pairwise_map];exact hs.imp fun h=>List.not_lt.1 h
 ·have:=(Pv.isort_perm _).mem_iff.1 hx;obtain⟨p,hp,rfl⟩:=List.mem_map.1 this;exact hw p hp
set_option maxHeartbeats 1000000 in
theorem unique_any (ps:List (Nat × Pv.R))(base:Nat)(v:Value)(w:World)(h:ReRowX H base w v ps)(hb:base≤w.heap.size)(hl:ps.length<1099511627776):
  Calls Tryz.prog 123 #[v] w fun e w'=>∃(v':Value) (ps':List (Nat × Pv.R)),e = .returned v'∧v'.ownBlock=v.ownBlock∧ps'.map (·.2)=Pv.unique (ps.map (·.2))∧(∀x∈ps',x∈ps) ∧
   ReRowX H base w' v' ps'∧Ext (hideV v w) w'∧Below base w w':=by
 have hsort:=sortf_any ps base v w h hl;have hwf:∀x∈ps,Pv.WF x.2:=fun x hx=>(h.2 x hx).wf
 clear h;go_enter Tryz.func123,Tryz.ntmps123;go_wp2_with fail;refine hsort.mono ?_;rintro e w1 ⟨rfl,ps1,hp1,hs1,hr1,hE1,hB1⟩;have hl1:ps1.length<1099511627776:=by rw[hp1.length_eq];exact hl
 have hcpt:=compactf_any ps1 base v w1 hr1 (Nat.le_trans hb hB1.size) hl1;have HE:=Hy hE1;have HB:=Hy hB1;clear hr1 hE1 hB1;go_wp2_with fail;refine hcpt.mono ?_;rintro e w2 ⟨v',rfl,hv,hr2,hE2,hB2⟩;go_wp2_with fail;go_ret;refine⟨v',_,rfl,hv,unique_pairs hp1 hs1 hwf,fun x hx=>hp1.mem_iff.1 (keptGo_sub _ _ _ x hx),hr2,HE.out.hideV_.trans hE2,HB.out.trans hB2⟩
theorem asks_eps:AsksRe H 116 (fun r=>r.op==1):=fun W r b h=>by
 obtain⟨_,_,_,h0,_⟩:=h.cells;go_enter Tryz.func116,Tryz.ntmps116;go_wp2_with fail;go_ret;refine⟨show Ending.returned (Value.bool ((r.op:Int)==1))=_ from ?_,rfl⟩;congr 2;by_cases e:r.op=1
 ·rw[e];rfl
 ·have h1:(r.op==1)=false:=by rw[beq_eq_false_iff_ne];exact e
  rw[h1,beq_eq_false_iff_ne];omega
theorem asks_none:AsksRe H 113 (fun r=>r.op==0):=fun W r b h=>by
 obtain⟨_,_,_,h0,_⟩:=h.cells;go_enter Tryz.func113,Tryz.ntmps113;go_wp2_with fail;go_ret;refine⟨show Ending.returned (Value.bool ((r.op:Int)==0))=_ from ?_,rfl⟩;congr 2;by_cases e:r.op=0
 ·rw[e];rfl
 ·have h1:(r.op==0)=false:=by rw[beq_eq_false_iff_ne];exact e
  rw[h1,beq_eq_false_iff_ne];omega
theorem sizes_app (l m:List Pv.R):Pv.sizes (l++m)=Pv.sizes l+Pv.sizes m:=by simp[Pv.sizes_sum]
theorem sizes_flat (op:Nat):∀l:List Pv.R,Pv.sizes (Pv.flat op l)≤Pv.sizes l
 | []=>Nat.le_refl _
 | r::l=>by
   have h:=sizes_flat op l;have h2:=size_kids r;unfold Pv.flat at *;rw[List.flatMap_cons,sizes_app];rw[Pv.sizes];split
   ·omega
   ·rw[Pv.sizes,Pv.sizes];omega
theorem sizes_filter (p:Pv.R→Bool):∀l:List Pv.R,Pv.sizes (l.filter p)≤Pv.sizes l
 | []=>Nat.le_refl _
 | r::l=>by
   have h:=sizes_filter p l;rw[List.filter_cons,Pv.sizes];split
   ·rw[Pv.sizes];omega
   ·omega
theorem sizes_perm {l m:List Pv.R}(h:l.Perm m):Pv.sizes l=Pv.sizes m:=by rw[Pv.sizes_sum,Pv.sizes_sum];exact(h.map _).sum_nat
set_option maxRecDepth 20000 in
set_option maxHeartbeats 2000000 in
theorem cat_any (l:List Pv.R)(a:Option Addr)(c:Nat)(bs:List Nat)(w:World)(hs:Sl w a c (bs.map Ptr))(hk:ResAt H w l bs)(hH:∀h,H h→h<w.heap.size)(hsz:Pv.sizes l<549755813888):
  MakesRe H 74 #[.slice a bs.length c] w (Pv.cat l):=by
 have hflat:=flat_any 3 l a c bs w hs hk hsz;have hl40:=flat_len 3 l;have hsf:=sizes_flat 3 l;have hsd:=sizes_filter (fun r => !(r.op==1)) (Pv.flat 3 l);clear hs hk;go_enter Tryz.func74,Tryz.ntmps74;go_wp2_with fail;refine hflat.mono ?_;rintro e w1 ⟨v1,bs1,rfl,hrow,hres,hB⟩;obtain⟨ps,hps1,rfl,hps⟩:=hres.prs
 have hX:ReRowX H w.heap.size w1 v1 ps:=⟨by rw[List.map_map]at hrow;exact hrow,hps.ext (Ext.below_hideV hB hrow.own)⟩
 have hpl:ps.length<1099511627776:=by rw[hps1,List.length_map]at hl40;omega
 have hdel:=delete_any 116 (enters_of Tryz.func116 (by kernel_rfl) rfl) (fun r=>r.op==1) asks_eps ps w.heap.size v1 w1 hX hB.size hpl;have HB:=Hy hB;clear hflat hrow hres hps hX hB;go_wp2_with fail;refine hdel.mono ?_;rintro e w2 ⟨v2,rfl,hv,hr2,hE2,hB2⟩;have HB2:=Hy (HB.out.trans hB2);have hcat:Pv.cat l=Pv.thenOf ((ps.filter fun x => !(x.2.op==1)).map (·.2)):=by
  unfold Pv.cat;rw[hps1,List.filter_map];rfl
 have hsz2:Pv.sizes ((ps.filter fun x => !(x.2.op==1)).map (·.2))<549755813888:=by rw[hps1,List.filter_map]at hsd;rw[hps1]at hsf;exact Nat.lt_of_le_of_lt hsd (Nat.lt_of_le_of_lt hsf hsz)
 generalize (ps.filter fun x => !(x.2.op==1))=qs at hr2 hsz2 hcat;have Hcat:=Hy hcat;obtain⟨hrow,hps2⟩:=hr2;obtain⟨a2,c2,rfl,hsl,hown2⟩:=hrow.form;have Hka:Hid (∀blk off,a2=some ⟨blk,off,none⟩→¬H blk∧blk<w2.heap.size):=fun blk off e=>by
  subst e;have:=hrow.own blk rfl;refine⟨fun hh=>by have:=hH _ hh;omega,?_⟩;rcases hrow.blk with⟨e,_⟩|⟨g,cap,cur,e,_,hg,_⟩
  ·cases e
  ·cases e;exact blk_lt hg
 clear hown2;have hres:=(hps2.ext (Ext.unhideV _ _)).res;rw[List.length_map];have Hsl:=Hy hsl;have Hres:=Hy hres;clear hdel hE2 hB2 hps2 hsl hres hps1 hsd hcat hv hrow;have hq40:=sizes_len (qs.map (·.2));rw[List.length_map]at hq40;go_wp2_with fail
 go_loopw [4,12] (fun b i wr=>∃k:Nat,k≤qs.length∧i = .int .i64 k∧b = .bool (((qs.map (·.2)).take k).all Pv.null)∧Hid (((qs.map (·.2)).take k).any (fun r=>r.op==0)=false)∧wr=w2) (fun _ i _=>(qs.length-intOf i).toNat)
 case atStart=>exact⟨0,by omega,rfl,by simp,by simp[Hid],rfl⟩
 case round=>
  obtain⟨k,hk,rfl,rfl,hany,rfl⟩:=hrel;by_cases hkn:k<qs.length
  ·obtain⟨hkb,hat⟩:=Hres.out.get k (by simpa using hkn);obtain⟨blk,off,rfl,hbl,hcs⟩:=Hsl.out.at_ (by simp;omega);have hc0:=hcs k (by simpa using hkn);obtain⟨_,_,_,h0,_,_,_,_,_,h6,_⟩:=hat.cells;simp only[List.getElem_map]at hc0 h0 h6;have hkn':(k:Int)<qs.length:=by omega
   have hk40:(k:Int)<1099511627776:=by omega
   clear hcs hat;generalize hbb:qs[k].1=bb at *;have hany':((qs.map (·.2)).take (k+1)).any (fun r=>r.op==0)=(qs[k].2.op==0):=by rw[List.take_succ_eq_append_getElem (by simpa using hkn),List.any_append,hany.out];simp
   have hall':((qs.map (·.2)).take (k+1)).all Pv.null=(((qs.map (·.2)).take k).all Pv.null&&Pv.null qs[k].2):=by rw[List.take_succ_eq_append_getElem (by simpa using hkn),List.all_append];simp
   have Hany:=Hy hany';have Hall:=Hy hall';clear hany' hall' hbb;generalize Hb0:((qs.map (·.2)).take k).all Pv.null=b0 at *;by_cases hop:qs[k].2.op=0
   ·have hop':((qs[k].2.op:Int)==0)=true:=by rw[beq_iff_eq];omega
    have HOP:=Hy hop;clear hop;go_wp2_with fail;refine(nothing_any _ (fun h hh=>by have:=hH h hh;have:=HB2.out.size;omega)).mono ?_;rintro e w3 ⟨b,rfl,h,hb3⟩;go_wp2_with fail;go_ret;refine⟨b,rfl,?_,HB2.out.trans (hb3.mono HB2.out.size)⟩;rw[Hcat.out];unfold Pv.thenOf;rw[if_pos]
    ·exact h
    ·exact List.any_eq_true.2 ⟨qs[k].2,List.mem_map.2 ⟨_,List.getElem_mem hkn,rfl⟩,by rw[HOP.out];rfl⟩
   ·have hop':((qs[k].2.op:Int)==0)=false:=by rw[beq_eq_false_iff_ne];omega
    have HOP:=Hy hop;clear hop;have HB0:Hid (((qs.map (·.2)).take k).all Pv.null=b0):=Hb0;clear Hb0;cases b0
    ·go_wp2_with fail;go_roundw
     case rel=>
      refine⟨k+1,by omega,by go_num,by rw[Hall.out];rfl,?_,by first|rfl|trivial⟩;show _=false;rw[Hany.out,beq_eq_false_iff_ne];exact HOP.out
     case measure=>simp[intOf];omega
    ·go_wp2_with fail;go_roundw
     case rel=>
      refine⟨k+1,by omega,by go_num,by rw[Hall.out];simp,?_,by first|rfl|trivial⟩;show _=false;rw[Hany.out,beq_eq_false_iff_ne];exact HOP.out
     case measure=>simp[intOf];omega
  ·have e:k=qs.length:=by omega
   subst e;have hany0:=hany.out;rw[List.take_of_length_le (by simp)]at hany0;have Hany:=Hy hany0;clear hany hany0;have HBb:Hid ((qs.map (·.2)).all Pv.null=((qs.map (·.2)).take qs.length).all Pv.null):=by show _=_;rw[List.take_of_length_le (by simp)]
   generalize ((qs.map (·.2)).take qs.length).all Pv.null=b0 at *
   match qs,hq40,hsz2,Hcat,Hsl,Hres,Hany,HBb with
   | [],hq40,hsz2,Hcat,Hsl,Hres,Hany,HBb=>
     go_wp2_with fail;refine(empty_re _ (fun h hh=>by have:=hH h hh;have:=HB2.out.size;omega)).mono ?_;rintro e w3 ⟨b,rfl,h,hb3⟩;go_wp2_with fail;go_ret;refine⟨b,rfl,?_,HB2.out.trans (hb3.mono HB2.out.size)⟩;rw[Hcat.out];exact h
   | [q],hq40,hsz2,Hcat,Hsl,Hres,Hany,HBb=>
     obtain⟨hkb,hat⟩:=Hres.out.get 0 (by simp);obtain⟨blk,off,rfl,hbl,hcs⟩:=Hsl.out.at_ (by simp);have hc0:=hcs 0 (by simp);simp only[List.map_cons,List.getElem_cons_zero,Nat.add_zero]at hc0 hat;clear hcs;go_wp2_with fail;go_ret;refine⟨q.1,rfl,?_,HB2.out⟩;rw[Hcat.out];unfold Pv.thenOf;rw[if_neg (by rw[Hany.out];simp)];exact hat
   | q::q2::qr,hq40,hsz2,Hcat,Hsl,Hres,Hany,HBb=>
     have hthen:Pv.thenOf ((q::q2::qr).map (·.2)) = .mk 3 .zero ((q::q2::qr).map (·.2)):=by unfold Pv.thenOf;rw[if_neg (by rw[Hany.out];simp)];rfl
     have hnull:Pv.null (.mk 3 .zero ((q::q2::qr).map (·.2)))=b0:=by rw[←HBb.out,Pv.null,Pv.nulls_map];simp[Pv.nullOf]
     have hmade:=made_any 3 (by omega) .zero (fun _=>rfl) ((q::q2::qr).map (·.2)) (by simp) a2 c2 ((q::q2::qr).map (·.1)) wr (by rw[List.map_map];exact Hsl.out) Hres.out (fun h hh=>by have:=hH h hh;have:=HB2.out.size;omega) Hka.out (by unfold Pv.size;omega);rw[hnull,List.length_map]at hmade;have Hthen:=Hy hthen;clear hthen hnull;have hn0:(((q::q2::qr).length:Nat):Int)≠0:=by simp;omega
     have hn1:(((q::q2::qr).length:Nat):Int)≠1:=by simp;omega
     generalize (q::q2::qr)=qs at *;have hn0':((qs.length:Int)==0)=false:=by rw[beq_eq_false_iff_ne];exact hn0
     have hn1':((qs.length:Int)==1)=false:=by rw[beq_eq_false_iff_ne];exact hn1
     go_wp2_with fail;refine hmade.mono ?_;rintro e w3 ⟨b,rfl,h,hb3⟩;go_wp2_with fail;go_ret;refine⟨b,rfl,?_,HB2.out.trans (hb3.mono HB2.out.size)⟩;rw[Hcat.out,Hthen.out];exact h
end Go.Proofs.YtamkfdlcdiadlaaGreatDoor
namespace Go.Proofs.YtamkfdlcdiadlaaGreatDoor
open Go.RowKit
variable {H:Nat→Prop}
theorem Row.mono {base base' e:Nat}{w:World}{v:Value}{xs:List Value}(h:Row base e w v xs)(hb:base'≤base):Row base' e w v xs:=by
 obtain⟨h1,h2⟩:=h;refine⟨h1,?_⟩;rcases h2 with h2|⟨g,cap,cur,hv,hg,r⟩
 ·exact .inl h2
 ·exact .inr ⟨g,cap,cur,hv,Nat.le_trans hb hg,r⟩
theorem ReAt.typed {w:World}{r:Pv.R}{b:Nat}(h:ReAt H w r b):∃cs,w.heap[b]?=some (.cells cs 139):=by obtain⟨_,_,_,h,_⟩:=h.open_;exact⟨_,h⟩
theorem ReAt.kidless {w w':World}{r:Pv.R}{b:Nat}(hk:r.kids=[])(h:ReAt H w r b)(hb:w'.heap[b]?=w.heap[b]?)(hs:w.heap.size≤w'.heap.size):ReAt H w' r b:=by
 cases r with
 | mk op s ks=>
   have:ks=[]:=hk;subst this;unfold ReAt at *;obtain⟨hw,h0,a,c,bs,ha,h1,h2,h3⟩:=h;unfold ResAt at h3;subst h3;refine⟨hw,h0,a,c,[],fun x y e=>⟨(ha x y e).1,Nat.lt_of_lt_of_le (ha x y e).2 hs⟩,by rw[hb];exact h1,⟨h2.1,h2.2,fun i hi=>by cases hi⟩,?_⟩;unfold ResAt;rfl
theorem row_ne {base:Nat}{w:World}{v:Value}{xs:List Value}{r:Pv.R}{b g:Nat}(h:Row base 59 w v xs)(hg:v.ownBlock=some g)(hr:ReAt H w r b):b≠g:=by
 intro e;subst e;obtain⟨cs,h1⟩:=hr.typed;rcases h.blk with⟨rfl,_⟩|⟨g',cap,cur,rfl,_,h2,_⟩
 ·cases hg
 ·cases hg;rw[h1]at h2;simp at h2
theorem one_app {base:Nat}{w w2:World}{v:Value}{xs:List Value}{r:Pv.R}{b:Nat}{o:Obj}(h:Row base 59 w v xs)(hk:r.kids=[])(hr:ReAt H w r b)(hg:(w.alloc o).grownBy w2 v.ownBlock):ReAt H w2 r b:=by have hl:=hr.lt;refine hr.kidless hk ?_ (Nat.le_trans (by simp) hg.size);rw[hg.block b (by simp;omega) (fun e=>row_ne h e.symm hr rfl),blk_alloc,if_neg (by omega)]
theorem one_hide {base:Nat}{w:World}{v:Value}{xs:List Value}{r:Pv.R}{b:Nat}(h:Row base 59 w v xs)(hk:r.kids=[])(hr:ReAt H w r b):ReAt H (hideV v w) r b:=by
 refine hr.kidless hk ?_ (by rw[hideV_size];exact Nat.le_refl _);unfold hideV;split
 ·rename_i g hg;exact hide_ne (row_ne h hg hr)
 ·rfl
def OneAt (H:Nat→Prop)(w wr:World)(p:Nat × Pv.R):Prop:=ReAt H w p.2 p.1∨(p.2.kids=[]∧ReAt H wr p.2 p.1)
abbrev oneV:Option (Nat × Pv.R)→Value
 | none=> .pointer none
 | some p=>Ptr p.1
theorem OneAt.at_ {w wr:World}{p:Nat × Pv.R}(h:OneAt H w wr p)(hb:Below w.heap.size w wr):ReAt H wr p.2 p.1:=by
 rcases h with h|h
 ·exact h.later hb
 ·exact h.2
theorem OneAt.app {base:Nat}{w wr w2:World}{v:Value}{xs:List Value}{p:Nat × Pv.R}{o:Obj}(h:OneAt H w wr p)(hr:Row base 59 wr v xs)(hg:(wr.alloc o).grownBy w2 v.ownBlock):OneAt H w w2 p:=by
 rcases h with h|h
 ·exact .inl h
 ·exact .inr ⟨h.1,one_app hr h.1 h.2 hg⟩
theorem join_row {base:Nat}{w wr:World}{v:Value}{ps:List (Nat × Pv.R)}(hr:Row base 59 wr v (vals ps))(hb:Below w.heap.size w wr)(hbase:w.heap.size≤base)(h:∀x∈ps,OneAt H w wr x):ReRowX H base wr v ps:=
 ⟨hr,fun x hx=>by
  rcases h x hx with h|h
  ·exact h.ext (Ext.below_hideV hb fun g hg=>Nat.le_trans hbase (hr.own g hg))
  ·exact one_hide hr h.1 h.2⟩
theorem joinGo_cons (F:Pv.S4→Pv.S4→Pv.S4)(fl:List Pv.R)(k:Nat)(h:k<fl.length)(out:List Pv.R)(o:Option Pv.R):Pv.joinGo F (fl.drop k) out o =
  if fl[k].op=2 then match o with
   | none=>Pv.joinGo F (fl.drop (k+1)) out (some fl[k])
   | some x=>if(Pv.one (F x.set fl[k].set)).op=0 then out++[Pv.one (F x.set fl[k].set)] else Pv.joinGo F (fl.drop (k+1)) out (some (Pv.one (F x.set fl[k].set)))
  else Pv.joinGo F (fl.drop (k+1)) (out++[fl[k]]) o:=by
 rw[List.drop_eq_getElem_cons h];cases o<;>simp only[Pv.joinGo]
set_option maxRecDepth 20000 in
set_option maxHeartbeats 4000000 in
theorem joinl_any (op:Nat)(gf:Nat)(eg:Hid (Enters Tryz.prog gf))(F:Pv.S4→Pv.S4→Pv.S4)(hg:Hid (∀s t w,GivesSet gf #[S4V s,S4V t] w (F s t)))(l:List Pv.R)(a:Option Addr)(c:Nat)(bs:List Nat)(w:World)
  (hs:Sl w a c (bs.map Ptr)) (hk:ResAt H w l bs) (hH:Hid (∀h,H h→h<w.heap.size)) (hsz:Pv.sizes l<549755813888):
  Calls Tryz.prog 86 #[.int .i64 (op:Int),.slice a bs.length c,.func (.func gf) #[] #[]] w fun e w'=>∃(v:Value) (ps:List (Nat × Pv.R)),e = .returned v∧ps.map (·.2)=Pv.join op l F∧ReRowX H w.heap.size w' v ps∧Below w.heap.size w w':=by
 obtain⟨i0,hi,hz0,hz1,hz2⟩:=info_parts info_re;have hflat:=flat_any op l a c bs w hs hk hsz;have hl40:=flat_len op l;clear hs hk;have hjoin:Pv.join op l F=Pv.joinGo F (Pv.flat op l) [] none:=rfl;have Hjoin:=Hy hjoin;clear hjoin;go_enter Tryz.func86,Tryz.ntmps86;go_wp2_with fail;refine hflat.mono ?_;rintro e w1 ⟨v1,bs1,rfl,hrow,hres,hB⟩;obtain⟨a1,c1,rfl,hsl,hown1⟩:=hrow.form
 obtain⟨fps,hfps,rfl,hps⟩:=hres.prs;rw[hfps]at hl40 Hjoin;rw[List.length_map]at hl40;rw[List.map_map]at hsl;rw[List.length_map,List.length_map];have Hsl:=Hy hsl;have HB1:=Hy hB;have Hps:=Hy hps;clear hflat hrow hres hsl hB hps hfps hown1;go_wp2_with fail
 go_loopw [7,8,15] (fun vout vone i wr=>∃(k:Nat) (outs:List (Nat × Pv.R)) (o:Option (Nat × Pv.R)),k≤fps.length∧i = .int .i64 k∧vone=oneV o∧outs.length≤k∧Hid (Row w1.heap.size 59 wr vout (vals outs)) ∧
  Hid (Prs H w outs)∧Hid (∀p,o=some p→OneAt H w wr p)∧Hid (Pv.joinGo F ((fps.map (·.2)).drop k) (outs.map (·.2)) (o.map (·.2))=Pv.join op l F)∧Hid (Below w1.heap.size w1 wr)) (fun _ _ i _=>(fps.length-intOf i).toNat)
 case atStart=>exact⟨0,[],none,by omega,rfl,rfl,by simp,Row.nil _ _ _,(show Prs H w [] from fun x hx=>by cases hx),(show ∀p,none=some p→OneAt H w w1 p from fun p hp=>by cases hp),Hjoin.out.symm,Below.refl _ _⟩
 case round=>
  obtain⟨k,outs,o,hk,rfl,rfl,hol,HR,HP,HO,HJ,HB⟩:=hrel;have HBw:Hid (Below w.heap.size w wr):=HB1.out.trans (HB.out.mono HB1.out.size);have hsz1:=HB1.out.size;by_cases hkn:k<fps.length
  ·obtain⟨blk,off,rfl,hbl,hcs⟩:=Hsl.out.at_ (by simp;omega);have hc0:=later HB.out (hcs k (by simpa using hkn));simp only[List.getElem_map,Function.comp]at hc0;have hat:=Hps.out fps[k] (List.getElem_mem hkn);have Hat:=Hy hat;obtain⟨_,_,_,h0,h1,h2,h3,h4,_⟩:=(hat.later HBw.out).cells;have hjc:=joinGo_cons F (fps.map (·.2)) k (by simpa using hkn) (outs.map (·.2)) (o.map (·.2))
   rw[HJ.out,List.getElem_map]at hjc;have HJC:=Hy hjc;clear hcs hat hjc;have hkn':(k:Int)<fps.length:=by omega
   have hk40:(k:Int)<1099511627776:=by omega
   generalize hbb:fps[k]=pk at *;clear hbb;obtain⟨bb,r⟩:=pk;simp only at h0 h1 h2 h3 h4 hc0;by_cases hop:r.op=2
   ·have hop':((r.op:Int)!=2)=false:=by rw[bne_eq_false_iff_eq];omega
    have HOP:=Hy hop;clear hop;cases o with
    | none=>
      go_wp2_with fail;go_roundw
      case rel=>
       refine⟨k+1,outs,some (bb,r),by omega,by go_num,rfl,by omega,HR.out,HP.out,(show ∀p,some (bb,r)=some p→OneAt H w wr p from fun p hp=>by cases hp;exact .inl Hat.out),?_,HB.out⟩;have:=HJC.out;rw[if_pos HOP.out]at this;exact this.symm
      case measure=>simp[intOf];omega
    | some p=>
      have hp:=(HO.out p rfl).at_ HBw.out;obtain⟨_,_,_,_,p1,p2,p3,p4,_⟩:=hp.cells;obtain⟨pb,q⟩:=p;simp only at p1 p2 p3 p4;clear hp;go_wp2_with fail;refine Eag.region (.mov 0 (.mov 1 (.mov 2 (.mov 3 (.mov 4 (.mov 5 (.mov 6 (.mov 7 (.mov 8 (.anc 9 (.anc 10 (.mov 11 Eag.Sch.fin)))))))))))) [] (by kernel_rfl) (by kernel_rfl) (fun K ops hops hK => ?_);iterate 9
       refine Eag.mov hops rfl rfl (fun w' hb => ?_) ?_
       ·have q0:=later hb h1;have q1:=later hb h2;have q2:=later hb h3;have q3:=later hb h4;have q4:=later hb p1;have q5:=later hb p2;have q6:=later hb p3;have q7:=later hb p4;clear hb;go_simp
       go_simp
      refine Eag.anc hops rfl rfl ?_;go_simp;rw[eg.out];refine(hg.out _ _ _).mono ?_;rintro e w' ⟨rfl,hb⟩;refine⟨hb,?_⟩;have HBa:=Hy hb;clear hb;refine Eag.anc hops rfl rfl ?_;go_wp2_with fail;have hzw:wr.heap.size≤w'.heap.size:=HBa.out.size;refine(one_any (H:=H) (F q.set r.set) w' (fun h hh=>by have:=hH.out h hh;have:=HBw.out.size;omega)).mono ?_;rintro e w2 ⟨b2,rfl,hr2,hb2⟩;refine⟨hb2,?_⟩
      have HR2:=Hy hr2;obtain⟨_,_,_,t0,_⟩:=hr2.cells;have HBb:Hid (Below wr.heap.size wr w2):=(Below.refl wr.heap.size wr).drew.trans (HBa.out.trans (hb2.mono hzw));clear hb2 hr2;iterate 1
       refine Eag.mov hops rfl rfl (fun w' hb => ?_) ?_
       ·clear hb;go_simp
       go_simp
      refine Eag.fin (hK _ _ ?_);clear hK hops p1 p2 p3 p4 h1 h2 h3 h4;have HBc:Hid (Below w1.heap.size w1 w2):=HB.out.trans (HBb.out.mono HB.out.size);have HRc:Hid (Row w1.heap.size 59 w2 u7 (vals outs)):=HR.out.later HBb.out;have hkl:(Pv.one (F q.set r.set)).kids=[]:=by unfold Pv.one;split<;>rfl
      have hjj:=HJC.out;rw[if_pos HOP.out]at hjj;simp only[Option.map_some]at hjj;have HJJ:=Hy hjj;clear hjj;generalize hy:Pv.one (F q.set r.set)=y at *;clear hy;by_cases hy0:y.op=0
      ·have hy0':((y.op:Int)==0)=true:=by rw[beq_iff_eq];omega
       have HY:=Hy hy0;clear hy0;go_simp;go_wp2_with (at_builtin;refine app1 _ _ i0 _ 8 Tryz.underlying101 hi hz0 hz1 hz2 rfl (by omega) rfl _ _ rfl w1.heap.size _ _ rfl (HRc.out.alloc _) w2.heap.size _ rfl (blk_new rfl) rfl ?c1 (by have:=HBc.out.size;simp;omega) ?c2)
       case c1=>first|omega|(rw[List.length_map];omega)
       case c2=>
        intro v3 w3 hr3 hb3 hg3;have A1:=Hy ((HBc.out.alloc HBc.out.size (.cells #[Ptr b2] 59)).trans hb3);have A2:Hid (Row w1.heap.size 59 w3 v3 (vals (outs++[(b2,y)]))):=by rw[vals,List.map_append];exact hr3
        have A3:Hid (OneAt H w w3 (b2,y)):= .inr ⟨hkl,one_app HRc.out hkl HR2.out hg3⟩;have HB3:Hid (Below w.heap.size w w3):=HB1.out.trans (A1.out.mono HB1.out.size);clear hr3 hb3 hg3;go_wp2_with fail;go_ret;refine⟨_,outs++[(b2,y)],rfl,?_,?_,HB3.out⟩
        ·rw[List.map_append,HJJ.out,if_pos HY.out];rfl
        ·have hj:=join_row A2.out HB3.out hsz1 fun x hx=>by
          rcases List.mem_append.1 hx with hx|hx
          ·exact .inl (HP.out x hx)
          ·rw[List.mem_singleton.1 hx];exact A3.out
         exact⟨hj.1.mono hsz1,hj.2⟩
      ·have hy0':((y.op:Int)==0)=false:=by rw[beq_eq_false_iff_ne];omega
       have HY:=Hy hy0;clear hy0;go_simp;go_wp2_with fail;go_roundw
       case rel=>
        refine⟨k+1,outs,some (b2,y),by omega,by go_num,rfl,by omega,HRc.out,HP.out,(show ∀p,some (b2,y)=some p→OneAt H w w2 p from fun p hp=>by cases hp;exact .inr ⟨hkl,HR2.out⟩),?_,HBc.out⟩;have:=HJJ.out;rw[if_neg HY.out]at this;exact this.symm
       case measure=>simp[intOf];omega
   ·have hop':((r.op:Int)!=2)=true:=by rw[bne_iff_ne];omega
    have HOP:=Hy hop;clear hop;go_wp2_with (at_builtin;refine app1 _ _ i0 _ 8 Tryz.underlying101 hi hz0 hz1 hz2 rfl (by omega) rfl _ _ rfl w1.heap.size _ _ rfl (HR.out.alloc _) wr.heap.size _ rfl (blk_new rfl) rfl ?c1 (by have:=HB.out.size;simp;omega) ?c2)
    case c1=>first|omega|(rw[List.length_map];omega)
    case c2=>
     intro v2 w2 hr2 hb2 hg2;have A1:=Hy ((HB.out.alloc HB.out.size (.cells #[Ptr bb] 59)).trans hb2);have A2:Hid (Row w1.heap.size 59 w2 v2 (vals (outs++[(bb,r)]))):=by rw[vals,List.map_append];exact hr2
     have A3:Hid (∀p,o=some p→OneAt H w w2 p):=fun p hp=>(HO.out p hp).app HR.out hg2
     clear hr2 hb2 hg2;go_wp2_with fail;go_roundw
     case rel=>
      refine⟨k+1,outs++[(bb,r)],o,by omega,by go_num,rfl,by simp;omega,A2.out,(show Prs H w _ from fun x hx => ?_),A3.out,?_,A1.out⟩
      ·rcases List.mem_append.1 hx with hx|hx
       ·exact HP.out x hx
       ·rw[List.mem_singleton.1 hx];exact Hat.out
      ·have:=HJC.out;rw[if_neg HOP.out]at this;rw[List.map_append];exact this.symm
     case measure=>simp[intOf];omega
  ·have e:k=fps.length:=by omega
   subst e;have hj:=HJ.out;rw[List.drop_eq_nil_of_le (by simp)]at hj;have HJ2:=Hy hj;clear HJ hj Hjoin;cases o with
   | none=>
     have hun:=unique_any outs w1.heap.size u7 wr (join_row HR.out HBw.out hsz1 fun x hx=> .inl (HP.out x hx)) HB.out.size (by omega);go_wp2_with fail;refine hun.mono ?_;rintro e w2 ⟨v2,ps2,rfl,hv2,hps2,hsub,hr2,hE2,hb2⟩;go_wp2_with fail;go_ret;refine⟨_,ps2,rfl,?_,⟨hr2.1.mono hsz1,hr2.2⟩,HBw.out.trans (hb2.mono hsz1)⟩;rw[hps2,←HJ2.out];simp[Pv.joinGo]
   | some p=>
     go_wp2_with (at_builtin;refine app1 _ _ i0 _ 8 Tryz.underlying101 hi hz0 hz1 hz2 rfl (by omega) rfl _ _ rfl w1.heap.size _ _ rfl (HR.out.alloc _) wr.heap.size _ rfl (blk_new rfl) rfl ?c1 (by have:=HB.out.size;simp;omega) ?c2)
     case c1=>first|omega|(rw[List.length_map];omega)
     case c2=>
      intro v2 w2 hr2 hb2 hg2;have A1:=Hy ((HB.out.alloc HB.out.size (.cells #[Ptr p.1] 59)).trans hb2);have A2:Hid (Row w1.heap.size 59 w2 v2 (vals (outs++[p]))):=by rw[vals,List.map_append];exact hr2
      have A3:Hid (OneAt H w w2 p):=(HO.out p rfl).app HR.out hg2;have HB3:Hid (Below w.heap.size w w2):=HB1.out.trans (A1.out.mono HB1.out.size);clear hr2 hb2 hg2;have hun:=unique_any (outs++[p]) w1.heap.size v2 w2 (join_row A2.out HB3.out hsz1 fun x hx=>by
       rcases List.mem_append.1 hx with hx|hx
       ·exact .inl (HP.out x hx)
       ·rw[List.mem_singleton.1 hx];exact A3.out) A1.out.size (by simp;omega)
      go_wp2_with fail;refine hun.mono ?_;rintro e w3 ⟨v3,ps3,rfl,hv3,hps3,hsub,hr3,hE3,hb3⟩;go_wp2_with fail;go_ret;refine⟨_,ps3,rfl,?_,⟨hr3.1.mono hsz1,hr3.2⟩,HB3.out.trans (hb3.mono hsz1)⟩;rw[hps3,←HJ2.out];simp[Pv.joinGo]
end Go.Proofs.YtamkfdlcdiadlaaGreatDoor
namespace Go.Proofs.YtamkfdlcdiadlaaGreatDoor
open Go.RowKit
variable {H:Nat→Prop}
theorem sizes_compact:∀l:List Pv.R,Pv.sizes (Pv.compact l)≤Pv.sizes l
 | []=>Nat.le_refl _
 | r::l=>by
   have h:=sizes_compact l;rw[Pv.compact];split
   ·rw[Pv.sizes,Pv.sizes,Pv.sizes];omega
   ·rename_i x m e;rw[e,Pv.sizes]at h;split
    ·rw[Pv.sizes,Pv.sizes];omega
    ·rw[Pv.sizes,Pv.sizes,Pv.sizes];omega
theorem sizes_unique (l:List Pv.R):Pv.sizes (Pv.unique l)≤Pv.sizes l:=by unfold Pv.unique;exact Nat.le_trans (sizes_compact _) (Nat.le_of_eq (sizes_perm (Pv.isort_perm l)))
theorem size_one (s:Pv.S4):Pv.size (Pv.one s)=1:=by unfold Pv.one;split<;>rfl
theorem sizes_joinGo (F:Pv.S4→Pv.S4→Pv.S4):∀(l out:List Pv.R) (o:Option Pv.R),Pv.sizes (Pv.joinGo F l out o)≤Pv.sizes l+Pv.sizes out+Pv.sizes o.toList
 | [],out,o=>by
   rw[Pv.joinGo];refine Nat.le_trans (sizes_unique _) ?_;rw[sizes_app];simp[Pv.sizes]
 | r::l,out,none=>by
   have hr:=size_pos r;have h:=sizes_joinGo F l out (some r);have h2:=sizes_joinGo F l (out++[r]) none;rw[sizes_app]at h2;simp only[Pv.joinGo,Option.toList,Pv.sizes]at h h2 ⊢;split<;>omega
 | r::l,out,some x=>by
   have hr:=size_pos r;have hx:=size_pos x;have h:=sizes_joinGo F l out (some (Pv.one (F x.set r.set)));have h1:=size_one (F x.set r.set);have h2:=sizes_joinGo F l (out++[r]) (some x);have h3:=sizes_app out [Pv.one (F x.set r.set)];rw[sizes_app]at h2;simp only[Pv.joinGo,Option.toList,Pv.sizes]at h h2 h3 ⊢;split
   ·split<;>omega
   ·omega
theorem sizes_join (op:Nat)(l:List Pv.R)(F:Pv.S4→Pv.S4→Pv.S4):Pv.sizes (Pv.join op l F)≤Pv.sizes l:=by unfold Pv.join;have h:=sizes_joinGo F (Pv.flat op l) [] none;have h2:=sizes_flat op l;simp only[Option.toList,Pv.sizes]at h;omega
theorem Row.ha {base e c n:Nat}{w:World}{a:Option Addr}{xs:List Value}(h:Row base e w (.slice a n c) xs)(hH:∀x,H x→x<base):∀blk off,a=some ⟨blk,off,none⟩→¬H blk∧blk<w.heap.size:=by
 intro blk off e;subst e;have:=h.own blk rfl;refine⟨fun hh=>by have:=hH _ hh;omega,?_⟩;rcases h.blk with⟨e,_⟩|⟨g,cap,cur,e,_,hg,_⟩
 ·cases e
 ·cases e;exact blk_lt hg
theorem asks_null:AsksRe H 29 Pv.null:=fun W r b h=>by refine(null_any r b W h).mono ?_;rintro e w' ⟨rfl,rfl⟩;exact⟨rfl,rfl⟩
theorem enters_or:Enters Tryz.prog 112:=enters_of Tryz.func112 (by kernel_rfl) rfl
theorem enters_and:Enters Tryz.prog 87:=enters_of Tryz.func87 (by kernel_rfl) rfl
set_option maxRecDepth 20000 in
set_option maxHeartbeats 2000000 in
theorem any_any (l:List Pv.R)(a:Option Addr)(c:Nat)(bs:List Nat)(w:World)(hs:Sl w a c (bs.map Ptr))(hk:ResAt H w l bs)(hH:∀h,H h→h<w.heap.size)(hsz:Pv.sizes l<549755813888):
  MakesRe H 73 #[.slice a bs.length c] w (Pv.any l):=by
 have hjoin:=joinl_any 4 112 enters_or Pv.S4.or or_any l a c bs w hs hk hH hsz;have hsj:=sizes_join 4 l Pv.S4.or;clear hs hk;go_enter Tryz.func73,Tryz.ntmps73;go_wp2_with fail;refine hjoin.mono ?_;rintro e w1 ⟨v1,ps,rfl,hps1,hX,hB⟩;have hpl:ps.length<1099511627776:=by have:=sizes_len (ps.map (·.2));rw[List.length_map,hps1]at this;omega
 have hdel:=delete_any 113 (enters_of Tryz.func113 (by kernel_rfl) rfl) (fun r=>r.op==0) asks_none ps w.heap.size v1 w1 hX hB.size hpl;have HB:=Hy hB;clear hjoin hX hB;go_wp2_with fail;refine hdel.mono ?_;rintro e w2 ⟨v2,rfl,hv,hr2,hE2,hB2⟩;have HB2:=Hy (HB.out.trans hB2);have hcat:Pv.any l=Pv.anyOf ((ps.filter fun x => !(x.2.op==0)).map (·.2)):=by unfold Pv.any;rw[←hps1,List.filter_map];rfl
 have hsz2:Pv.sizes ((ps.filter fun x => !(x.2.op==0)).map (·.2))<549755813888:=by have hsd:=sizes_filter (fun r => !(r.op==0)) (ps.map (·.2));rw[List.filter_map]at hsd;rw[←hps1]at hsj;exact Nat.lt_of_le_of_lt hsd (Nat.lt_of_le_of_lt hsj hsz)
 generalize (ps.filter fun x => !(x.2.op==0))=qs at hr2 hsz2 hcat;have Hcat:=Hy hcat;obtain⟨hrow,hps2⟩:=hr2;obtain⟨a2,c2,rfl,hsl,hown2⟩:=hrow.form;have Hka:=Hy (hrow.ha hH);clear hown2;have hres:=(hps2.ext (Ext.unhideV _ _)).res;have Hps2:=Hy (hps2.ext (Ext.unhideV _ _));rw[List.length_map];have Hsl:=Hy hsl;have Hres:=Hy hres;clear hdel hE2 hB2 hps2 hsl hres hps1 hcat hv hrow
 have hq40:=sizes_len (qs.map (·.2));rw[List.length_map]at hq40
 match qs,hq40,hsz2,Hcat,Hsl,Hres,Hps2 with
 | [],hq40,hsz2,Hcat,Hsl,Hres,Hps2=>
   go_wp2_with fail;refine(nothing_any _ (fun h hh=>by have:=hH h hh;have:=HB2.out.size;omega)).mono ?_;rintro e w3 ⟨b,rfl,h,hb3⟩;go_wp2_with fail;go_ret;refine⟨b,rfl,?_,HB2.out.trans (hb3.mono HB2.out.size)⟩;rw[Hcat.out];exact h
 | [q],hq40,hsz2,Hcat,Hsl,Hres,Hps2=>
   obtain⟨hkb,hat⟩:=Hres.out.get 0 (by simp);obtain⟨blk,off,rfl,hbl,hcs⟩:=Hsl.out.at_ (by simp);have hc0:=hcs 0 (by simp);simp only[List.map_cons,List.getElem_cons_zero,Nat.add_zero]at hc0 hat;clear hcs;go_wp2_with fail;go_ret;refine⟨q.1,rfl,?_,HB2.out⟩;rw[Hcat.out];exact hat
 | q::q2::qr,hq40,hsz2,Hcat,Hsl,Hres,Hps2=>
   have hthen:Pv.anyOf ((q::q2::qr).map (·.2)) = .mk 4 .zero ((q::q2::qr).map (·.2)):=rfl;have hnull:Pv.null (.mk 4 .zero ((q::q2::qr).map (·.2)))=(q::q2::qr).any (fun x=>Pv.null x.2):=by rw[Pv.null,Pv.nulls_map];simp[Pv.nullOf,List.any_map,Function.comp_def]
   have hmade:=made_any 4 (by omega) .zero (fun _=>rfl) ((q::q2::qr).map (·.2)) (by simp) a2 c2 ((q::q2::qr).map (·.1)) w2 (by rw[List.map_map];exact Hsl.out) Hres.out (fun h hh=>by have:=hH h hh;have:=HB2.out.size;omega) Hka.out (by unfold Pv.size;omega);rw[hnull,List.length_map]at hmade
   have hcon:=contains_any 29 (enters_of Tryz.func29 (by kernel_rfl) rfl) Pv.null asks_null (q::q2::qr) a2 c2 w2 Hsl.out Hps2.out (by omega);have Hthen:=Hy hthen;clear hthen hnull;have hn0:(((q::q2::qr).length:Nat):Int)≠0:=by simp;omega
   have hn1:(((q::q2::qr).length:Nat):Int)≠1:=by simp;omega
   generalize (q::q2::qr)=qs at *;have hn0':((qs.length:Int)==0)=false:=by rw[beq_eq_false_iff_ne];exact hn0
   have hn1':((qs.length:Int)==1)=false:=by rw[beq_eq_false_iff_ne];exact hn1
   generalize (qs.any fun x=>Pv.null x.2)=nn at *;go_wp2_with fail;refine hcon.mono ?_;rintro e w3 ⟨rfl,rfl⟩;go_wp2_with fail;refine hmade.mono ?_;rintro e w3 ⟨b,rfl,h,hb3⟩;go_wp2_with fail;go_ret;refine⟨b,rfl,?_,HB2.out.trans (hb3.mono HB2.out.size)⟩;rw[Hcat.out,Hthen.out];exact h
end Go.Proofs.YtamkfdlcdiadlaaGreatDoor
