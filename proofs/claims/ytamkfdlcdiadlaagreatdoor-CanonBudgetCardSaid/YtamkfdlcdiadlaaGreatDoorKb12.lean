/- set.Of, re.Word. -/
import Derived.Test.YtamkfdlcdiadlaaGreatDoorKb05
import Derived.Test.YtamkfdlcdiadlaaGreatDoorKb11
import Derived.Laws.IdiomStrings
import Derived.Laws.OwnMore
import Derived.Test.YtamkfdlcdiadlaaGreatDoorKb01
set_option linter.all false
namespace Go.Proofs.YtamkfdlcdiadlaaGreatDoor
open Go.RowKit
variable {H:Nat→Prop}
abbrev U8 (b:UInt8):Value:= .int .u8 (b.toNat:Int)
theorem of_take (l:List UInt8)(k:Nat)(h:k<l.length):Pv.S4.of (l.take (k+1))=(Pv.S4.of (l.take k)).add l[k].toNat:=by rw[List.take_succ_eq_append_getElem h];unfold Pv.S4.of;rw[List.foldl_append];rfl
theorem shl_one (n:Nat)(h:n<64):IntKind.u64.wrap (2 ^ n)=(((1:BitVec 64) <<< n).toNat:Int):=by
 have:∀n:Fin 64,IntKind.u64.wrap (2 ^ n.val)=(((1:BitVec 64) <<< n.val).toNat:Int):=by decide +kernel
 exact this ⟨n,h⟩
set_option maxRecDepth 20000 in
set_option maxHeartbeats 2000000 in
theorem of_any (l:List UInt8)(a:Option Addr)(c:Nat)(w:World)(hs:Sl w a c (l.map U8))(hl:l.length<1099511627776):GivesSet 42 #[.slice a l.length c] w (Pv.S4.of l):=by
 have Hs:=Hy hs;clear hs;go_enter Tryz.func42,Tryz.ntmps42;go_wp2_with fail;go_loopw [8] (fun i wr=>∃k:Nat,k≤l.length∧i = .int .i64 k∧Hid (wr.heap[w.heap.size]?=some (.cells (S4C Pv.S4.zero) 87)) ∧
  Hid (wr.heap[w.heap.size+1]?=some (.cells (S4C (Pv.S4.of (l.take k))) 87))∧Hid (Below w.heap.size w wr)∧w.heap.size+1<wr.heap.size) (fun i _=>(l.length-intOf i).toNat)
 case atStart=>
  exact⟨0,by omega,rfl,blk_old (blk_new rfl),blk_new (by simp),((Below.refl _ _).alloc (Nat.le_refl _) _).alloc (by simp) _,by simp⟩
 case round=>
  obtain⟨k,hk,rfl,H0,H1,HB,hz⟩:=hrel;by_cases hkn:k<l.length
  ·obtain⟨blk,off,rfl,hbl,hcs⟩:=Hs.out.at_ (by simp;omega);have hc0:=later HB.out (hcs k (by simpa using hkn));rw[List.getElem_map]at hc0;replace hc0:wr.cell? ⟨blk,off+k,none⟩=some (.int .u8 (l[k].toNat:Int)):=hc0;have ht:=of_take l k hkn;have HT:=Hy ht;clear ht hcs;generalize Pv.S4.of (l.take k)=s at *;have hb:=l[k].toNat_lt;generalize hbb:l[k].toNat=b at *;have hb':b<256:=by omega
   clear hbb hb;have h4:b / 64<4:=by omega
   have hw:=cB H1.out (word_get s (b / 64) h4);have hf:=fob (o:=b / 64) H1.out;have hkn':(k:Int)<l.length:=by omega
   have hk40:(k:Int)<1099511627776:=by omega
   go_wp2;have hor:bits BinOp.or IntKind.u64 ((s.word (b / 64)).toNat:Int) (IntKind.u64.wrap (2 ^ (b % 64)))=((s.word (b / 64) ||| ((1:BitVec 64) <<< (b % 64))).toNat:Int):=by rw[shl_one _ (Nat.mod_lt _ (by omega)),bits_or]
   rw[hor];refine⟨⟨k+1,by omega,by go_num,?_,?_,HB.out.setCell (by show _≤w.heap.size+1;omega) _,by simpa using hz⟩,by simp[intOf];omega⟩
   ·exact keep_set (w:=wr) H0.out (by omega)
   ·show _=_;rw[HT.out];show _=some (Obj.cells (S4C (s.setWord (b / 64) (s.word (b / 64) ||| ((1:BitVec 64) <<< (b % 64))))) _);rw[←word_set s (b / 64) h4];exact blk_set (w:=wr) H1.out
  ·have e:k=l.length:=by omega
   subst e;have h1:=H1.out;rw[List.take_length]at h1;have a0:=cB (o:=0) h1 rfl;have a1:=cB (o:=1) h1 rfl;have a2:=cB (o:=2) h1 rfl;have a3:=cB (o:=3) h1 rfl;have b0:=cB (o:=0) H0.out rfl;have b1:=cB (o:=1) H0.out rfl;have b2:=cB (o:=2) H0.out rfl;have b3:=cB (o:=3) H0.out rfl;have f0:=fob (o:=0) H0.out;have f1:=fob (o:=1) H0.out;have f2:=fob (o:=2) H0.out;have f3:=fob (o:=3) H0.out;clear H1 h1
   go_wp2_with fail;refine bodyPost_ret (v:=S4V (Pv.S4.of l)) ?_ rfl ⟨rfl,?_⟩
   ·simp[results,Tryz.results42,go_sem,b0,b1,b2,b3]
   ·exact(((HB.out.setCell (Nat.le_refl _) _).setCell (Nat.le_refl _) _).setCell (Nat.le_refl _) _).setCell (Nat.le_refl _) _
end Go.Proofs.YtamkfdlcdiadlaaGreatDoor
namespace Go.Proofs.YtamkfdlcdiadlaaGreatDoor
open Go.RowKit
variable {H:Nat→Prop}
theorem kids_one (s:Pv.S4):(Pv.one s).kids=[]:=by unfold Pv.one;split<;>rfl
theorem sizes_ones:∀l:List UInt8,Pv.sizes (l.map fun b=>Pv.one (Pv.S4.of [b]))=l.length
 | []=>rfl
 | b::l=>by rw[List.map_cons,Pv.sizes,sizes_ones l,size_one];simp;omega
set_option maxRecDepth 20000 in
set_option maxHeartbeats 2000000 in
theorem word_any (l:List UInt8)(w:World)(hH:∀h,H h→h<w.heap.size)(hl:l.length<549755813888):MakesRe H 43 #[Str l] w (Pv.word l):=by
 obtain⟨i0,hi,hz0,hz1,hz2⟩:=info_parts info_re;have hconv:=run_bytes_of_string (P:=Tryz.prog) w 9 135 5 ⟨l.toArray⟩ Tryz.underlying9 Tryz.underlying135 Tryz.underlying5;have Hconv:=Hy hconv;clear hconv;go_enter Tryz.func43,Tryz.ntmps43;go_wp2_with fail;rw[Hconv.out];clear Hconv;have hsz:(⟨l.toArray⟩:ByteArray).size=l.length:=by simp[ByteArray.size]
 rw[hsz];have hcells:∀(cap:Nat) (fr:Nat × Nat) (k:Nat) (h:k<l.length),(w.drew.alloc (.cells (bytesRow ⟨l.toArray⟩ cap) 5 fr)).cell? ⟨w.heap.size,k,none⟩=some (.int .u8 (l[k].toNat:Int)):=fun cap fr k h=>by refine cB (blk_new rfl) ?_;have:=bytesRow_at ⟨l.toArray⟩ cap k (by simpa using h);simpa using this
 have hB0:∀(cap:Nat) (fr:Nat × Nat),Below w.heap.size w (w.drew.alloc (.cells (bytesRow ⟨l.toArray⟩ cap) 5 fr)):=fun cap fr=>((Below.refl _ _).drew).alloc (Nat.le_refl _) _
 have hz0':∀(cap:Nat) (fr:Nat × Nat),(w.drew.alloc (.cells (bytesRow ⟨l.toArray⟩ cap) 5 fr)).heap.size=w.heap.size+1:=fun cap fr=>by simp
 replace hcells:=hcells (grownCap w l.length 0 5) ((bytesRow ⟨l.toArray⟩ (grownCap w l.length 0 5)).size,(bytesRow ⟨l.toArray⟩ (grownCap w l.length 0 5)).size+1);replace hB0:=hB0 (grownCap w l.length 0 5) ((bytesRow ⟨l.toArray⟩ (grownCap w l.length 0 5)).size,(bytesRow ⟨l.toArray⟩ (grownCap w l.length 0 5)).size+1)
 replace hz0':=hz0' (grownCap w l.length 0 5) ((bytesRow ⟨l.toArray⟩ (grownCap w l.length 0 5)).size,(bytesRow ⟨l.toArray⟩ (grownCap w l.length 0 5)).size+1);generalize w.drew.alloc (.cells (bytesRow ⟨l.toArray⟩ (grownCap w l.length 0 5)) 5 ((bytesRow ⟨l.toArray⟩ (grownCap w l.length 0 5)).size,(bytesRow ⟨l.toArray⟩ (grownCap w l.length 0 5)).size+1))=w1 at *
 generalize grownCap w l.length 0 5=cap at *;have HC:=Hy hcells;have HB0:=Hy hB0;clear hcells hB0 hz0' hsz;go_simp;go_wp2_with fail;go_loopw [3,9] (fun v i wr=>∃(k:Nat) (ps:List (Nat × Pv.R)),k≤l.length∧i = .int .i64 k∧ps.length=k∧Hid (Row w1.heap.size 59 wr v (vals ps))∧Hid (∀x∈ps,x.2.kids=[]∧ReAt H wr x.2 x.1) ∧
  Hid (ps.map (·.2)=(l.take k).map fun b=>Pv.one (Pv.S4.of [b]))∧Hid (Below w1.heap.size w1 wr)) (fun _ i _=>(l.length-intOf i).toNat)
 case atStart=>exact⟨0,[],by omega,rfl,rfl,Row.nil _ _ _,(show ∀x∈([]:List (Nat × Pv.R)),_ from fun x hx=>by cases hx),rfl,Below.refl _ _⟩
 case round=>
  obtain⟨k,ps,hk,rfl,hpl,HR,HP,HM,HB⟩:=hrel;by_cases hkn:k<l.length
  ·have hc0:=later HB.out (HC.out k hkn);have htk:(l.take (k+1)).map (fun b=>Pv.one (Pv.S4.of [b]))=(l.take k).map (fun b=>Pv.one (Pv.S4.of [b]))++[Pv.one (Pv.S4.of [l[k]])]:=by rw[List.take_succ_eq_append_getElem hkn,List.map_append];rfl
   have HTK:=Hy htk;have hof:∀wx,wx.heap[wr.heap.size]?=some (.cells #[.int .u8 (l[k].toNat:Int)] 5)→GivesSet 42 #[.slice (some ⟨wr.heap.size,0,none⟩) 1 1] wx (Pv.S4.of [l[k]]):=fun wx hx=>
    of_any [l[k]] _ 1 wx (Sl.of_blk (xs:=[U8 l[k]]) hx) (by simp)
   have Hof:=Hy hof;clear htk hof;generalize l[k].toNat=nb at *;generalize Pv.S4.of [l[k]]=sb at *;have hkn':(k:Int)<l.length:=by omega
   have hk40:(k:Int)<1099511627776:=by omega
   go_wp2_with fail;refine(Hof.out _ (blk_new rfl)).mono ?_;rintro e w2 ⟨rfl,hb2⟩;have hbA:Below wr.heap.size wr w2:=((Below.refl _ _).alloc (Nat.le_refl _) _).trans (hb2.mono (by simp));have HA:=Hy hbA;clear hb2 hbA;have hs1:=HB0.out.size;have hs2:=HB.out.size;go_wp2_with fail;refine(one_any (H:=H) sb w2 (fun h hh=>by have:=hH h hh;have:=HA.out.size;omega)).mono ?_;rintro e w3 ⟨b3,rfl,h3,hb3⟩
   have HA3:=Hy (HA.out.trans (hb3.mono HA.out.size));have HB3:=Hy (HB.out.trans (HA3.out.mono HB.out.size));have HR3:=Hy (HR.out.later HA3.out);have H3:=Hy h3;clear hb3 h3;have hk1:=kids_one sb;generalize Pv.one sb=y at *
   go_wp2_with (at_builtin;refine app1 _ _ i0 _ 8 Tryz.underlying101 hi hz0 hz1 hz2 rfl (by omega) rfl _ _ rfl w1.heap.size _ _ rfl (HR3.out.alloc _) w3.heap.size _ rfl (blk_new rfl) rfl ?c1 (by have:=HB3.out.size;simp;omega) ?c2)
   case c1=>first|omega|(rw[List.length_map];omega)
   case c2=>
    intro v4 w4 hr4 hb4 hg4;have A1:=Hy ((HB3.out.alloc HB3.out.size (.cells #[Ptr b3] 59)).trans hb4);have A2:Hid (Row w1.heap.size 59 w4 v4 (vals (ps++[(b3,y)]))):=by rw[vals,List.map_append];exact hr4
    have A3:Hid (∀x∈ps++[(b3,y)],x.2.kids=[]∧ReAt H w4 x.2 x.1):=fun x hx=>by
     rcases List.mem_append.1 hx with hx|hx
     ·obtain⟨q1,q2⟩:=HP.out x hx;exact⟨q1,one_app HR3.out q1 (q2.later HA3.out) hg4⟩
     ·rw[List.mem_singleton.1 hx];exact⟨hk1,one_app HR3.out hk1 H3.out hg4⟩
    clear hr4 hb4 hg4;go_wp2_with fail;go_roundw
    case rel=>
     refine⟨k+1,ps++[(b3,y)],by omega,by go_num,by simp;omega,A2.out,A3.out,?_,A1.out⟩;show _=_;rw[HTK.out,List.map_append,HM.out];rfl
    case measure=>simp[intOf];omega
  ·have e:k=l.length:=by omega
   subst e;have hm:=HM.out;rw[List.take_length]at hm;have hs1:=HB0.out.size;have hs2:=HB.out.size;obtain⟨a,c,rfl,hsl,_⟩:=HR.out.form;have hprs:Prs H wr ps:=fun x hx=>(HP.out x hx).2
   have hres:=hprs.res;have hsz3:Pv.sizes (ps.map (·.2))<549755813888:=by rw[hm,sizes_ones];exact hl
   have hsl3:Sl wr a c ((ps.map (·.1)).map Ptr):=by rw[List.map_map];exact hsl
   have hcat:=cat_any (H:=H) (ps.map (·.2)) a c (ps.map (·.1)) wr hsl3 hres (fun h hh=>by have:=hH h hh;omega) hsz3;rw[List.length_map,hm,hpl]at hcat;rw[List.length_map,hpl];have Hcat:=Hy hcat;have HBw:=Hy (HB0.out.trans (HB.out.mono hs1));clear hres hsl hsl3 hprs hcat hm hsz3;go_wp2_with fail;refine Hcat.out.mono ?_;rintro e w3 ⟨b,rfl,h,hb3⟩;go_wp2_with fail;go_ret
   exact⟨b,rfl,h,HBw.out.trans (hb3.mono HBw.out.size)⟩
end Go.Proofs.YtamkfdlcdiadlaaGreatDoor
namespace Go.Proofs.YtamkfdlcdiadlaaGreatDoor
open Go.RowKit
variable {H:Nat→Prop}
def Moved (w:World)(v v':Value):Prop:=v'.ownBlock=v.ownBlock∨∃g,v'.ownBlock=some g∧w.heap.size≤g
theorem append_moved {P:Program}{w:World}{t ty e:TypeId}{i:TypeInfo}{z:Value}(ht:P.underlying t=some (.slice e))(hi:P.info? e=some i)(hz:i.zero=some z)(hsize:i.size=1)(hbm:i.bytes≤64)
  {base:Nat} {v:Value} {xs:List Value} (hown:Row base e w v xs) {g:Nat} {u:Value} (hg:w.heap[g]?=some (.cells #[u] e)) (hu:u.oneCell'=true) (hlen:xs.length<1099511627776)
  {v':Value} {w':World} (h:(Builtin.append_ #[t,t] ty #[v,.slice (some ⟨g,0,none⟩) 1 1]).run P w = .ok v' w'):Moved w v v':=by
 have hnews:∀j q,[u][j]?=some q→w.cell? ((⟨g,0,none⟩:Addr).add j)=some q:=fun j q hj=>by
  match j,hj with
  | 0,hj=>simp at hj;subst hj;exact cB (cs:=#[u]) (o:=0) hg rfl
 have hb2:(xs.length+1)*i.bytes≤140737488355328:=Nat.le_trans (Nat.mul_le_mul (Nat.succ_le_of_lt hlen) hbm) (by decide);rcases hown.blk with⟨rfl,e0⟩|⟨g0,cap,cur,rfl,hg0,hh,hn,hc,hs,htk⟩
 ·have hr:=run_append_nil (P:=P) (w:=w) t ty e i z ht hi hz ⟨g,0,none⟩ 1 1 [u] (by rw[hsize];rfl) hnews (by omega) (by omega) (by omega);rw[h]at hr;injection hr with e1 e2
  subst e1;exact .inr ⟨_,rfl,Nat.le_refl _⟩
 ·by_cases hroom:xs.length+1≤cap
  ·obtain⟨w2,hr,_⟩:=run_append_fits (P:=P) w base t ty e i 1 ht hi hsize g0 xs.length cap xs hown ⟨g,0,none⟩ 1 1 [u] rfl hnews (by simpa using hu) hroom;rw[h]at hr;injection hr with e1 e2
   subst e1;exact .inl rfl
  ·have holds:∀j q,xs[j]?=some q→w.cell? ((⟨g0,0,none⟩:Addr).add j)=some q:=fun j q hj=>by
    have hj':j<xs.length:=(List.getElem?_eq_some_iff.1 hj).1;have:(⟨g0,0,none⟩:Addr).add j=⟨g0,j,none⟩:=by unfold Addr.add;split<;>simp_all
    rw[this];refine cB hh ?_;rw[←htk,List.getElem?_take,if_pos hj']at hj;simpa using hj
   have hr:=run_append_grow (P:=P) (w:=w) t ty e i z ht hi hz ⟨g0,0,none⟩ xs.length cap xs (by rw[hsize];simp) holds ⟨g,0,none⟩ 1 1 [u] (by rw[hsize];rfl) hnews (by omega) (by omega) (growslice_fits (by omega) hb2);rw[h]at hr;injection hr with e1 e2
   subst e1;exact .inr ⟨_,rfl,Nat.le_refl _⟩
theorem app1x {P:Program}{w:World}{ops:Array Oper}{rest:List Oper}{o:Oper}{a:Act}{Q:Exit→Act→World→Prop}(t e:TypeId)(i:TypeInfo)(z:Value)(bytes:Nat)
  (ht:P.underlying t=some (.slice e)) (hi:P.info? e=some i) (hz:i.zero=some z) (hsize:i.size=1) (hby:i.bytes=bytes) (hzs:z.cells.size=1) (hbm:bytes≤64)
  (hgd:o.guard=none) (s x:Operand) (ho:o.op = .call { callee:= .builtin .append,args:=#[s,x],argTypes:=#[t,t] })
  (base:Nat) (v:Value) (xs:List Value) (hs:a.eval s=v) (hown:Row base e w v xs)
  (g:Nat) (u:Value) (hx:a.eval x = .slice (some ⟨g,0,none⟩) 1 1) (hg:w.heap[g]?=some (.cells #[u] e)) (hu:u.oneCell'=true)
  (hlen:xs.length<1099511627776) (hbase:base≤w.heap.size)
  (h:∀v' w',Row base e w' v' (xs++[u])→Below base w w'→w.grownBy w' v.ownBlock→Moved w v v'→wpList P ops Q rest (a.put o.dst v') w'):wpList P ops Q (o::rest) a w:=by
 subst hby;have hb2:(xs.length+1)*i.bytes≤140737488355328:=Nat.le_trans (Nat.mul_le_mul (Nat.succ_le_of_lt hlen) hbm) (by decide);have hnews:∀j q,[u][j]?=some q→w.cell? ((⟨g,0,none⟩:Addr).add j)=some q:=fun j q hj=>by
  match j,hj with
  | 0,hj=>simp at hj;subst hj;exact cB (cs:=#[u]) (o:=0) hg rfl
 obtain⟨v',w',hrun,hr,hgr,_⟩:=run_append_own (P:=P) w base t o.type e i z 1 i.bytes ht hi hz hsize rfl hzs (by omega) v xs.length xs hown ⟨g,0,none⟩ 1 1 [u] rfl hnews (by simpa using hu) (by unfold maxLen;omega) hb2 hbase;have hmv:=append_moved (ty:=o.type) ht hi hz hsize hbm hown hg hu hlen hrun;refine wpList_plain hgd fun K hK => ?_
 unfold Oper.wp;simp[execOp,ho,resolve,invoke,builtin,hs,hx,hrun,Result.andThen];refine hK _ _ (h v' w' ?_ (Below.of_grown hown hgr hbase) hgr hmv);have e0:(xs++[u]).length=xs.length+1:=by simp
 unfold Row;rw[e0];exact hr
abbrev own (H:Nat→Prop)(v:Value):Nat→Prop:=fun x=>H x∨v.ownBlock=some x
theorem ReAt.moved {w w2:World}{v v':Value}{r:Pv.R}{b:Nat}{o:Obj}(h:ReAt (own H v) w r b)(hg:(w.alloc o).grownBy w2 v.ownBlock)(hm:Moved (w.alloc o) v v'):ReAt (own H v') w2 r b:=by
 have h1:ReAt (fun x=>H x∨v.ownBlock=some x∨v'.ownBlock=some x) w r b:=h.widen fun x hx=>by
  rcases hx with hx|hx|hx
  ·exact .inl (.inl hx)
  ·exact .inl (.inr hx)
  ·rcases hm with hm|⟨g,e,hm⟩
   ·exact .inl (.inr (by rw[←hm];exact hx))
   ·rw[e]at hx;injection hx with hx;subst hx;right;simp at hm;omega
 have hsz:=hg.size;have h2:ReAt (fun x=>H x∨v.ownBlock=some x∨v'.ownBlock=some x) w2 r b:=by
  rcases Option.eq_none_or_eq_some v.ownBlock with hv|⟨g,hv⟩
  ·refine h1.ext (w':=w2) ⟨by simp at hsz;omega,fun b cs t fr q _ => ?_⟩;have:=blk_lt q;rw[hg.block b (by simp;omega) (by rw[hv];simp),blk_alloc,if_neg (by omega)];exact q
  ·refine (h1.hide_ (g:=g) (.inr (.inl hv))).ext (w':=w2) ⟨by rw[hide_size];simp at hsz;omega,fun b cs t fr q hp => ?_⟩;obtain⟨q1,q2⟩:=hide_cells q hp;have:=blk_lt q2;rw[hg.block b (by simp;omega) (by rw[hv];intro e;injection e with e;exact q1 e),blk_alloc,if_neg (by omega)];exact q2
 exact h2.widen fun x hx=> .inl (by rcases hx with hx|hx;exact .inl hx;exact .inr (.inr hx))
end Go.Proofs.YtamkfdlcdiadlaaGreatDoor
namespace Go.Proofs.YtamkfdlcdiadlaaGreatDoor
open Go.RowKit
theorem info_set:(Tryz.prog.info? 87).map (fun i=>(i.zero,i.size,i.bytes))=some (some (.agg #[.int .u64 0,.int .u64 0,.int .u64 0,.int .u64 0]),4,32):=by kernel_rfl
abbrev cells4 (s:Pv.S4):List Value:=[W64 s.a,W64 s.b,W64 s.c,W64 s.d]
def RowS (base:Nat)(w:World)(v:Value)(ss:List Pv.S4):Prop:=w.ownsRow base 87 4 v ss.length (ss.flatMap cells4)
theorem RowS.nil (base:Nat)(w:World):RowS base w (.slice none 0 0) []:=World.ownsRow_nil _ _ _ _
structure SlS (w:World)(a:Option Addr)(c:Nat)(ss:List Pv.S4):Prop where
 le:ss.length≤c
 nil_:a=none→c=0
 cell:∀i (h:i<ss.length),∃blk off,a=some ⟨blk,off,none⟩∧∀j,j<4→w.cell? ⟨blk,off+4*i+j,none⟩=some (W64 (ss[i].word j))
theorem SlS.later {w w':World}{a:Option Addr}{c:Nat}{ss:List Pv.S4}(h:SlS w a c ss)(hb:Below w.heap.size w w'):SlS w' a c ss:=
 ⟨h.1,h.2,fun i hi=>let ⟨b,o,e,hc⟩:=h.3 i hi;⟨b,o,e,fun j hj=>Go.Proofs.YtamkfdlcdiadlaaGreatDoor.later hb (hc j hj)⟩⟩
theorem SlS.nil (w:World):SlS w none 0 []:=⟨Nat.zero_le _,fun _=>rfl,fun _ h=>by cases h⟩
theorem flat_len4:∀ss:List Pv.S4,(ss.flatMap cells4).length=ss.length*4
 | []=>rfl
 | s::ss=>by rw[List.flatMap_cons,List.length_append,flat_len4 ss];simp;omega
theorem flat_get4:∀(ss:List Pv.S4) (i j:Nat) (h:i<ss.length),j<4→(ss.flatMap cells4)[4*i+j]?=some (W64 (ss[i].word j))
 | [],_,_,h,_=>by cases h
 | s::ss,0,j,_,hj=>by
   rw[List.flatMap_cons,Nat.mul_zero,Nat.zero_add,List.getElem?_append_left (by simpa using hj)];exact word_getL s j hj
 | s::ss,i+1,j,h,hj=>by rw[List.flatMap_cons,List.getElem?_append_right (by simp;omega)];have:=flat_get4 ss i j (by simpa using h) hj;simpa [Nat.mul_add,Nat.add_right_comm,show 4*i+4+j-4=4*i+j by omega] using this
theorem RowS.form {base:Nat}{w:World}{v:Value}{ss:List Pv.S4}(h:RowS base w v ss):∃a c,v = .slice a ss.length c∧SlS w a c ss:=by
 obtain⟨h1,h2⟩:=h;rcases h2 with⟨rfl,h0⟩|⟨g,cap,cur,rfl,hg,hh,hn,hc,hs,ht⟩
 ·have:ss=[]:=List.length_eq_zero_iff.1 h0;subst this;exact⟨none,0,rfl,SlS.nil _⟩
 ·refine ⟨some ⟨g,0,none⟩,cap,rfl,hn,(fun h=>by cases h),fun i hi=>⟨g,0,rfl,fun j hj => ?_⟩⟩;rw[Nat.zero_add];have e1:=flat_get4 ss i j hi hj;rw[←ht,List.getElem?_take]at e1;split at e1
  ·exact cB hh (by simpa using e1)
  ·cases e1
theorem flat_mem4 {ss:List Pv.S4}{u:Value}(h:u∈ss.flatMap cells4):u.oneCell'=true:=by obtain⟨s,_,h⟩:=List.mem_flatMap.1 h;simp only[cells4,List.mem_cons,List.not_mem_nil,or_false]at h;rcases h with rfl|rfl|rfl|rfl<;>rfl
theorem RowS.below {base:Nat}{w w':World}{v:Value}{ss:List Pv.S4}(h:RowS base w v ss)(hg:w.grownBy w' v.ownBlock)(hb:base≤w.heap.size):Below base w w':=by
 refine(Below.refl base w).grown hg hb fun k hk => ?_
 obtain⟨_,h2⟩:=h;rcases h2 with⟨rfl,_⟩|⟨g,cap,cur,rfl,hg',_⟩
 ·cases hk
 ·cases hk;exact hg'
theorem RowS.later {base:Nat}{w w':World}{v:Value}{ss:List Pv.S4}(h:RowS base w v ss)(hb:Below w.heap.size w w'):RowS base w' v ss:=by
 obtain⟨h1,h2⟩:=h;refine⟨h1,?_⟩;rcases h2 with h2|⟨g,cap,cur,hv,hg,hh,r⟩
 ·exact .inl h2
 ·exact .inr ⟨g,cap,cur,hv,hg,by rw[hb.block g (blk_lt hh)];exact hh,r⟩
theorem appSS {w:World}{ops:Array Oper}{rest:List Oper}{o:Oper}{a:Act}{Q:Exit→Act→World→Prop}
  (hgd:o.guard=none) (s x:Operand) (ho:o.op = .call { callee:= .builtin .append,args:=#[s,x],argTypes:=#[187,187] })
  (base:Nat) (v:Value) (ss:List Pv.S4) (hs:a.eval s=v) (hown:RowS base w v ss)
  (sa:Option Addr) (n c:Nat) (ts:List Pv.S4) (hn:ts.length=n) (hx:a.eval x = .slice sa n c) (hsl:SlS w sa c ts)
  (hlen:ss.length+n<1099511627776) (hbase:base≤w.heap.size)
  (h:∀v' w',RowS base w' v' (ss++ts)→Below base w w'→w.grownBy w' v.ownBlock→wpList Tryz.prog ops Q rest (a.put o.dst v') w'):wpList Tryz.prog ops Q (o::rest) a w:=by
 subst hn;obtain⟨i,hi,hz0,hz1,hz2⟩:=info_parts info_set;have hb2:(ss.length+ts.length)*32≤140737488355328:=by omega
 cases sa with
 | none=>
   have h0:=hsl.nil_ rfl;have h1:=hsl.le;have:ts=[]:=List.length_eq_zero_iff.1 (by omega);subst this;subst h0;refine wpList_append_own_none hgd s x 187 ho base 87 i 4 Tryz.underlying187 hi v ss.length (ss.flatMap cells4) hs hown hx ?_;exact h v w (by simpa using hown) (Below.refl _ _) (grown_refl _ _)
 | some ad=>
   refine wpList_append_own _ hgd s x 187 ho base 87 i _ 4 32 Tryz.underlying187 hi hz0 hz1 hz2 rfl (by omega) v ss.length (ss.flatMap cells4) hs hown ad ts.length c (ts.flatMap cells4) hx (flat_len4 ts) ?_ (fun u hu=>flat_mem4 hu) (by unfold maxLen;omega) hb2 hbase ?_
   ·intro j q hj;have hlt:=(List.getElem?_eq_some_iff.1 hj).1;rw[flat_len4]at hlt;obtain⟨b,o',e1,hc⟩:=hsl.cell (j / 4) (by omega);cases e1;have e2:=flat_get4 ts (j / 4) (j % 4) (by omega) (Nat.mod_lt _ (by omega));rw[Nat.div_add_mod]at e2;rw[hj]at e2;have:=hc (j % 4) (Nat.mod_lt _ (by omega));rw[Nat.add_assoc,Nat.div_add_mod]at this;rw[add_none,this,e2]
   ·intro v' w' hr hgr _;refine h v' w' ?_ (hown.below hgr hbase) hgr;unfold RowS;rw[List.length_append,List.flatMap_append];exact hr
end Go.Proofs.YtamkfdlcdiadlaaGreatDoor
namespace Go.Proofs.YtamkfdlcdiadlaaGreatDoor
theorem size_cat_lt {r k:Pv.R}{rest:List Pv.R}(h:r.kids=k::rest):Pv.size (Pv.cat rest)<Pv.size r:=by have h1:=size_cat rest;have h2:=size_pos k;have h3:=size_kids r;rw[h,Pv.sizes]at h3;omega
theorem mem_sizes {k:Pv.R}:∀ {l:List Pv.R},k∈l→Pv.size k≤Pv.sizes l
 | x::l,h=>by
   rw[Pv.sizes];rcases List.mem_cons.1 h with rfl|h
   ·omega
   ·have:=mem_sizes h;omega
theorem size_kid_lt {r k:Pv.R}(h:k∈r.kids):Pv.size k<Pv.size r:=by
 have h3:=size_kids r;have:Pv.size k≤Pv.sizes r.kids:=by exact mem_sizes h
 omega
theorem byF_fuel (c:UInt8):∀(n m:Nat) (r:Pv.R),Pv.size r≤n→Pv.size r≤m→Pv.byF n c r=Pv.byF m c r
 | 0,_,r,h,_=>by have:=size_pos r;omega
 | _,0,r,_,h=>by have:=size_pos r;omega
 | n+1,m+1,r,hn,hm=>by
   unfold Pv.byF;split
   ·rfl
   split
   ·cases hk:r.kids with
    | nil=>rfl
    | cons k rest=>
      have h1:=size_kid_lt (r:=r) (k:=k) (by rw[hk];simp);have h2:=size_cat_lt hk;simp only;rw[byF_fuel c n m k (by omega) (by omega),byF_fuel c n m (Pv.cat rest) (by omega) (by omega)]
   split
   ·cases hk:r.kids with
    | nil=>rfl
    | cons k rest=>
      have h1:=size_kid_lt (r:=r) (k:=k) (by rw[hk];simp);simp only;rw[byF_fuel c n m k (by omega) (by omega)]
   split
   ·congr 1;refine List.map_congr_left fun k hk => ?_
    have h1:=size_kid_lt hk;exact byF_fuel c n m k (by omega) (by omega)
   ·rfl
theorem byF_by (c:UInt8)(n:Nat)(r:Pv.R)(h:Pv.size r≤n):Pv.byF n c r=Pv.by_ c r:=byF_fuel c n (Pv.size r) r h (Nat.le_refl _)
theorem by_class (c:UInt8)(r:Pv.R)(h:r.op=2):Pv.by_ c r=if r.set.has c.toNat then Pv.empty else Pv.nothing:=by have:=size_pos r;rw[←byF_by c (Pv.size r-1+1) r (by omega),Pv.byF,if_pos h]
theorem by_cat (c:UInt8)(r k:Pv.R)(rest:List Pv.R)(h:r.op=3)(hk:r.kids=k::rest):Pv.by_ c r =
  if Pv.null k then Pv.any [Pv.cat [Pv.by_ c k,Pv.cat rest],Pv.by_ c (Pv.cat rest)] else Pv.cat [Pv.by_ c k,Pv.cat rest]:=by
 have h1:=size_kid_lt (r:=r) (k:=k) (by rw[hk];simp);have h2:=size_cat_lt hk;rw[←byF_by c (Pv.size r-1+1) r (by omega),Pv.byF,if_neg (by omega),if_pos h,hk];simp only;rw[byF_by c _ k (by omega),byF_by c _ (Pv.cat rest) (by omega)]
theorem by_star (c:UInt8)(r k:Pv.R)(rest:List Pv.R)(h:r.op=5)(hk:r.kids=k::rest):Pv.by_ c r=Pv.cat [Pv.by_ c k,r]:=by have h1:=size_kid_lt (r:=r) (k:=k) (by rw[hk];simp);rw[←byF_by c (Pv.size r-1+1) r (by omega),Pv.byF,if_neg (by omega),if_neg (by omega),if_pos h,hk];simp only;rw[byF_by c _ k (by omega)]
theorem by_kids (c:UInt8)(r:Pv.R)(h:r.op=4∨r.op=6∨r.op=7):Pv.by_ c r=Pv.withKids r (r.kids.map (Pv.by_ c)):=by
 have:=size_pos r;rw[←byF_by c (Pv.size r-1+1) r (by omega),Pv.byF,if_neg (by omega),if_neg (by omega),if_neg (by omega),if_pos h];congr 1;refine List.map_congr_left fun k hk => ?_
 have h1:=size_kid_lt hk;exact byF_by c _ k (by omega)
theorem by_else (c:UInt8)(r:Pv.R)(h:r.op≠2∧r.op≠3∧r.op≠4∧r.op≠5∧r.op≠6∧r.op≠7):Pv.by_ c r=Pv.nothing:=by have:=size_pos r;rw[←byF_by c (Pv.size r-1+1) r (by omega),Pv.byF,if_neg (by omega),if_neg (by omega),if_neg (by omega),if_neg (by omega)]
theorem sq_add (a b:Nat):3*(a*a)+3*(b*b)+6*(a*b)=3*((a+b)*(a+b)):=by have:=Nat.mul_comm a b;simp only[Nat.add_mul,Nat.mul_add];omega
theorem sizes_by_le (c:UInt8):∀l:List Pv.R,(∀k∈l,Pv.size (Pv.by_ c k)≤3*(Pv.size k*Pv.size k))→Pv.sizes (l.map (Pv.by_ c))≤3*(Pv.sizes l*Pv.sizes l)
 | [],_=>by simp[Pv.sizes]
 | k::l,h=>by
   have h1:=h k (by simp);have h2:=sizes_by_le c l fun x hx=>h x (by simp[hx])
   rw[List.map_cons,Pv.sizes,Pv.sizes];have:=sq_add (Pv.size k) (Pv.sizes l);omega
theorem size_by (c:UInt8):∀(n:Nat) (r:Pv.R),Pv.size r≤n→Pv.size (Pv.by_ c r)≤3*(Pv.size r*Pv.size r)
 | 0,r,h=>by have:=size_pos r;omega
 | n+1,r,hn=>by
   have hp:=size_pos r;have hp2:1≤Pv.size r*Pv.size r:=Nat.mul_le_mul hp hp;have hself:Pv.size r≤Pv.size r*Pv.size r:=Nat.le_mul_of_pos_left _ hp;by_cases h2:r.op=2
   ·rw[by_class c r h2];split
    ·simp[Pv.empty,Pv.size,Pv.sizes];omega
    ·simp[Pv.nothing,Pv.size,Pv.sizes];omega
   by_cases h3:r.op=3
   ·cases hk:r.kids with
    | nil=>
      have:Pv.by_ c r=Pv.nothing:=by rw[←byF_by c (Pv.size r-1+1) r (by omega),Pv.byF,if_neg (by omega),if_pos h3,hk]
      rw[this];simp[Pv.nothing,Pv.size,Pv.sizes];omega
    | cons k rest=>
      have hkl:=size_kid_lt (r:=r) (k:=k) (by rw[hk];simp);have hcl:=size_cat_lt hk;have i1:=size_by c n k (by omega);have i2:=size_by c n (Pv.cat rest) (by omega);have hc:=size_cat rest;have hsz:=size_kids r;rw[hk,Pv.sizes]at hsz;have hkp:=size_pos k;have hsq:=sq_add (Pv.size k) (1+Pv.sizes rest);rw[show Pv.size k+(1+Pv.sizes rest)=Pv.size r by omega]at hsq
      have hmm:1+Pv.sizes rest≤Pv.size k*(1+Pv.sizes rest):=Nat.le_mul_of_pos_left _ hkp;have hmono:Pv.size (Pv.cat rest)*Pv.size (Pv.cat rest)≤(1+Pv.sizes rest)*(1+Pv.sizes rest):=Nat.mul_le_mul hc hc;have o1:=size_cat [Pv.by_ c k,Pv.cat rest];simp only[Pv.sizes]at o1;rw[by_cat c r k rest h3 hk];split
      ·have o2:=size_anyl [Pv.cat [Pv.by_ c k,Pv.cat rest],Pv.by_ c (Pv.cat rest)];simp only[Pv.sizes]at o2;omega
      ·omega
   by_cases h5:r.op=5
   ·cases hk:r.kids with
    | nil=>
      have:Pv.by_ c r=Pv.nothing:=by rw[←byF_by c (Pv.size r-1+1) r (by omega),Pv.byF,if_neg (by omega),if_neg (by omega),if_pos h5,hk]
      rw[this];simp[Pv.nothing,Pv.size,Pv.sizes];omega
    | cons k rest=>
      have hkl:=size_kid_lt (r:=r) (k:=k) (by rw[hk];simp);have i1:=size_by c n k (by omega);have o1:=size_cat [Pv.by_ c k,r];simp only[Pv.sizes]at o1;have hkp:=size_pos k;have hsq:=sq_add (Pv.size k) (Pv.size r-Pv.size k);rw[show Pv.size k+(Pv.size r-Pv.size k)=Pv.size r by omega]at hsq;have m1:Pv.size r-Pv.size k≤Pv.size k*(Pv.size r-Pv.size k):=Nat.le_mul_of_pos_left _ hkp
      have m2:Pv.size k≤Pv.size k*(Pv.size r-Pv.size k):=Nat.le_mul_of_pos_right _ (by omega);rw[by_star c r k rest h5 hk];omega
   by_cases h4:r.op=4∨r.op=6∨r.op=7
   ·rw[by_kids c r h4];have o1:=size_with r (r.kids.map (Pv.by_ c));have i1:=sizes_by_le c r.kids fun k hk=>size_by c n k (by have:=size_kid_lt hk;omega)
    have hsz:=size_kids r;have hsq:=sq_add 1 (Pv.sizes r.kids);rw[←hsz]at hsq;omega
   ·rw[by_else c r ⟨h2,h3,by omega,h5,by omega,by omega⟩];simp[Pv.nothing,Pv.size,Pv.sizes];omega
end Go.Proofs.YtamkfdlcdiadlaaGreatDoor
namespace Go.Proofs.YtamkfdlcdiadlaaGreatDoor
open Go.RowKit
open Pv (allSets allSetsL)
theorem allSetsL_map:∀l:List Pv.R,allSetsL l=l.flatMap allSets
 | []=>rfl
 | r::l=>by rw[allSetsL,allSetsL_map l,List.flatMap_cons]
theorem allSets_eq (r:Pv.R):allSets r=if r.op=2 then [r.set] else r.kids.flatMap allSets:=by
 cases r with
 | mk op s ks=>rw[allSets,allSetsL_map];rfl
mutual
theorem allSets_len:∀r:Pv.R,(allSets r).length≤Pv.size r
 | .mk op s ks=>by
   have:=allSetsL_len ks;rw[allSets,Pv.size];split
   ·simp
   ·omega
theorem allSetsL_len:∀l:List Pv.R,(allSetsL l).length≤Pv.sizes l
 | []=>Nat.le_refl _
 | r::l=>by have:=allSets_len r;have:=allSetsL_len l;rw[allSetsL,Pv.sizes,List.length_append];omega
end
theorem RowS.lit {base:Nat}{w:World}{s:Pv.S4}{g:Nat}(hg:base≤g)(hh:w.heap[g]?=some (.cells (S4C s) 87)):RowS base w (.slice (some ⟨g,0,none⟩) 1 1) [s]:=
 ⟨by simp,.inr ⟨g,1,S4C s,rfl,hg,hh,by simp,by decide,by simp,by simp⟩⟩
set_option maxRecDepth 20000 in
set_option maxHeartbeats 4000000 in
theorem sets_any:∀(n:Nat) (H:Nat→Prop) (r:Pv.R) (b:Nat) (w:World),Pv.size r≤n→ReAt H w r b→Pv.size r<549755813888 →
  Calls Tryz.prog 128 #[Ptr b] w fun e w'=>∃v,e = .returned v∧RowS w.heap.size w' v (allSets r)∧Below w.heap.size w w'
 | 0,_,r,_,_,hn,_,_=>by have:=size_pos r;omega
 | n+1,H,r,b,w,hn,hat,hsz=>by
   obtain⟨a,cc,bs,h0,h1,h2,h3,h4,h5,_,_,_,hsl,hres,hlt⟩:=hat.cells;have hlen:=hres.length;have hks:=sizes_len r.kids;have hsk:=size_kids r;have hall:=allSets_eq r;have Hsl:=Hy hsl;have Hres:=Hy hres;clear hat hsl hres;by_cases e2:r.op=2
   ·have h0':w.cell? ⟨b,0,none⟩=some (.int .i64 2):=by rw[h0,e2];rfl
    rw[if_pos e2]at hall;have Hall:=Hy hall;clear h0 e2 hall hlen;go_enter Tryz.func128,Tryz.ntmps128;go_wp2_with fail;go_ret;refine⟨_,rfl,?_,(Below.refl _ _).alloc (Nat.le_refl _) _⟩;rw[Hall.out];exact RowS.lit (Nat.le_refl _) (blk_new rfl)
   ·have f2:((r.op:Int)==2)=false:=opF e2;rw[if_neg e2]at hall;have Hall:=Hy hall;have HL:=Hy hlen;have hb40:bs.length<1099511627776:=by omega
    have Hal:=Hy (allSets_len r);clear e2 hall h1 h2 h3 h4 hlen;go_enter Tryz.func128,Tryz.ntmps128;go_wp2_with fail;go_loopw [3,23] (fun v i wr=>∃(k:Nat),k≤bs.length∧i = .int .i64 k∧Hid (RowS w.heap.size wr v ((r.kids.take k).flatMap allSets))∧Hid (Below w.heap.size w wr)) (fun _ i _=>(bs.length-intOf i).toNat)
    case atStart=>exact⟨0,by omega,rfl,RowS.nil _ _,Below.refl _ _⟩
    case round=>
     obtain⟨k,hk,rfl,HR,HB⟩:=hrel;by_cases hkn:k<bs.length
     ·have hkk2:k<r.kids.length:=by rw[←HL.out];exact hkn
      obtain⟨hkb,hatk⟩:=Hres.out.get k hkk2;obtain⟨blk,off,rfl,hbl,hcl⟩:=Hsl.out.at_ (by simp;omega);have hc0:=later HB.out (hcl k (by simpa using hkn));rw[List.getElem_map]at hc0;have hszk:=size_kid_lt (r:=r) (List.getElem_mem hkk2);have hcall:=sets_any n H _ _ wr (by omega) (hatk.later HB.out) (by omega)
      have htk:(r.kids.take (k+1)).flatMap allSets=(r.kids.take k).flatMap allSets++allSets (r.kids[k]'hkk2):=by rw[List.take_succ_eq_append_getElem hkk2,List.flatMap_append];simp
      have hln:((r.kids.take k).flatMap allSets).length+(allSets (r.kids[k]'hkk2)).length≤Pv.size r:=by rw[←List.length_append,←htk,←allSetsL_map];have h1:=allSetsL_len (r.kids.take (k+1));have h2:=sizes_take_le r.kids (k+1);omega
      have Hcall:=Hy hcall;have HTK:=Hy htk;clear hcall hatk hcl htk hszk;generalize bs[k]=bk at *;generalize allSets (r.kids[k]'hkk2)=y at *;have hkn':(k:Int)<bs.length:=by omega
      have hk40:(k:Int)<1099511627776:=by omega
      go_wp2_with fail;refine Hcall.out.mono ?_;rintro e w2 ⟨v2,rfl,hr2,hb2⟩;obtain⟨a2,c2,rfl,hsl2⟩:=hr2.form;have HR2:Hid (RowS w.heap.size w2 u3 ((r.kids.take k).flatMap allSets)):=HR.out.later hb2;have HB2:=Hy (HB.out.trans (hb2.mono HB.out.size));have Hsl2:=Hy hsl2;clear hr2 hb2 hsl2
      go_wp2_with (at_builtin;refine appSS rfl _ _ rfl w.heap.size _ _ rfl HR2.out _ _ _ y rfl rfl Hsl2.out (by omega) (by have:=HB2.out.size;omega) ?c2)
      case c2=>
       intro v3 w3 hr3 hb3 _;have A1:=Hy (HB2.out.trans hb3);have A2:=Hy hr3;clear hr3 hb3;go_wp2_with fail;go_roundw
       case rel=>exact⟨k+1,by omega,by go_num,(show RowS _ _ _ _ by rw[HTK.out];exact A2.out),A1.out⟩
       case measure=>simp[intOf];omega
     ·have e:k=bs.length:=by omega
      subst e;have hm:=HR.out;rw[HL.out,List.take_of_length_le (Nat.le_refl _),←Hall.out]at hm;have HM:=Hy hm;clear hm HR;go_wp2_with fail;go_ret;exact⟨_,rfl,HM.out,HB.out⟩
end Go.Proofs.YtamkfdlcdiadlaaGreatDoor
