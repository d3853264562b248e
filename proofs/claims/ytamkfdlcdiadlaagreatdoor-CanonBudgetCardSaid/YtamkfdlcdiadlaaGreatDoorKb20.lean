/- The walks of a Dfa's methods: Len, has, Step, Yes, Run, Match, Heads. -/
import Derived.Test.YtamkfdlcdiadlaaGreatDoorKb05
import Derived.Test.YtamkfdlcdiadlaaGreatDoorKb19
import Derived.Test.YtamkfdlcdiadlaaGreatDoorKb03
import Derived.Defers
import Derived.Laws.Pointers
import Derived.Laws.LoneSync
import Derived.RegionTactic
import Derived.RegionCalls
import Derived.Tactics2
set_option linter.all false
namespace Go.Proofs.YtamkfdlcdiadlaaGreatDoor
open Go.RowKit
variable {H:Nat→Prop}
theorem DfaAt.yes_ {w:World}{D:Pv.Dfa}{d:Nat}(h:DfaAt H w D d):∃a c,w.cell? ⟨d,258,none⟩=some (.slice a D.yes.length c)∧Sl w a c (D.yes.map .bool):=by obtain⟨hv,nv,yv,rest,rs,h1,_,_,_,⟨a,c,rfl,hs,_⟩,_⟩:=h;refine⟨a,c,?_,hs⟩;have:=cB h1 (dfa_yes_ (at_:=Pv.indexOf D.parts));rw[List.length_map]at this;exact this
theorem DfaAt.isYes {w:World}{D:Pv.Dfa}{d:Nat}(h:DfaAt H w D d){q:Nat}(hq:q<D.yes.length):∃blk off c,w.cell? ⟨d,258,none⟩=some (.slice (some ⟨blk,off,none⟩) D.yes.length c)∧w.cell? ⟨blk,off+q,none⟩=some (.bool (D.isYes q)):=by obtain⟨a,c,h1,h2⟩:=h.yes_;obtain⟨blk,off,rfl,h3⟩:=h2.cell q (by simpa using hq);refine⟨blk,off,c,h1,h3.trans ?_⟩;simp[Pv.Dfa.isYes,hq]
theorem DfaAt.row {w:World}{D:Pv.Dfa}{d:Nat}(h:DfaAt H w D d)(hD:D.Ok){q:Nat}(hq:q<D.yes.length)(b:Nat)(hb:b<256):∃blk off c blk2 off2 c2,
  w.cell? ⟨d,257,none⟩=some (.slice (some ⟨blk,off,none⟩) D.yes.length c)∧w.cell? ⟨blk,off+q,none⟩=some (.slice (some ⟨blk2,off2,none⟩) D.parts.length c2) ∧
  w.cell? ⟨d,b,none⟩=some (.int .u8 (D.at_ b:Int))∧w.cell? ⟨blk2,off2+D.at_ b,none⟩=some (.int .i64 (D.step q b:Int)):=by
 obtain⟨hv,nv,yv,rest,rs,h1,_,⟨a,c,rfl,hs,_⟩,⟨hl,hr⟩,_,_⟩:=h;have hqn:q<D.next.length:=by rw[hD.len];exact hq
 obtain⟨rv,hrv,⟨a2,c2,e2,hs2,_⟩⟩:=hr q _ (List.getElem?_eq_getElem hqn);have hrow:=hD.row _ (List.getElem_mem hqn);obtain⟨blk,off,rfl,h3⟩:=hs.cell q (by omega);have hat:=hD.at_lt b;obtain⟨blk2,off2,rfl,h4⟩:=hs2.cell (D.at_ b) (by simp;omega);refine⟨blk,off,c,blk2,off2,c2,?_,?_,cB h1 (dfa_at _ _ _ _ _ b hb),h4.trans ?_⟩
 ·have:=cB h1 (dfa_next_ (at_:=Pv.indexOf D.parts));rw[hl,hD.len]at this;exact this
 ·rw[List.getElem?_eq_getElem (by omega)]at hrv;rw[h3,hrv,e2,List.length_map,hrow.1]
 ·simp only[List.getElem_map,Pv.Dfa.step,List.getD_eq_getElem?_getD,List.getElem?_eq_getElem hqn,Option.getD_some,List.getElem?_eq_getElem (show D.at_ b<(D.next[q]).length by omega)]
theorem len_any (D:Pv.Dfa)(d:Nat)(w:World)(h:DfaAt H w D d):Pure 90 #[Ptr d] w (.int .i64 (D.yes.length:Int)):=by obtain⟨a,c,h1,h2⟩:=h.yes_;have hc:=h2.le;clear h h2;go_enter Tryz.func90,Tryz.ntmps90;go_wp2_with fail;go_ret;exact⟨rfl,rfl⟩
theorem dhas_any (D:Pv.Dfa)(d q:Nat)(w:World)(h:DfaAt H w D d):Pure 203 #[Ptr d,.int .i64 (q:Int)] w (.bool (decide (q<D.yes.length))):=by
 have hl:=len_any D d w h;clear h;have hq:(0:Int)≤q:=by omega
 go_enter Tryz.func203,Tryz.ntmps203;go_wp2_with fail;refine hl.mono ?_;rintro e w' ⟨rfl,rfl⟩;go_wp2_with fail;go_ret;exact⟨by simp,rfl⟩
theorem yes_any (D:Pv.Dfa)(d q:Nat)(w:World)(h:DfaAt H w D d):Pure 181 #[Ptr d,.int .i64 (q:Int)] w (.bool (D.isYes q)):=by
 have hl:=dhas_any D d q w h;by_cases hq:q<D.yes.length
 ·obtain⟨blk,off,c,h1,h2⟩:=h.isYes hq;have hq':(q:Int)<D.yes.length:=by omega
  rw[decide_eq_true hq]at hl;clear h;go_enter Tryz.func181,Tryz.ntmps181;go_wp2_with fail;refine hl.mono ?_;rintro e w' ⟨rfl,rfl⟩;go_wp2_with fail;go_ret;exact⟨rfl,rfl⟩
 ·rw[decide_eq_false hq]at hl;have e:D.isYes q=false:=by simp[Pv.Dfa.isYes];rw[List.getElem?_eq_none (by omega)];rfl
  rw[e];clear h;go_enter Tryz.func181,Tryz.ntmps181;go_wp2_with fail;refine hl.mono ?_;rintro e w' ⟨rfl,rfl⟩;go_wp2_with fail;go_ret;exact⟨rfl,rfl⟩
set_option maxRecDepth 20000 in
theorem step_any (D:Pv.Dfa)(hD:D.Ok)(d q b:Nat)(w:World)(h:DfaAt H w D d)(hq:q<D.yes.length)(hb:b<256):
  Calls Tryz.prog 201 #[Ptr d,.int .i64 (q:Int),.int .u8 (b:Int)] w fun e w'=>e = .returned (.int .i64 (D.step q b:Int))∧w'=w.drew:=by
 have hl:=dhas_any D d q w h;obtain⟨blk,off,c,blk2,off2,c2,h1,h2,h3,h4⟩:=h.row hD hq b hb;have hq':(q:Int)<D.yes.length:=by omega
 have hat:=hD.at_lt b;have hp:=hD.p256;have ha8:D.at_ b<256:=by omega
 have hb':(b:Int)<256:=by omega
 have ha':((D.at_ b:Nat):Int)<D.parts.length:=by omega
 generalize D.at_ b=t at *;generalize D.step q b=tq at *;rw[decide_eq_true hq]at hl;clear h hD;go_enter Tryz.func201,Tryz.ntmps201;go_wp2_with fail;refine hl.mono ?_;rintro e w' ⟨rfl,rfl⟩;go_wp2_with fail
 refine Eag.region (.mov 0 (.mov 1 (.mov 2 (.mov 3 (.mov 4 (.mov 5 (.mov 6 (.mov 7 (.mov 8 (.mov 9 (.mov 10 (.mov 11 (.mov 12 (.mov 13 (.mov 14 (.mov 15 Eag.Sch.fin)))))))))))))))) [] (by kernel_rfl) (by kernel_rfl) (fun K ops hops hK => ?_);iterate 16
  refine Eag.mov hops rfl rfl (fun w' hb => ?_) ?_
  ·have q0:=later hb h1;have q1:=later hb h2;have q2:=later hb h3;have q3:=later hb h4;clear hb;go_simp
  go_simp
 refine Eag.fin (hK _ _ ?_);clear hK hops;go_wp2_with fail;go_ret;exact⟨rfl,rfl⟩
theorem run_take (D:Pv.Dfa)(q:Nat)(s:List UInt8)(k:Nat)(h:k<s.length):D.run q (s.take (k+1))=D.step (D.run q (s.take k)) s[k].toNat:=by rw[List.take_succ_eq_append_getElem h,Pv.Dfa.run_snoc]
set_option maxRecDepth 20000 in
theorem run_any (D:Pv.Dfa)(hD:D.Ok)(d q:Nat)(s:List UInt8)(w:World)(h:DfaAt H w D d)(hq:q<D.yes.length)(hs:s.length<1099511627776):
  Calls Tryz.prog 192 #[Ptr d,.int .i64 (q:Int),Str s] w fun e w'=>e = .returned (.int .i64 (D.run q s:Int))∧Below w.heap.size w w':=by
 have HA:=Hy h;have HD:=Hy hD;clear h hD;go_enter Tryz.func192,Tryz.ntmps192;go_wp2_with fail;go_loopw [1,7] (fun v i wr=>∃(k:Nat),k≤s.length∧v = .int .i64 (D.run q (s.take k):Nat)∧i = .int .i64 k∧Hid (Below w.heap.size w wr)) (fun _ i _=>(s.length-intOf i).toNat)
 case atStart=>exact⟨0,by omega,rfl,rfl,Below.refl _ _⟩
 case round=>
  obtain⟨k,hk,rfl,rfl,HB⟩:=hrel;by_cases hkn:k<s.length
  ·have hlt:=HD.out.run_lt (s.take k) hq;have hst:=step_any D HD.out d _ s[k].toNat wr (HA.out.later HB.out) hlt (by have:=s[k].toNat_lt;omega);have hrt:=run_take D q s k hkn;obtain⟨q2,hq2⟩:∃q2,D.run q (s.take (k+1))=q2:=⟨_,rfl⟩
   rw[←hrt,hq2]at hst;have hkn':(k:Int)<s.length:=by omega
   have hk40:(k:Int)<1099511627776:=by omega
   have Hq2:=Hy hq2;clear hrt hq2;generalize D.run q (s.take k)=q1 at *;go_wp2_with fail;refine hst.mono ?_;rintro e w' ⟨rfl,rfl⟩;go_wp2_with fail;go_roundw
   case rel=>exact⟨k+1,by omega,by rw[Hq2.out],by go_num,HB.out.drew⟩
   case measure=>simp[intOf];omega
  ·have e:k=s.length:=by omega
   subst e;rw[List.take_length];go_wp2_with fail;go_ret;exact⟨rfl,HB.out⟩
theorem match_any (D:Pv.Dfa)(hD:D.Ok)(d:Nat)(s:List UInt8)(w:World)(h:DfaAt H w D d)(hs:s.length<1099511627776):
  Calls Tryz.prog 157 #[Ptr d,Str s] w fun e w'=>e = .returned (.bool (D.accepts s))∧Below w.heap.size w w':=by
 have hr:=run_any D hD d 0 s w h hD.pos hs;have HA:=Hy h;go_enter Tryz.func157,Tryz.ntmps157;go_wp2_with fail;refine hr.mono ?_;rintro e w' ⟨rfl,hb⟩;have hy:=yes_any D d (D.run 0 s) w' (HA.out.later hb);have HB:=Hy hb;clear hb;go_wp2_with fail;refine hy.mono ?_;rintro e w' ⟨rfl,rfl⟩;go_wp2_with fail;go_ret;exact⟨rfl,HB.out⟩
theorem info_u8':(Tryz.prog.info? 5).map (fun i=>(i.zero,i.size,i.bytes))=some (some (.int .u8 0),1,1):=by kernel_rfl
set_option maxRecDepth 20000 in
theorem heads_any (D:Pv.Dfa)(d:Nat)(w:World)(h:DfaAt H w D d)(hp:D.parts.length≤256):Calls Tryz.prog 176 #[Ptr d] w fun e w'=>
  ∃v,e = .returned v∧Row w.heap.size 5 w' v (D.heads.map byteV)∧Below w.heap.size w w':=by
 obtain⟨hv,nv,yv,rest,rs,h1,⟨a,c,rfl,hs,_⟩,_⟩:=h;have x0:=cB h1 (dfa_heads_ (at_:=Pv.indexOf D.parts));have hlen:(D.heads.map byteV).length≤256:=by simp[Pv.Dfa.heads];exact hp
 obtain⟨i0,hi,hz0,hz1,hz2⟩:=info_parts info_u8';have HS:=Hy hs;clear h1 hs;go_enter Tryz.func176,Tryz.ntmps176;go_wp2_with (at_builtin;refine appS 135 5 i0 _ 1 Tryz.underlying135 hi hz0 hz1 hz2 rfl (by omega) rfl _ _ rfl w.heap.size _ [] rfl (Row.nil _ _ _) _ _ _ (D.heads.map byteV) (by simp) rfl HS.out ?c1 ?c2 (Nat.le_refl _) ?c3)
 case c1=>intro u hu;obtain⟨b,_,rfl⟩:=List.mem_map.1 hu;rfl
 case c2=>simp;simp at hlen;omega
 case c3=>
  intro v4 w4 hr4 hb4 hg4;go_wp2_with fail;go_ret;exact⟨v4,rfl,hr4,hb4⟩
end Go.Proofs.YtamkfdlcdiadlaaGreatDoor
namespace Pv
def falses (L:List Bool):Nat:=L.countP (fun b => !b)
theorem falses_le (L:List Bool):falses L≤L.length:=List.countP_le_length
theorem falses_set:∀(L:List Bool) (q:Nat),q<L.length→L.getD q false=false→falses (L.set q true)+1=falses L
 | [],_,h,_=>by cases h
 | x::L,0,_,h=>by
   have:x=false:=by simpa using h
   subst this;simp[falses]
 | x::L,q+1,h,h2=>by have ih:=falses_set L q (by simpa using h) (by simpa using h2);unfold falses at *;simp only[List.set_cons_succ,List.countP_cons];omega
def LvOk (n F:Nat)(st:List Bool × Bool):Prop:=st.1.length=n∧falses st.1≤F∧(st.2=true→falses st.1+1≤F)
theorem aliveCell_ok {n F q tq:Nat}{st:List Bool × Bool}(h:LvOk n F st)(hq:q<n):LvOk n F (aliveCell q st tq):=by
 unfold aliveCell;split
 ·rename_i hc;obtain⟨h1,h2,h3⟩:=h;have h4:st.1.getD q false=false:=by simp at hc;simpa using hc.1
  have:=falses_set st.1 q (by omega) h4;exact⟨by simpa using h1,by simp only;omega,fun _=>by simp only;omega⟩
 ·exact h
theorem aliveFold_ok {n F q:Nat}:∀(row:List Nat) {st:List Bool × Bool},LvOk n F st→q<n→LvOk n F (row.foldl (aliveCell q) st)
 | [],_,h,_=>h
 | _::row,_,h,hq=>aliveFold_ok row (aliveCell_ok h hq) hq
theorem alivePass_append (q:Nat)(st:List Bool × Bool):∀(l m:List (List Nat)),alivePass (l++m) q st=alivePass m (q+l.length) (alivePass l q st)
 | [],m=>by simp[alivePass]
 | row::l,m=>by rw[List.cons_append,alivePass,alivePass_append (q+1) _ l m,alivePass];simp only[List.length_cons];congr 1;omega
theorem alivePass_take (next:List (List Nat))(k:Nat)(h:k<next.length)(st:List Bool × Bool):alivePass (next.take (k+1)) 0 st=next[k].foldl (aliveCell k) (alivePass (next.take k) 0 st):=by
 rw[List.take_succ_eq_append_getElem h,alivePass_append];have:(next.take k).length=k:=by simp;omega
 rw[this,alivePass,alivePass,aliveRow,Nat.zero_add]
theorem fold_take {α β:Type}(f:β→α→β)(b:β)(l:List α)(k:Nat)(h:k<l.length):(l.take (k+1)).foldl f b=f ((l.take k).foldl f b) l[k]:=by rw[List.take_succ_eq_append_getElem h,List.foldl_append];rfl
end Pv
namespace Go.Proofs.YtamkfdlcdiadlaaGreatDoor
open Go.RowKit
variable {H:Nat→Prop}
structure LvAt (H:Nat→Prop)(w0:World)(n:Nat)(at_:Nat→Nat)(d g cap:Nat)(hv nv yv a b c:Value)(w:World)(L:List Bool):Prop where
 keep:Keep (· = d) w0 w
 d:w.heap[d]?=some (.cells (dfaCells at_ hv nv yv [a,b,c,.slice (some ⟨g,0,none⟩) n cap]) 205)
 ge:w0.heap.size≤g
 len:L.length=n
 row:∃cur:Array Value,w.heap[g]?=some (.cells cur 4)∧cur.toList.take n=L.map .bool∧n≤cap∧cap≤maxLen∧cur.size=cap
theorem LvAt.cell {w0 w:World}{n d g cap:Nat}{at_:Nat→Nat}{hv nv yv a b c:Value}{L:List Bool}(h:LvAt H w0 n at_ d g cap hv nv yv a b c w L){q:Nat}(hq:q<n):w.cell? ⟨g,q,none⟩=some (.bool (L.getD q false))∧w.frozen? ⟨g,q,none⟩=false:=by
 obtain⟨cur,h1,h2,h3,_⟩:=h.row;refine⟨cB h1 ?_,fob h1⟩;have:(cur.toList.take n)[q]?=(L.map Value.bool)[q]?:=by rw[h2]
 rw[List.getElem?_take,if_pos hq]at this;rw[←Array.getElem?_toList,this,List.getElem?_map];have:=h.len;rw[List.getD_eq_getElem?_getD,List.getElem?_eq_getElem (by omega)];rfl
theorem LvAt.live {w0 w:World}{n d g cap:Nat}{at_:Nat→Nat}{hv nv yv a b c:Value}{L:List Bool}(h:LvAt H w0 n at_ d g cap hv nv yv a b c w L):w.cell? ⟨d,262,none⟩=some (.slice (some ⟨g,0,none⟩) n cap):=
 cB h.d (dfa_get _ _ _ _ _ 6)
theorem LvAt.set {w0 w:World}{n d g cap:Nat}{at_:Nat→Nat}{hv nv yv a b c:Value}{L:List Bool}(h:LvAt H w0 n at_ d g cap hv nv yv a b c w L){q:Nat}(hq:q<n)(hd:d<w0.heap.size):LvAt H w0 n at_ d g cap hv nv yv a b c (w.setCell ⟨g,q,none⟩ (.bool true)) (L.set q true):=by
 obtain⟨cur,h1,h2,h3,h4,h5⟩:=h.row;have hge:=h.ge;have hl:=h.len;refine⟨h.keep.trans_ (H1:=fun k=>k=g) (Keep.set rfl) (fun x e=> .inr (by omega)),keep_set h.d (by omega),hge,by simpa using hl,_,blk_set h1,?_,h3,h4,by simpa using h5⟩;rw[Array.toList_setIfInBounds,List.take_set,h2,List.map_set]
theorem LvAt.drew {w0 w:World}{n d g cap:Nat}{at_:Nat→Nat}{hv nv yv a b c:Value}{L:List Bool}(h:LvAt H w0 n at_ d g cap hv nv yv a b c w L):LvAt H w0 n at_ d g cap hv nv yv a b c w.drew L:=
 ⟨h.keep.trans (Keep.drew _),h.d,h.ge,h.len,h.row⟩
def falsesIn (w:World)(g n:Nat):Nat:=match w.heap[g]? with
 | some (.cells cs _ _)=>(cs.toList.take n).countP fun v=>match v with | .bool false=>true|_=>false
 | _=>0
theorem LvAt.falses {w0 w:World}{n d g cap:Nat}{at_:Nat→Nat}{hv nv yv a b c:Value}{L:List Bool}(h:LvAt H w0 n at_ d g cap hv nv yv a b c w L):falsesIn w g n=Pv.falses L:=by obtain⟨cur,h1,h2,_⟩:=h.row;unfold falsesIn;rw[h1];simp only[h2,List.countP_map];unfold Pv.falses;congr 1;funext b;cases b<;>rfl
theorem rows_cells {w:World}{D:Pv.Dfa}(hD:D.Ok){nv:Value}{rs:List Value}(h2:SlH H w nv rs)(h3:RowsAt H w rs D.next):∃nb no nc,nv = .slice (some ⟨nb,no,none⟩) D.yes.length nc∧¬H nb ∧
  ∀k (hk:k<D.next.length),∃rb ro rc,w.cell? ⟨nb,no+k,none⟩=some (.slice (some ⟨rb,ro,none⟩) D.next[k].length rc)∧¬H rb∧∀j (hj:j<D.next[k].length),w.cell? ⟨rb,ro+j,none⟩=some (.int .i64 (D.next[k][j]:Nat)):=by
 obtain⟨na,nc,rfl,hs,hn⟩:=h2;obtain⟨hl,hr⟩:=h3;have hlen:=hD.len;have hp:=hD.pos;obtain⟨nb,no,rfl,hc0⟩:=hs.cell 0 (by omega);refine⟨nb,no,nc,by rw[hl,hD.len],(hn _ _ rfl).1,fun k hk => ?_⟩;obtain⟨rv,hrv,⟨a2,c2,e2,hs2,hn2⟩⟩:=hr k _ (List.getElem?_eq_getElem hk);have hrow:=(hD.row _ (List.getElem_mem hk)).1;obtain⟨rb,ro,rfl,hr0⟩:=hs2.cell 0 (by have:=hD.pp;simp;omega)
 obtain⟨nb',no',e',hck⟩:=hs.cell k (by omega);cases e';refine⟨rb,ro,c2,?_,(hn2 _ _ rfl).1,fun j hj => ?_⟩
 ·rw[List.getElem?_eq_getElem (by omega)]at hrv;injection hrv with hrv
  rw[hck,hrv,e2,List.length_map]
 ·obtain⟨b',o',e',hcj⟩:=hs2.cell j (by simpa using hj);cases e';rw[hcj,List.getElem_map]
set_option maxRecDepth 20000 in
set_option maxHeartbeats 4000000 in
theorem alive_any (D:Pv.Dfa)(hD:D.Ok)(d:Nat)(hv nv yv a b c lv0:Value)(rs:List Value)(w:World)(hd:H d)
  (h1:w.heap[d]?=some (.cells (dfaCells (Pv.indexOf D.parts) hv nv yv [a,b,c,lv0]) 205)) (h2:SlH H w nv rs) (h3:RowsAt H w rs D.next) (h4:SlH H w yv (D.yes.map .bool)) (hn:D.yes.length<549755813888):
  Calls Tryz.prog 234 #[Ptr d] w fun e w'=>e = .returned (.tuple #[])∧∃g cap,LvAt H w D.yes.length (Pv.indexOf D.parts) d g cap hv nv yv a b c w' D.live:=by
 obtain⟨ya,yc,rfl,hys,_⟩:=h4;have x0:=cB h1 (dfa_yes_ (at_:=Pv.indexOf D.parts));have hlt:=blk_lt h1;have H1:=Hy h1;have H2:=Hy h2;have H3:=Hy h3;have HY:=Hy hys;have HD:=Hy hD;have hpos:=hD.pos;have hnl:=hD.len;obtain⟨nb,no,nc,hnv,hnb,hrows⟩:=rows_cells hD h2 h3;have HRows:=Hy hrows;have HNV:=Hy hnv;clear hrows hnv;obtain⟨i0,hi,hz0,hz1,hz2⟩:=info_parts info_bool;clear h1 h2 h3 hys hD
 go_enter Tryz.func234,Tryz.ntmps234;go_wp2_with (at_builtin;refine appS 193 4 i0 _ 1 Tryz.underlying193 hi hz0 hz1 hz2 rfl (by omega) rfl _ _ rfl w.heap.size _ [] rfl (Row.nil _ _ _) _ _ _ (D.yes.map .bool) (by simp) rfl HY.out ?c1 ?c2 (Nat.le_refl _) ?c3)
 case c1=>intro u hu;obtain⟨b,_,rfl⟩:=List.mem_map.1 hu;rfl
 case c2=>simp;omega
 case c3=>
  intro v4 w4 hr4 hb4 hg4;have hd4:=later_blk hb4 H1.out;have y0:=cB (o:=262) hd4 (dfa_get _ _ _ _ _ 6);have y1:=fob (o:=262) hd4;have hset:=blk_set (o:=262) (v:=v4) hd4;rw[show(262:Nat)=256+6 from rfl,dfa_set]at hset;rcases hr4.blk with⟨_,e⟩|⟨g,cap,cur,rfl,hge,hh,hnn,hcp,hsz,htk⟩
  ·have:=congrArg List.length e;rw[List.length_map,List.length_nil]at this;omega
  have hL:LvAt H w D.yes.length (Pv.indexOf D.parts) d g cap hv nv (.slice ya (List.map Value.bool D.yes).length yc) a b c (w4.setCell ⟨d,262,none⟩ (.slice (some ⟨g,0,none⟩) (List.map Value.bool D.yes).length cap)) D.yes:={
   keep:=(Keep.of_below hb4).trans (Keep.set rfl)
   d:=by rw[List.length_map]at hset ⊢;exact hset
   ge:=hge
   len:=rfl
   row:=⟨cur,keep_set hh (by omega),by simpa using htk,by simpa using hnn,hcp,by simpa using hsz⟩ }
  have HL:=Hy hL;clear hr4 hb4 hg4 hd4 hset hh htk hL hnn hcp hsz;simp only[List.length_map]at *;go_wp2_with fail;generalize w4.setCell ⟨d,262,none⟩ (.slice (some ⟨g,0,none⟩) D.yes.length cap)=w5 at *;clear y0 y1
  go_loopw [2] (fun v wr=>∃(m:Bool) (L:List Bool),v = .bool m∧Hid (LvAt H w D.yes.length (Pv.indexOf D.parts) d g cap hv nv (.slice ya D.yes.length yc) a b c wr L)∧Hid (if m then ∃f,Pv.falses L<f∧Pv.aliveGo D.next f L=D.live else L=D.live))
   (fun v wr=>falsesIn wr g D.yes.length+match v with | .bool true=>1|_=>0)
  case atStart=>exact⟨true,D.yes,rfl,HL.out,_,Nat.lt_succ_of_le (Pv.falses_le _),rfl⟩
  case round=>
   obtain⟨m,L,rfl,HL1,HG⟩:=hrel;cases m with
   | false=>
     have hg:=HG.out;simp only[Bool.false_eq_true,if_false]at hg;subst hg;go_wp2_with fail;go_end0;exact⟨rfl,g,cap,HL1.out⟩
   | true=>
     have hg:=HG.out;simp only[if_true]at hg;obtain⟨f,hf,hgo⟩:=hg;have HF:=Hy hf;have HGo:=Hy hgo;have x1:=cB (o:=257) HL1.out.d dfa_next_;rw[HNV.out]at x1;clear hf hgo;go_wp2_with fail;clear x1;go_loopw [2,21] (fun v i wi=>∃(k:Nat) (m:Bool) (L2:List Bool),k≤D.yes.length∧v = .bool m∧i = .int .i64 k∧Hid (LvAt H w D.yes.length (Pv.indexOf D.parts) d g cap hv nv (.slice ya D.yes.length yc) a b c wi L2) ∧
      Hid (Pv.alivePass (D.next.take k) 0 (L,false)=(L2,m))∧Hid (Pv.LvOk D.yes.length (Pv.falses L) (L2,m))) (fun _ i _=>(D.yes.length-intOf i).toNat)
     case atStart=>exact⟨0,false,L,by omega,rfl,rfl,HL1.out,rfl,HL1.out.len,Nat.le_refl _,fun h=>by cases h⟩
     case round=>
      obtain⟨k,m,L2,hk,rfl,rfl,HL2,HP,HO⟩:=hrel;by_cases hkn:k<D.yes.length
      ·have hkn':(k:Int)<D.yes.length:=by omega
       obtain⟨rb,ro,rc,z0,hrb,hz⟩:=HRows.out k (by omega);have z1:=HL2.out.keep.cell (fun e=>hnb (by rw[e];exact hd)) z0;have hrow:=HD.out.row _ (List.getElem_mem (show k<D.next.length by omega));have htk:=Pv.alivePass_take D.next k (by omega) (L,false);rw[HP.out]at htk;have HTk:=Hy htk;have HZ:=Hy hz;have hrl:D.next[k].length≤256:=by rw[hrow.1];exact HD.out.p256
       have HRow:=Hy hrow.2;clear z0 hz htk hrow;generalize D.next[k]=row at *;go_wp2_with fail;clear z1;go_loopw [2,28] (fun v i wj=>∃(j:Nat) (m':Bool) (L3:List Bool),j≤row.length∧v = .bool m'∧i = .int .i64 j∧Hid (LvAt H w D.yes.length (Pv.indexOf D.parts) d g cap hv nv (.slice ya D.yes.length yc) a b c wj L3) ∧
        Hid ((row.take j).foldl (Pv.aliveCell k) (L2,m)=(L3,m'))∧Hid (Pv.LvOk D.yes.length (Pv.falses L) (L3,m'))) (fun _ i _=>(row.length-intOf i).toNat)
       case atStart=>exact⟨0,m,L2,by omega,rfl,rfl,HL2.out,rfl,HO.out⟩
       case round=>
        obtain⟨j,m3,L3,hj,rfl,rfl,HL3,HP3,HO3⟩:=hrel;by_cases hjn:j<row.length
        ·have hjn':(j:Int)<row.length:=by omega
         have z2:=HL3.out.keep.cell (fun e=>hrb (by rw[e];exact hd)) (HZ.out j hjn);have htq:=HRow.out _ (List.getElem_mem hjn);have htk:=Pv.fold_take (Pv.aliveCell k) (L2,m) row j hjn;rw[HP3.out]at htk;have hok:=Pv.aliveCell_ok (tq:=row[j]) HO3.out hkn;generalize row[j]=tq at *;have z3:=HL3.out.live;obtain⟨z4,z5⟩:=HL3.out.cell hkn;obtain⟨z6,_⟩:=HL3.out.cell htq;have htq':(tq:Int)<D.yes.length:=by omega
         unfold Pv.aliveCell at htk hok;have HTk3:=Hy htk;have HOk:=Hy hok;clear htk hok;cases hx:L3.getD k false with
         | true=>
           rw[hx]at z4;have htk:=HTk3.out;have hok:=HOk.out;simp only[hx,Bool.not_true,Bool.false_and,Bool.false_eq_true,if_false]at htk hok;have Htk:=Hy htk;clear hx htk HTk3;go_wp2_with fail;go_roundw
           case rel=>exact⟨j+1,m3,L3,by omega,rfl,by go_num,HL3.out,Htk.out,HO3.out⟩
           case measure=>simp[intOf];omega
         | false=>
           cases hy:L3.getD tq false with
           | false=>
             rw[hx]at z4;rw[hy]at z6;have htk:=HTk3.out;simp only[hx,hy,Bool.not_false,Bool.true_and,Bool.false_eq_true,if_false]at htk;have Htk:=Hy htk;clear hx hy htk HTk3;go_wp2_with fail;go_roundw
             case rel=>exact⟨j+1,m3,L3,by omega,rfl,by go_num,HL3.out,Htk.out,HO3.out⟩
             case measure=>simp[intOf];omega
           | true=>
             rw[hx]at z4;rw[hy]at z6;have htk:=HTk3.out;have hok:=HOk.out;simp only[hx,hy,Bool.not_false,Bool.true_and,if_true]at htk hok;have Htk:=Hy htk;have Hok:=Hy hok;clear hx hy htk HTk3 hok;go_wp2_with fail;go_roundw
             case rel=>exact⟨j+1,true,L3.set k true,by omega,rfl,by go_num,HL3.out.set hkn hlt,Htk.out,Hok.out⟩
             case measure=>simp[intOf];omega
        ·have e:j=row.length:=by omega
         subst e;have hp3:=HP3.out;rw[List.take_length]at hp3;have Hp3:=Hy hp3;clear hp3;go_wp2_with fail;go_roundw
         case rel=>exact⟨k+1,m3,L3,by omega,rfl,by go_num,HL3.out,HTk.out.trans Hp3.out,HO3.out⟩
         case measure=>simp[intOf];omega
      ·have e:k=D.yes.length:=by omega
       subst e;have hp:=HP.out;rw[List.take_of_length_le (by omega)]at hp;have Hp:=Hy hp;have hfl:=HL2.out.falses;have hfl1:=HL1.out.falses;clear hp;go_wp2_with fail;go_roundw
       case rel=>
        refine⟨m,L2,rfl,HL2.out,?_⟩;show if m=true then _ else _
        have hf:=HF.out;have hgo:=HGo.out;obtain⟨o1,o2,o3⟩:=HO.out;simp only at o1 o2 o3;obtain⟨f,rfl⟩:∃f',f=f'+1:=⟨f-1,by omega⟩
        rw[Pv.aliveGo]at hgo;simp only[Hp.out]at hgo;cases m with
        | true=>
          simp only[if_true]at hgo ⊢;exact⟨f,by have:=o3 rfl;omega,hgo⟩
        | false=>simpa using hgo
       case measure=>
        obtain⟨o1,o2,o3⟩:=HO.out;simp only at o1 o2 o3;rw[hfl,hfl1];cases m with
        | true=>have:=o3 rfl;simp only;omega
        | false=>simp only;omega
end Go.Proofs.YtamkfdlcdiadlaaGreatDoor
namespace Go.Proofs.YtamkfdlcdiadlaaGreatDoor
open Go.RowKit
variable {H:Nat→Prop}
theorem disable (w:World):(callFunc 257 #[]).run Tryz.prog w = .ok (.value (.tuple #[])) w:=run_call_mark0 Tryz.func257 (by kernel_rfl) (by kernel_rfl) (by kernel_rfl) .disable (by kernel_rfl) w
theorem enable (w:World):(callFunc 259 #[]).run Tryz.prog w = .ok (.value (.tuple #[])) w:=run_call_mark0 Tryz.func259 (by kernel_rfl) (by kernel_rfl) (by kernel_rfl) .enable (by kernel_rfl) w
theorem acquire (a:Addr)(w:World):(callFunc 260 #[.pointer (some a)]).run Tryz.prog w = .ok (.value (.tuple #[])) w:=run_call_marked Tryz.func260 (by kernel_rfl) (by kernel_rfl) (by kernel_rfl) .acquire (by kernel_rfl) a w
theorem releaseMerge (a:Addr)(w:World):(callFunc 262 #[.pointer (some a)]).run Tryz.prog w = .ok (.value (.tuple #[])) w:=run_call_marked Tryz.func262 (by kernel_rfl) (by kernel_rfl) (by kernel_rfl) .releaseMerge (by kernel_rfl) a w
theorem bload_any (b off:Nat)(v:Int)(w:World)(h:w.cell? ⟨b,off,none⟩=some (.int .u32 v)):Pure 245 #[.pointer (some ⟨b,off,none⟩)] w (.bool (v != 0)):=by have hl:=run_call_load (P:=Tryz.prog) Tryz.func249 (by kernel_rfl) (by kernel_rfl) (by kernel_rfl) .u32 (by kernel_rfl) h;go_enter Tryz.func245,Tryz.ntmps245;go_wp2_with fail;go_ret;exact⟨rfl,rfl⟩
theorem store_deferred (b off:Nat)(x:Value)(u:FrameMode)(w:World)(hc:w.cell? ⟨b,off,none⟩=some x)(hz:w.frozen? ⟨b,off,none⟩=false):
  CallsD Tryz.prog 252 #[.pointer (some ⟨b,off,none⟩),.bool true] u w fun e u' w'=>u'=u∧(e = .returned (.tuple #[])∧w'=w.drew.setCell ⟨b,off,none⟩ (.int .u32 1)):=by
 have hc':w.drew.cell? ⟨b,off,none⟩=some x:=by go_simp
 have hz':w.drew.frozen? ⟨b,off,none⟩=false:=by go_simp
 have hst:=run_call_store (P:=Tryz.prog) Tryz.func255 (by kernel_rfl) (by kernel_rfl) (by kernel_rfl) (by kernel_rfl) (k:= .u32) (y:=1) hc' hz';go_enter_d Tryz.func252,Tryz.ntmps252;go_wp2;go_region_calls;all_goals (go_end0;exact⟨rfl,rfl⟩)
set_option maxRecDepth 20000 in
theorem iunlock_any (b off:Nat)(w:World)(hc:w.cell? ⟨b,off,none⟩=some (.int .i32 1))(hz:w.frozen? ⟨b,off,none⟩=false):
  Calls Tryz.prog 254 #[.pointer (some ⟨b,off,none⟩)] w fun e w'=>e = .returned (.tuple #[])∧w'=w.setCell ⟨b,off,none⟩ (.int .i32 0):=by
 have hd:=disable;have he:=enable;have hr:=releaseMerge;have hadd:=run_call_add (P:=Tryz.prog) Tryz.func263 (by kernel_rfl) (by kernel_rfl) (by kernel_rfl) .i32 (by kernel_rfl) (y := -1) (s:=0) hc hz (by simp[go_sem];rfl);have hcv:=run_convert_to_unsafe (P:=Tryz.prog) (src:=342) (dst:=303) Tryz.underlying342 Tryz.underlying303 (by kernel_rfl) hc;go_enter Tryz.func254,Tryz.ntmps254;go_wp2;go_end0
 go_wp2
theorem unlock_deferred (b off:Nat)(u:FrameMode)(w:World)(hc:w.cell? ⟨b,off,none⟩=some (.int .i32 1))(hz:w.frozen? ⟨b,off,none⟩=false):
  CallsD Tryz.prog 251 #[.pointer (some ⟨b,off,none⟩)] u w fun e u' w'=>u'=u∧(e = .returned (.tuple #[])∧w'=w.setCell ⟨b,off,none⟩ (.int .i32 0)):=by
 have hi:=iunlock_any b off w hc hz;go_enter_d Tryz.func251,Tryz.ntmps251;go_wp2_with fail;refine hi.mono ?_;rintro e w' ⟨rfl,rfl⟩;go_wp2_with fail;go_end0;exact⟨rfl,rfl⟩
set_option maxRecDepth 20000 in
theorem ilock_free (b off:Nat)(w:World)(hc:w.cell? ⟨b,off,none⟩=some (.int .i32 0))(hz:w.frozen? ⟨b,off,none⟩=false):
  Calls Tryz.prog 253 #[.pointer (some ⟨b,off,none⟩)] w fun e w'=>e = .returned (.tuple #[])∧w'=w.setCell ⟨b,off,none⟩ (.int .i32 1):=by
 have hd:=disable;have he:=enable;have ha:=acquire;have hcas:=run_call_cas_hit (P:=Tryz.prog) Tryz.func258 (by kernel_rfl) (by kernel_rfl) (by kernel_rfl) .i32 (by kernel_rfl) (y:=1) hc hz;have hc':(w.setCell ⟨b,off,none⟩ (.int .i32 1)).cell? ⟨b,off,none⟩=some (.int .i32 1):=World.cell?_setCell_same w ⟨b,off,none⟩ _ hc
 have hcv:=run_convert_to_unsafe (P:=Tryz.prog) (src:=342) (dst:=303) Tryz.underlying342 Tryz.underlying303 (by kernel_rfl) hc';go_enter Tryz.func253,Tryz.ntmps253;go_wp2;first|go_end0|(simp only[Exit.inBlock,Exit.then];refine bodyPost_ret (results_none rfl _ _ _) rfl ?_)|refine bodyPost_ret (results_none rfl _ _ _) rfl ?_
 go_wp2
theorem lock_free (b off:Nat)(w:World)(hc:w.cell? ⟨b,off,none⟩=some (.int .i32 0))(hz:w.frozen? ⟨b,off,none⟩=false):
  Calls Tryz.prog 250 #[.pointer (some ⟨b,off,none⟩)] w fun e w'=>e = .returned (.tuple #[])∧w'=w.setCell ⟨b,off,none⟩ (.int .i32 1):=by
 have hi:=ilock_free b off w hc hz;go_enter Tryz.func250,Tryz.ntmps250;go_wp2_with fail;refine hi.mono ?_;rintro e w' ⟨rfl,rfl⟩;go_wp2_with fail;go_end0;exact⟨rfl,rfl⟩
end Go.Proofs.YtamkfdlcdiadlaaGreatDoor
