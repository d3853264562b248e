/- A Dfa in memory. -/
import Derived.Test.YtamkfdlcdiadlaaGreatDoorKb16
import Derived.Test.YtamkfdlcdiadlaaGreatDoorKb17
set_option linter.all false
namespace Go.Proofs.YtamkfdlcdiadlaaGreatDoor
open Go.RowKit Go.Maps
variable {H:Nat→Prop}
def SlH (H:Nat→Prop)(w:World)(v:Value)(vs:List Value):Prop:=∃a c,v = .slice a vs.length c∧Sl w a c vs∧∀blk off,a=some ⟨blk,off,none⟩→¬H blk∧blk<w.heap.size
theorem SlH.keep {w w':World}{v:Value}{vs:List Value}(h:SlH H w v vs){H':Nat→Prop}(hk:Keep H' w w')(hH:∀k,H' k→H k∨w.heap.size≤k):SlH H w' v vs:=by
 obtain⟨a,c,e,hs,hn⟩:=h;refine⟨a,c,e,⟨hs.1,hs.2,fun i hi => ?_⟩,fun blk off q=>⟨(hn blk off q).1,Nat.lt_of_lt_of_le (hn blk off q).2 hk.size⟩⟩;obtain⟨blk,off,q,hc⟩:=hs.3 i hi;refine⟨blk,off,q,hk.cell (fun h => ?_) hc⟩;have:=hn _ _ q;rcases hH _ h with h|h
 ·exact this.1 h
 ·omega
theorem SlH.widen {w:World}{v:Value}{vs:List Value}(h:SlH H w v vs){H':Nat→Prop}(hH:∀k,H' k→H k∨w.heap.size≤k):SlH H' w v vs:=by
 obtain⟨a,c,e,hs,hn⟩:=h;refine⟨a,c,e,hs,fun blk off q=>⟨fun h => ?_,(hn blk off q).2⟩⟩;have:=hn _ _ q;rcases hH _ h with h|h
 ·exact this.1 h
 ·omega
theorem SlH.of_row {N0 e:Nat}{w:World}{v:Value}{vs:List Value}(h:Row N0 e w v vs)(hH:∀k,H k→k<N0):SlH H w v vs:=by
 rcases h.blk with⟨rfl,rfl⟩|⟨g,cap,cur,rfl,hg,hh,hn,_⟩
 ·exact⟨none,0,rfl,Sl.nil _,fun _ _ q=>by cases q⟩
 ·obtain⟨a,c,e1,hs,_⟩:=h.form;injection e1 with e1 _ e3
  subst e1;subst e3;exact⟨_,_,rfl,hs,fun blk off q=>by cases q;exact⟨fun h=>by have:=hH _ h;omega,blk_lt hh⟩⟩
abbrev intV (n:Nat):Value:= .int .i64 (n:Int)
abbrev byteV (b:UInt8):Value:= .int .u8 (b.toNat:Int)
def RowsAt (H:Nat→Prop)(w:World)(rs:List Value)(next:List (List Nat)):Prop:=rs.length=next.length∧∀(q:Nat) (row:List Nat),next[q]?=some row→∃rv,rs[q]?=some rv∧SlH H w rv (row.map intV)
def RestAt (H:Nat→Prop)(w:World)(D:Pv.Dfa)(rest:List Value):Prop:=
 rest=[.int .u32 0,.int .i32 0,.int .u32 0,.slice none 0 0]∨∃lv,rest=[.int .u32 1,.int .i32 0,.int .u32 0,lv]∧SlH H w lv (D.live.map .bool)
def DfaAt (H:Nat→Prop)(w:World)(D:Pv.Dfa)(d:Nat):Prop:=∃hv nv yv rest rs,
 w.heap[d]?=some (.cells (dfaCells (Pv.indexOf D.parts) hv nv yv rest) 205)∧SlH H w hv (D.heads.map byteV)∧SlH H w nv rs∧RowsAt H w rs D.next∧SlH H w yv (D.yes.map .bool)∧RestAt H w D rest
theorem DfaAt.lt {w:World}{D:Pv.Dfa}{d:Nat}(h:DfaAt H w D d):d<w.heap.size:=by obtain⟨_,_,_,_,_,h,_⟩:=h;exact blk_lt h
theorem DfaAt.keep {w w':World}{D:Pv.Dfa}{d:Nat}(h:DfaAt H w D d){H':Nat→Prop}(hk:Keep H' w w')(hH:∀k,H' k→H k∨w.heap.size≤k)(hd:¬H' d):DfaAt H w' D d:=by
 obtain⟨hv,nv,yv,rest,rs,h1,h2,h3,h4,h5,h6⟩:=h;refine⟨hv,nv,yv,rest,rs,hk.blk hd h1,h2.keep hk hH,h3.keep hk hH,⟨h4.1,fun q row hq => ?_⟩,h5.keep hk hH,?_⟩
 ·obtain⟨rv,r1,r2⟩:=h4.2 q row hq;exact⟨rv,r1,r2.keep hk hH⟩
 ·rcases h6 with h6|⟨lv,h6,h7⟩
  ·exact .inl h6
  ·exact .inr ⟨lv,h6,h7.keep hk hH⟩
theorem DfaAt.later {w w':World}{D:Pv.Dfa}{d:Nat}(h:DfaAt H w D d)(hb:Below w.heap.size w w'):DfaAt H w' D d:=
 h.keep (H':=fun _=>False) (Keep.of_below hb) (fun _ h=>h.elim) (fun h=>h.elim)
theorem DfaAt.widen {w:World}{D:Pv.Dfa}{d:Nat}(h:DfaAt H w D d){H':Nat→Prop}(hH:∀k,H' k→H k∨w.heap.size≤k):DfaAt H' w D d:=by
 obtain⟨hv,nv,yv,rest,rs,h1,h2,h3,h4,h5,h6⟩:=h;refine⟨hv,nv,yv,rest,rs,h1,h2.widen hH,h3.widen hH,⟨h4.1,fun q row hq => ?_⟩,h5.widen hH,?_⟩
 ·obtain⟨rv,r1,r2⟩:=h4.2 q row hq;exact⟨rv,r1,r2.widen hH⟩
 ·rcases h6 with h6|⟨lv,h6,h7⟩
  ·exact .inl h6
  ·exact .inr ⟨lv,h6,h7.widen hH⟩
theorem BSt.reH {H':Nat→Prop}{N0 bb B3 Bk M Ba Bd D:Nat}{at_:Nat→Nat}{hv nv:Value}{rest:List Value}{w:World}{ps:List (Nat × Pv.R)}{av yv:Value}{l u:Nat}(h:BSt H N0 bb B3 Bk M Ba Bd D at_ hv nv rest w ps av yv l u)
  (hH:∀k,H' k→H k∨w.heap.size≤k) (hb:H' bb∧H' M∧H' Ba∧H' D):BSt H' N0 bb B3 Bk M Ba Bd D at_ hv nv rest w ps av yv l u:=
 ⟨h.b3,h.bk,h.ba,h.bd,h.d,h.m,h.all,h.yes,fun y hy=>(h.pr y hy).widen fun k hk=>by
  rcases hk with hk|hk|hk
  ·rcases hH k hk with h|h
   ·exact .inl (.inl h)
   ·exact .inr h
  ·exact .inl (.inr (.inl hk))
  ·exact .inl (.inr (.inr hk)),h.bud,hb,h.st⟩
end Go.Proofs.YtamkfdlcdiadlaaGreatDoor
namespace Go.Proofs.YtamkfdlcdiadlaaGreatDoor
open Go.RowKit Go.Maps
variable {H:Nat→Prop}
def ended (parts:List Pv.S4)(G:Nat × Option (List Pv.R × List (List Nat))):Nat × Option Pv.Dfa:=match G with
 | (l,none)=>(l,none)
 | (l,some (all,next))=>(l,some ⟨parts,next,all.map Pv.null⟩)
theorem build_ended {r:Pv.R}{l l1 q1:Nat}{all:List Pv.R}(h:Pv.stateOf r [] l=some (all,l1,q1)):Pv.build r l=ended (Pv.refine (Pv.allSets r)) (Pv.buildGo ((Pv.refine (Pv.allSets r)).map Pv.Dfa.head) (l+2) 0 all l1 []):=by unfold Pv.build ended;simp only[h];generalize Pv.buildGo _ _ _ _ _ _=G;obtain⟨l,o⟩:=G;cases o<;>rfl
abbrev rest0:List Value:=[.int .u32 0,.int .i32 0,.int .u32 0,.slice none 0 0]
theorem BSt.turn_ty {N0 bb B3 Bk M Ba Bd D:Nat}{at_:Nat→Nat}{hv nv:Value}{rest:List Value}{w:World}{ps:List (Nat × Pv.R)}{av yv:Value}{l u:Nat}(h:BSt H N0 bb B3 Bk M Ba Bd D at_ hv nv rest w ps av yv l u)
  {k:Nat} (hk:turns bb M Ba D av yv k) {cs:Array Value} {t:TypeId} {fr:Nat × Nat} (hc:w.heap[k]?=some (.cells cs t fr)):
  t∈[113,101,205,59,4]:=by
 have one:∀ {c2:Array Value} {t2:TypeId} {f2:Nat × Nat},w.heap[k]?=some (.cells c2 t2 f2)→t=t2:=fun h2=>by rw[h2]at hc;injection hc with hc;injection hc with _ h _;exact h.symm
 rcases hk with rfl|rfl|rfl|rfl|hk|hk
 ·simp[one h.bud.2]
 ·obtain⟨es,cl,h1,_⟩:=h.m;rw[h1]at hc;cases hc
 ·simp[one h.ba]
 ·simp[one h.d]
 ·obtain⟨c2,h2⟩:=h.all.ty hk;simp[one h2]
 ·obtain⟨c2,h2⟩:=h.yes.ty hk;simp[one h2]
def NextAt (X:Nat→Prop)(N0:Nat)(w:World)(rs:List Value)(next:List (List Nat)):Prop:=rs.length=next.length∧∀(q:Nat) (row:List Nat),next[q]?=some row→∃g,rs[q]?=some (.slice (some ⟨g,0,none⟩) row.length row.length) ∧
 w.heap[g]?=some (.cells (row.map intV).toArray 3)∧N0≤g∧¬X g
theorem NextAt.keep {X Y:Nat→Prop}{N0:Nat}{w w':World}{rs:List Value}{next:List (List Nat)}(h:NextAt X N0 w rs next)(hk:Keep Y w w')(hY:∀k,Y k→∀(cs:Array Value) (fr:Nat × Nat),w.heap[k]?=some (.cells cs 3 fr)→X k):NextAt X N0 w' rs next:=
 ⟨h.1,fun q row hq=>by obtain⟨g,h1,h2,h3,h4⟩:=h.2 q row hq;exact⟨g,h1,hk.blk (fun hy=>h4 (hY g hy _ _ h2)) h2,h3,h4⟩⟩
theorem NextAt.reX {X Y:Nat→Prop}{N0:Nat}{w:World}{rs:List Value}{next:List (List Nat)}(h:NextAt X N0 w rs next)(hY:∀k,k<w.heap.size→Y k→X k):NextAt Y N0 w rs next:=
 ⟨h.1,fun q row hq=>by obtain⟨g,h1,h2,h3,h4⟩:=h.2 q row hq;exact⟨g,h1,h2,h3,fun hy=>h4 (hY g (blk_lt h2) hy)⟩⟩
theorem NextAt.add {N0:Nat}{w:World}{rs:List Value}{next:List (List Nat)}(h:NextAt (fun _=>False) N0 w rs next){row:List Nat}{g:Nat}(hg:w.heap[g]?=some (.cells (row.map intV).toArray 3))(hN:N0≤g):
  NextAt (fun _=>False) N0 w (rs++[.slice (some ⟨g,0,none⟩) row.length row.length]) (next++[row]):=
 ⟨by simp[h.1],fun q row' hq=>by
  by_cases e:q<next.length
  ·rw[List.getElem?_append_left e]at hq;obtain⟨g',h1,h2⟩:=h.2 q row' hq;exact⟨g',by rw[List.getElem?_append_left (by rw[h.1];exact e)];exact h1,h2⟩
  ·rw[List.getElem?_append_right (by omega)]at hq;have e0:q-next.length=0:=by
    cases hk:q-next.length with
    | zero=>rfl
    | succ k=>rw[hk]at hq;simp at hq
   rw[e0]at hq;simp at hq;subst hq;exact⟨g,by rw[List.getElem?_append_right (by rw[h.1];omega),h.1,e0];rfl,hg,hN,fun h=>h⟩⟩
structure L2 (H:Nat→Prop)(N0 bb B3 M D:Nat)(at_:Nat→Nat)(hv:Value)(heads:List UInt8)(l u:Nat)(w:World)(X:Nat→Prop)(q:Nat)(wr:World)(ps:List (Nat × Pv.R))(av yv nv:Value)(l':Nat)(next:List (List Nat))(rs:List Value):Prop where
 bst:BSt (fun k=>H k∨k=M∨k=M+1+1∨k=D∨nv.ownBlock=some k∨X k) N0 bb B3 (M+1) M (M+1+1) (D+1) D at_ hv nv rest0 wr ps av yv l' (u+(l-l'))
 nrow:Row N0 212 wr nv rs
 nxt:NextAt X N0 wr rs next
 hrow:Row N0 5 wr hv (heads.map byteV)
 cnt:ps.length+l'=l
 qle:q≤ps.length
 nlen:next.length=q
 keep:Keep (· = bb) w wr
 ge:w.heap.size≤N0∧N0≤wr.heap.size∧w.heap.size≤D∧w.heap.size≤M∧D<N0∧N0≤M
 xlt:∀k,X k→N0≤k∧k<wr.heap.size
 hlt:∀k,H k→k<w.heap.size
variable {N0 bb B3 M D:Nat}{at_:Nat→Nat}{hv:Value}{heads:List UInt8}{l u:Nat}{w:World}{X:Nat→Prop}{q:Nat}{wr:World}{ps:List (Nat × Pv.R)}{av yv nv:Value}{l':Nat}{next:List (List Nat)}{rs:List Value}
theorem L2.later (h:L2 H N0 bb B3 M D at_ hv heads l u w X q wr ps av yv nv l' next rs){w':World}(hb:Below wr.heap.size wr w'):L2 H N0 bb B3 M D at_ hv heads l u w X q w' ps av yv nv l' next rs where
 bst:=h.bst.later hb
 nrow:=h.nrow.later hb
 nxt:=h.nxt.keep (Y:=fun _=>False) (Keep.of_below hb) fun _ h=>h.elim
 hrow:=h.hrow.later hb
 cnt:=h.cnt
 qle:=h.qle
 nlen:=h.nlen
 keep:=h.keep.trans (Keep.of_below hb)
 ge:=by have:=h.ge;have:=hb.size;omega
 xlt:=fun k hk=>⟨(h.xlt k hk).1,Nat.lt_of_lt_of_le (h.xlt k hk).2 hb.size⟩
 hlt:=h.hlt
theorem L2.lts (h:L2 H N0 bb B3 M D at_ hv heads l u w X q wr ps av yv nv l' next rs):∀k,own2 (fun k=>H k∨k=M∨k=M+1+1∨k=D∨nv.ownBlock=some k∨X k) av yv k→k<wr.heap.size:=fun k hk=>by
 have hg:=h.ge;rcases hk with(hk|hk|hk|hk|hk|hk)|hk|hk
 ·have:=h.hlt k hk;omega
 ·subst hk;exact h.bst.m.lt
 ·subst hk;exact blk_lt h.bst.ba
 ·subst hk;exact blk_lt h.bst.d
 ·exact(RowK.lt h.nrow hk).2
 ·exact(h.xlt k hk).2
 ·exact(RowK.lt h.bst.all hk).2
 ·exact(RowK.lt h.bst.yes hk).2
theorem L2.turn_ge (h:L2 H N0 bb B3 M D at_ hv heads l u w X q wr ps av yv nv l' next rs){k:Nat}(hk:turns bb M (M+1+1) D av yv k):k=bb∨w.heap.size≤k:=by
 have hg:=h.ge;rcases hk with hk|hk|hk|hk|hk|hk
 ·exact .inl hk
 ·exact .inr (by omega)
 ·exact .inr (by omega)
 ·exact .inr (by omega)
 ·have:=(RowK.lt h.bst.all hk).1;exact .inr (by omega)
 ·have:=(RowK.lt h.bst.yes hk).1;exact .inr (by omega)
theorem L2.call (h:L2 H N0 bb B3 M D at_ hv heads l u w X q wr ps av yv nv l' next rs)(x:Pv.R)(bx:Nat)(hx:ReAt (own2 (fun k=>H k∨k=M∨k=M+1+1∨k=D∨nv.ownBlock=some k∨X k) av yv) wr x bx)(hs:Pv.size x<549755813888)(hps:l<1099511627776)
  (R:Ending→World→Prop) (r1:Pv.stateOf x (ps.map (·.2)) l'=none→∀w',BudAt w' bb l' (u+(l-l'))→Keep (· = bb) w w'→R (.returned (.tuple #[.int .i64 0,.int .i64 5])) w')
  (r2:∀all l2 q2 w' ps' av' yv',Pv.stateOf x (ps.map (·.2)) l'=some (all,l2,q2)→all=ps'.map (·.2)→L2 H N0 bb B3 M D at_ hv heads l u w X q w' ps' av' yv' nv l2 next rs→(∀(g:Nat) (cs:Array Value) (fr:Nat × Nat),wr.heap[g]?=some (.cells cs 3 fr)→w'.heap[g]?=some (.cells cs 3 fr)) →
   (∃ys,ps'=ps++ys)→q2<ps'.length→R (.returned (.tuple #[.int .i64 (q2:Int),.int .i64 0])) w'):
  Calls Tryz.prog 131 #[Ptr bx,Ptr (M+1),Ptr B3,Ptr (M+1+1),Ptr (D+1)] wr R:=by
 have hg:=h.ge;have hc:=h.cnt;refine(state_any h.bst hg.2.1 x bx hx hs (by omega)).mono ?_;intro e w' hpost;cases hst:Pv.stateOf x (ps.map (·.2)) l' with
 | none=>
   rw[hst]at hpost;obtain⟨rfl,h1,h2⟩:=hpost;exact r1 hst w' h1 (h.keep.trans_ h2 fun k hk=>h.turn_ge hk)
 | some t=>
   obtain⟨all,l2,q2⟩:=t;rw[hst]at hpost;obtain⟨rfl,ps',av',yv',rfl,hB,hps',hm1,hm2,hk⟩:=hpost;obtain⟨s1,⟨ys,e1,_⟩,n1,hq2,_⟩:=Pv.stateOf_spec hst h.bst.st;have hty:∀ {g:Nat} {cs:Array Value} {t:TypeId} {fr:Nat × Nat},wr.heap[g]?=some (.cells cs t fr)→t ∉ [113,101,205,59,4]→¬turns bb M (M+1+1) D av yv g:=fun hgc hn ht=>hn (h.bst.turn_ty ht hgc)
   rw[List.length_map]at hq2;simp only[List.length_map]at n1;have hle:l2≤l':=by have:=congrArg List.length e1;simp at this;omega
   refine r2 _ l2 q2 w' ps' av' yv' hst rfl ?_ (fun g cs fr hgc=>hk.blk (hty hgc (by decide)) hgc) ?_ hq2
   ·exact {
     bst:=by
      have:u+(l-l')+(l'-l2)=u+(l-l2):=by omega
      rw[←this];exact hB
     nrow:=h.nrow.keepK hk fun g e=>by obtain⟨c,hgc⟩:=h.nrow.ty e;exact hty hgc (by decide)
     nxt:=h.nxt.keep hk fun k hk2 cs fr hgc=>absurd hk2 (hty hgc (by decide))
     hrow:=h.hrow.keepK hk fun g e=>by obtain⟨c,hgc⟩:=h.hrow.ty e;exact hty hgc (by decide)
     cnt:=by omega
     qle:=by
      have:=h.qle;rcases hps' with rfl|rfl
      ·exact this
      ·simp;omega
     nlen:=h.nlen
     keep:=h.keep.trans_ hk fun k hk=>h.turn_ge hk
     ge:=by have:=hk.size;omega
     xlt:=fun k hk2=>⟨(h.xlt k hk2).1,Nat.lt_of_lt_of_le (h.xlt k hk2).2 hk.size⟩
     hlt:=h.hlt }
   ·rcases hps' with rfl|rfl
    ·exact⟨[],by simp⟩
    ·exact⟨_,rfl⟩
theorem L2.size_le (h:L2 H N0 bb B3 M D at_ hv heads l u w X q wr ps av yv nv l' next rs){k:Nat}(hk:k<ps.length):Pv.size ps[k].2≤20000:=
 h.bst.st.size _ (List.mem_map_of_mem (List.getElem_mem hk))
theorem cells_ty {w:World}{k:Nat}{c1 c2:Array Value}{t1 t2:TypeId}{f1 f2:Nat × Nat}(h1:w.heap[k]?=some (.cells c1 t1 f1))(h2:w.heap[k]?=some (.cells c2 t2 f2)):t1=t2:=by rw[h1]at h2;injection h2 with h2;injection h2 with _ h _
theorem L2.setX {RB o:Nat}{v:Value}{cs:Array Value}{fr:Nat × Nat}(h:L2 H N0 bb B3 M D at_ hv heads l u w (fun k=>k=RB) q wr ps av yv nv l' next rs)(hc:wr.heap[RB]?=some (.cells cs 3 fr)):
  L2 H N0 bb B3 M D at_ hv heads l u w (fun k=>k=RB) q (wr.setCell ⟨RB,o,none⟩ v) ps av yv nv l' next rs:=by
 have hk:Keep (· = RB) wr (wr.setCell ⟨RB,o,none⟩ v):=Keep.set rfl;have ne:∀ {b:Nat} {c:Array Value} {t:TypeId} {f:Nat × Nat},wr.heap[b]?=some (.cells c t f)→t≠3→¬b=RB:=fun hxb ht e=>by rw[e]at hxb;exact ht (cells_ty hxb hc)
 have rne:∀ {v:Value} {e:Nat} {xs:List Value},Row N0 e wr v xs→e≠3→∀g,v.ownBlock=some g→¬g=RB:=fun hr ht g e=>by obtain⟨c,hg⟩:=hr.ty e;exact ne hg ht
 have hb:=h.bst;have hxl:=h.xlt RB rfl;have hge:=h.ge;exact {
  bst:=⟨hk.blk (ne hb.b3 (by decide)) hb.b3,hk.blk (ne hb.bk (by decide)) hb.bk,hk.blk (ne hb.ba (by decide)) hb.ba,hk.blk (ne hb.bd (by decide)) hb.bd,hk.blk (ne hb.d (by decide)) hb.d,hb.m.keep hk (hb.m.ne hc),
   hb.all.keepK hk (rne hb.all (by decide)),hb.yes.keepK hk (rne hb.yes (by decide)),fun y hy=>(hb.pr y hy).keep (hk.wide fun k e=> .inl (.inl (.inr (.inr (.inr (.inr (.inr e))))))),hb.bud.keep hk (ne hb.bud.2 (by decide)),hb.hb,hb.st⟩
  nrow:=h.nrow.keepK hk (rne h.nrow (by decide))
  nxt:=h.nxt.keep hk fun k e _ _ _=>e
  hrow:=h.hrow.keepK hk (rne h.hrow (by decide))
  cnt:=h.cnt
  qle:=h.qle
  nlen:=h.nlen
  keep:=h.keep.trans_ hk fun k e=> .inr (by have e2:k=RB:=e;omega)
  ge:=by simpa using h.ge
  xlt:=fun k e=>by simpa using h.xlt k e
  hlt:=h.hlt }
theorem L2.newX (h:L2 H N0 bb B3 M D at_ hv heads l u w (fun _=>False) q wr ps av yv nv l' next rs)(cs:Array Value)(t:TypeId):L2 H N0 bb B3 M D at_ hv heads l u w (fun k=>k=wr.heap.size) q (wr.alloc (.cells cs t)) ps av yv nv l' next rs:=by
 have h1:L2 H N0 bb B3 M D at_ hv heads l u w (fun k=>k=wr.heap.size) q wr ps av yv nv l' next rs→L2 H N0 bb B3 M D at_ hv heads l u w (fun k=>k=wr.heap.size) q (wr.alloc (.cells cs t)) ps av yv nv l' next rs:=fun h=>h.later ((Below.refl _ _).alloc (Nat.le_refl _) _)
 have hge:=h.ge;have hb:Below wr.heap.size wr (wr.alloc (.cells cs t)):=(Below.refl _ _).alloc (Nat.le_refl _) _;exact {
  bst:=(h.bst.reH (H':=fun k=>H k∨k=M∨k=M+1+1∨k=D∨nv.ownBlock=some k∨k=wr.heap.size) (fun k hk=>by
   rcases hk with hk|hk|hk|hk|hk|hk
   ·exact .inl (.inl hk)
   ·exact .inl (.inr (.inl hk))
   ·exact .inl (.inr (.inr (.inl hk)))
   ·exact .inl (.inr (.inr (.inr (.inl hk))))
   ·exact .inl (.inr (.inr (.inr (.inr (.inl hk)))))
   ·exact .inr (by omega)) (by
    have hh:=h.bst.hb;refine⟨?_,.inr (.inl rfl),.inr (.inr (.inl rfl)),.inr (.inr (.inr (.inl rfl)))⟩;rcases hh.1 with hk|hk|hk|hk|hk|hk
    ·exact .inl hk
    ·exact .inr (.inl hk)
    ·exact .inr (.inr (.inl hk))
    ·exact .inr (.inr (.inr (.inl hk)))
    ·exact .inr (.inr (.inr (.inr (.inl hk))))
    ·exact hk.elim)).later hb
  nrow:=h.nrow.later hb
  nxt:=(h.nxt.reX (Y:=fun k=>k=wr.heap.size) fun k hk e=>by omega).keep (Y:=fun _=>False) (Keep.of_below hb) fun _ h=>h.elim
  hrow:=h.hrow.later hb
  cnt:=h.cnt
  qle:=h.qle
  nlen:=h.nlen
  keep:=h.keep.trans (Keep.of_below hb)
  ge:=by simp;omega
  xlt:=fun k e=>by subst e;simp;omega
  hlt:=h.hlt }
theorem L2.rowEnd {RB:Nat}{row:List Nat}{w7:World}{v7:Value}(h:L2 H N0 bb B3 M D at_ hv heads l u w (fun k=>k=RB) q wr ps av yv nv l' next rs)(hc:wr.heap[RB]?=some (.cells (row.map intV).toArray 3))(hq:q<ps.length)
  (hk:Keep (fun k=>nv.ownBlock=some k) wr w7) (hr:Row N0 212 w7 v7 (rs++[.slice (some ⟨RB,0,none⟩) row.length row.length])) (hm:Moved wr nv v7):
  L2 H N0 bb B3 M D at_ hv heads l u w (fun _=>False) (q+1) (w7.setCell ⟨D,257,none⟩ v7) ps av yv v7 l' (next++[row]) (rs++[.slice (some ⟨RB,0,none⟩) row.length row.length]):=by
 have hb:=h.bst;have hge:=h.ge;have hxl:=h.xlt RB rfl;have ne:∀ {b:Nat} {c:Array Value} {t:TypeId} {f:Nat × Nat},wr.heap[b]?=some (.cells c t f)→t≠212→¬nv.ownBlock=some b:=fun hb ht e=>h.nrow.ne hb (Ne.symm ht) e
 have rne:∀ {v:Value} {e:Nat} {xs:List Value},Row N0 e wr v xs→e≠212→∀g,v.ownBlock=some g→¬nv.ownBlock=some g:=fun hr ht g e=>by obtain⟨c,hg⟩:=hr.ty e;exact ne hg ht
 have a3:=hk.blk (ne hb.b3 (by decide)) hb.b3;have ak:=hk.blk (ne hb.bk (by decide)) hb.bk;have aa:=hk.blk (ne hb.ba (by decide)) hb.ba;have ad:=hk.blk (ne hb.bd (by decide)) hb.bd;have aD:=hk.blk (ne hb.d (by decide)) hb.d;have am:=hb.m.keep hk (h.nrow.ne_map hb.m);have al:=hb.all.keepK hk (rne hb.all (by decide));have ay:=hb.yes.keepK hk (rne hb.yes (by decide))
 have abud:=hb.bud.keep hk (ne hb.bud.2 (by decide));have ah:=h.hrow.keepK hk (rne h.hrow (by decide));have aX:=hk.blk (ne hc (by decide)) hc;have hks:Keep (· = D) w7 (w7.setCell ⟨D,257,none⟩ v7):=Keep.set rfl;have neD:∀ {b:Nat} {c:Array Value} {t:TypeId} {f:Nat × Nat},w7.heap[b]?=some (.cells c t f)→t≠205→¬b=D:=fun hxb ht e=>by rw[e]at hxb;exact ht (cells_ty hxb aD)
 have rneD:∀ {v:Value} {e:Nat} {xs:List Value},Row N0 e w7 v xs→e≠205→∀g,v.ownBlock=some g→¬g=D:=fun hr ht g e=>by obtain⟨c,hg⟩:=hr.ty e;exact neD hg ht
 have bX:=hks.blk (neD aX (by decide)) aX;refine {
  bst:=⟨hks.blk (neD a3 (by decide)) a3,hks.blk (neD ak (by decide)) ak,hks.blk (neD aa (by decide)) aa,hks.blk (neD ad (by decide)) ad,by rw[blk_set aD,dfa_set_next],am.keep hks (am.ne aD),
   al.keepK hks (rneD al (by decide)),ay.keepK hks (rneD ay (by decide)),fun y hy => ?_,abud.keep hks (neD abud.2 (by decide)),⟨?_,.inr (.inl rfl),.inr (.inr (.inl rfl)),.inr (.inr (.inr (.inl rfl)))⟩,hb.st⟩
  nrow:=hr.keepK hks (rneD hr (by decide))
  nxt:=NextAt.add (((h.nxt.reX (Y:=fun _=>False) fun _ _ h=>h.elim).keep hk fun k e cs fr hcs => ?_).keep hks fun k e cs fr hcs=>absurd e (neD hcs (by decide))) bX hxl.1
  hrow:=ah.keepK hks (rneD ah (by decide))
  cnt:=h.cnt
  qle:=hq
  nlen:=by simp[h.nlen]
  keep:=(h.keep.trans_ hk fun k e=> .inr (by have:=(RowK.lt h.nrow e).1;omega)).trans_ hks fun k e=> .inr (by have e2:k=D:=e;omega)
  ge:=by have:=hk.size;simp;omega
  xlt:=fun _ h=>h.elim
  hlt:=h.hlt }
 ·have h1:=(hb.pr y hy).appended (G':=own2 (fun k=>H k∨k=M∨k=M+1+1∨k=D∨v7.ownBlock=some k∨False) av yv) hk (fun k e=> .inl (.inr (.inr (.inr (.inr (.inl e)))))) (fun k hk2=>by
   rcases hk2 with(hk2|hk2|hk2|hk2|hk2|hk2)|hk2|hk2
   ·exact .inl (.inl (.inl hk2))
   ·exact .inl (.inl (.inr (.inl hk2)))
   ·exact .inl (.inl (.inr (.inr (.inl hk2))))
   ·exact .inl (.inl (.inr (.inr (.inr (.inl hk2)))))
   ·rcases hm.fresh (w0:=wr) (Nat.le_refl _) hk2 with h|h
    ·exact .inl (.inl (.inr (.inr (.inr (.inr (.inl h))))))
    ·exact .inr h
   ·exact hk2.elim
   ·exact .inl (.inr (.inl hk2))
   ·exact .inl (.inr (.inr hk2)))
  exact h1.keep (hks.wide fun k e=> .inl (.inl (.inr (.inr (.inr (.inl e))))))
 ·rcases hb.hb.1 with hk|hk|hk|hk|hk|hk
  ·exact .inl hk
  ·exact .inr (.inl hk)
  ·exact .inr (.inr (.inl hk))
  ·exact .inr (.inr (.inr (.inl hk)))
  ·exact absurd hk (ne hb.bud.2 (by decide))
  ·have h1:=hb.bud.2;rw[hk]at h1;exact absurd (cells_ty h1 hc) (by decide)
 ·exact absurd e (ne hcs (by decide))
def rowFin (heads:List UInt8)(f q:Nat)(next:List (List Nat))(G:Nat × Option (List Pv.R × List Nat)):Nat × Option (List Pv.R × List (List Nat)):=match G with
 | (l,none)=>(l,none)
 | (l,some (all,row))=>Pv.buildGo heads f (q+1) all l (next++[row])
theorem buildGo_row {heads:List UInt8}{f q:Nat}{all:List Pv.R}{l:Nat}{next:List (List Nat)}{x:Pv.R}(h:all[q]?=some x):Pv.buildGo heads (f+1) q all l next=rowFin heads f q next (Pv.buildRow x heads all l []):=by rw[Pv.buildGo];simp only[h];unfold rowFin;generalize Pv.buildRow _ _ _ _ _=G;obtain⟨l,o⟩:=G;cases o<;>rfl
def rowCells (row:List Nat)(n:Nat):List Value:=(row++List.replicate (n-row.length) 0).map intV
theorem rowCells_set {row:List Nat}{n q:Nat}(h:row.length<n):(rowCells row n).toArray.setIfInBounds row.length (.int .i64 (q:Int))=(rowCells (row++[q]) n).toArray:=by unfold rowCells;rw[List.setIfInBounds_toArray];congr 1;rw[show n-row.length=(n-(row++[q]).length)+1 by simp;omega,List.replicate_succ,List.map_append,List.set_append_right _ _ (by simp)];simp
end Go.Proofs.YtamkfdlcdiadlaaGreatDoor
