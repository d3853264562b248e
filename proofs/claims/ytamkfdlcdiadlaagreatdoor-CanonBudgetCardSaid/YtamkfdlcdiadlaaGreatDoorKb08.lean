/- The walks of package re: lists. -/
import Derived.Test.YtamkfdlcdiadlaaGreatDoorKb05
import Derived.Test.YtamkfdlcdiadlaaGreatDoorKb07
set_option linter.all false
namespace Go.Proofs.YtamkfdlcdiadlaaGreatDoor
open Go.RowKit
variable {H:Nat→Prop}
theorem info_re:(Tryz.prog.info? 59).map (fun i=>(i.zero,i.size,i.bytes))=some (some (.pointer none),1,8):=by kernel_rfl
theorem flat_take (op:Nat)(l:List Pv.R)(k:Nat)(h:k<l.length):Pv.flat op (l.take (k+1))=Pv.flat op (l.take k)++(if l[k].op=op then l[k].kids else [l[k]]):=by rw[List.take_succ_eq_append_getElem h];unfold Pv.flat;rw[List.flatMap_append];simp
theorem size_kids (r:Pv.R):Pv.size r=1+Pv.sizes r.kids:=by cases r;rfl
theorem flat_len (op:Nat):∀l:List Pv.R,(Pv.flat op l).length≤Pv.sizes l
 | []=>Nat.le_refl _
 | r::l=>by
   have h:=flat_len op l;have h1:=sizes_len r.kids;have h2:=size_kids r;unfold Pv.flat at *;rw[List.flatMap_cons,List.length_append];unfold Pv.sizes;split
   ·omega
   ·have:=size_pos r;rw[List.length_singleton];omega
set_option maxRecDepth 20000 in
set_option maxHeartbeats 1000000 in
theorem flat_any (op:Nat)(l:List Pv.R)(a:Option Addr)(c:Nat)(bs:List Nat)(w:World)(hs:Sl w a c (bs.map Ptr))(hk:ResAt H w l bs)
  (hsz:Pv.sizes l<549755813888):
  Calls Tryz.prog 115 #[.int .i64 (op:Int),.slice a bs.length c] w fun e w'=>∃v bk,e = .returned v∧Row w.heap.size 59 w' v (bk.map Ptr)∧ResAt H w (Pv.flat op l) bk∧Below w.heap.size w w':=by
 obtain⟨i0,hi,hz0,hz1,hz2⟩:=info_parts info_re;have Hlen:=Hy hk.length;have Hhs:=Hy hs;have Hhk:=Hy hk;have hl40:=sizes_len l;clear hs hk;go_enter Tryz.func115,Tryz.ntmps115;go_wp2_with fail
 go_loopw [5,10] (fun v i wr=>∃(k:Nat) (bk:List Nat),k≤l.length∧i = .int .i64 k∧Row w.heap.size 59 wr v (bk.map Ptr)∧ResAt H w (Pv.flat op (l.take k)) bk∧Below w.heap.size w wr) (fun _ i _=>(bs.length-intOf i).toNat)
 case atStart=>exact⟨0,[],by omega,rfl,Row.nil _ _ _,ResAt.nil,Below.refl _ _⟩
 case round=>
  obtain⟨k,bk,hk,rfl,hrow,hres,hB⟩:=hrel;have HB:=Hy hB;have Hrow:=Hy hrow;have Hres:=Hy hres;by_cases hkn:k<l.length
  ·obtain⟨hkb,hat⟩:=Hhk.out.get k hkn;obtain⟨blk,off,rfl,hbl,hcs⟩:=Hhs.out.at_ (by have:=Hlen.out;simp;omega);obtain⟨a2,c2,bs2,h0,_,_,_,_,h5,_,_,_,hsl2,hres2,hlt⟩:=hat.cells;have h0':=later hB h0;have h5':=later hB h5;have hsl2':=hsl2.later hB;have hc0:=later hB (hcs k (by simpa using hkb));rw[List.getElem_map]at hc0;generalize bs[k]=bk' at *;have hkn':(k:Int)<bs.length:=by have:=Hlen.out;omega
   have hk40:(k:Int)<1099511627776:=by omega
   have Hft:=Hy (flat_take op l k hkn);have hfl:(Pv.flat op (l.take k)).length+(if l[k].op=op then l[k].kids else [l[k]]).length<1099511627776:=by rw[←List.length_append,←flat_take op l k hkn];have h1:=flat_len op (l.take (k+1));have h2:=sizes_take_le l (k+1);omega
   have hbl2:=Hy hres.length;have hbl3:=Hy hres2.length;have Hhat:=Hy hat;have Hsl2:=Hy hsl2';have Hres2:=Hy hres2;clear hB hrow hres hat hcs hsl2 hres2 h0 h5 hsl2';by_cases hop:l[k].op=op
   ·have hop':((l[k].op:Int)==(op:Int))=true:=by rw[beq_iff_eq];omega
    have HOP:=Hy hop;clear hop;go_wp2_with (at_builtin;refine appS _ _ i0 _ 8 Tryz.underlying101 hi hz0 hz1 hz2 rfl (by omega) rfl _ _ rfl w.heap.size _ _ rfl Hrow.out _ _ _ (bs2.map Ptr) (by simp) rfl Hsl2.out ?c0 ?c1 (by have:=HB.out.size;omega) ?c2)
    case c0=>intro u hu;obtain⟨x,_,rfl⟩:=List.mem_map.1 hu;rfl
    case c1=>have:=hbl2.out;have:=hbl3.out;rw[if_pos HOP.out]at hfl;simp;omega
    case c2=>
     intro v1 w1 hr1 hb1 _;have A1:=Hy (HB.out.trans hb1);have A2:=Hy hr1;have A3:Hid (ResAt H w (Pv.flat op (l.take (k+1))) (bk++bs2)):=by rw[Hft.out,if_pos HOP.out];exact ResAt.append Hres.out Hres2.out
     clear hr1 hb1;go_wp2_with fail;go_roundw
     case rel=>exact⟨k+1,bk++bs2,by omega,by go_num,by simpa using A2.out,A3.out,A1.out⟩
     case measure=>have:=Hlen.out;simp[intOf];omega
   ·have hop':((l[k].op:Int)==(op:Int))=false:=by rw[beq_eq_false_iff_ne];omega
    have HOP:=Hy hop;clear hop;go_wp2_with (at_builtin;refine app1 _ _ i0 _ 8 Tryz.underlying101 hi hz0 hz1 hz2 rfl (by omega) rfl _ _ rfl w.heap.size _ _ rfl (Hrow.out.alloc _) wr.heap.size _ rfl (blk_new rfl) rfl ?c1 (by have:=HB.out.size;simp;omega) ?c2)
    case c1=>have:=hbl2.out;rw[if_neg HOP.out]at hfl;simp at hfl ⊢;omega
    case c2=>
     intro v1 w1 hr1 hb1 _;have A1:=Hy ((HB.out.alloc HB.out.size (.cells #[Ptr bk'] 59)).trans hb1);have A2:=Hy hr1;have A3:Hid (ResAt H w (Pv.flat op (l.take (k+1))) (bk++[bk'])):=by rw[Hft.out,if_neg HOP.out];exact ResAt.append Hres.out (ResAt.one Hhat.out)
     clear hr1 hb1;go_wp2_with fail;go_roundw
     case rel=>exact⟨k+1,bk++[bk'],by omega,by go_num,by simpa using A2.out,A3.out,A1.out⟩
     case measure=>have:=Hlen.out;simp[intOf];omega
  ·have e:k=l.length:=by omega
   subst e;have hge:¬((l.length:Int)<bs.length):=by have:=Hlen.out;omega
   clear hB hrow hres;go_wp2_with fail;go_ret;refine⟨_,rfl,bk,Hrow.out,?_,HB.out⟩;have:=Hres.out;rw[List.take_length]at this;exact this
end Go.Proofs.YtamkfdlcdiadlaaGreatDoor
namespace Go.Proofs.YtamkfdlcdiadlaaGreatDoor
open Go.RowKit
variable {H:Nat→Prop}
def hide (g:Nat)(w:World):World:={ w with heap:=w.heap.setIfInBounds g (.cells #[] 0) }
def hideV (v:Value)(w:World):World:=match v.ownBlock with|some g=>hide g w|none=>w
structure Ext (W W':World):Prop where
 size:W.heap.size≤W'.heap.size
 blk:∀(b:Nat) (cs:Array Value) (t:TypeId) (fr:Nat × Nat),W.heap[b]?=some (Obj.cells cs t fr)→0<cs.size→W'.heap[b]?=some (Obj.cells cs t fr)
theorem Ext.refl (W:World):Ext W W:=⟨Nat.le_refl _,fun _ _ _ _ h _=>h⟩
theorem Ext.drew_ {A B:World}(h:Ext A B):Ext A B.drew:=⟨h.size,h.blk⟩
theorem Ext.trans {A B C:World}(h:Ext A B)(k:Ext B C):Ext A C:=⟨Nat.le_trans h.size k.size,fun b cs t fr q p=>k.blk b cs t fr (h.blk b cs t fr q p) p⟩
theorem Ext.of_below {W W':World}(h:Below W.heap.size W W'):Ext W W':=⟨h.size,fun _ _ _ _ q _=>later_blk h q⟩
theorem hide_size (g:Nat)(w:World):(hide g w).heap.size=w.heap.size:=by simp[hide]
theorem hideV_size (v:Value)(w:World):(hideV v w).heap.size=w.heap.size:=by unfold hideV;split;exact hide_size _ _;rfl
theorem hide_get (g:Nat)(w:World)(b:Nat):(hide g w).heap[b]?=if b=g then(w.heap[b]?).map (fun _=> .cells #[] 0) else w.heap[b]?:=by
 show(w.heap.setIfInBounds g _)[b]?=_;rw[Array.getElem?_setIfInBounds];by_cases e:b=g
 ·subst e;rw[if_pos rfl,if_pos rfl];by_cases h:b<w.heap.size
  ·rw[if_pos h,Array.getElem?_eq_getElem h];rfl
  ·rw[if_neg h,Array.getElem?_eq_none (by omega)];rfl
 ·rw[if_neg (Ne.symm e),if_neg e]
theorem hide_ne {g b:Nat}{w:World}(h:b≠g):(hide g w).heap[b]?=w.heap[b]?:=by rw[hide_get,if_neg h]
theorem hide_cells {g b:Nat}{w:World}{cs:Array Value}{t:TypeId}{fr:Nat × Nat}(h:(hide g w).heap[b]?=some (.cells cs t fr))(hp:0<cs.size):b≠g∧w.heap[b]?=some (.cells cs t fr):=by
 rw[hide_get]at h;split at h
 ·cases hq:w.heap[b]? with
  | none=>rw[hq]at h;cases h
  | some o=>rw[hq]at h;simp at h;obtain⟨rfl,_⟩:=h;cases hp
 ·exact⟨by assumption,h⟩
theorem Ext.unhide (g:Nat)(w:World):Ext (hide g w) w:=⟨Nat.le_of_eq (hide_size _ _),fun b cs t fr h hp=>(hide_cells h hp).2⟩
theorem Ext.unhideV (v:Value)(w:World):Ext (hideV v w) w:=by
 unfold hideV;split
 ·exact Ext.unhide _ _
 ·exact Ext.refl _
theorem Ext.hide_ {g:Nat}{W W':World}(h:Ext (hide g W) W'):Ext (hide g W) (hide g W'):=⟨by rw[hide_size g W'];exact h.size,fun b cs t fr q hp=>by rw[hide_ne (hide_cells q hp).1];exact h.blk b cs t fr q hp⟩
theorem Ext.set {g o:Nat}{v:Value}{W W':World}(h:Ext (hide g W) W'):Ext (hide g W) (W'.setCell ⟨g,o,none⟩ v):=⟨by simpa using h.size,fun b cs t fr q hp=>by rw[blk_set_ne (hide_cells q hp).1];exact h.blk b cs t fr q hp⟩
theorem Ext.below_hide {g:Nat}{W W':World}(h:Below W.heap.size W W')(hg:W.heap.size≤g):Ext W (hide g W'):=⟨by rw[hide_size];exact h.size,fun b cs t fr q _=>by rw[hide_ne (by have:=blk_lt q;omega)];exact later_blk h q⟩
theorem Ext.below_hideV {v:Value}{W W':World}(h:Below W.heap.size W W')(hg:∀g,v.ownBlock=some g→W.heap.size≤g):Ext W (hideV v W'):=by
 unfold hideV;split
 ·exact Ext.below_hide h (hg _ (by assumption))
 ·exact Ext.of_below h
theorem cell_blk {W:World}{b o:Nat}{v:Value}(h:W.cell? ⟨b,o,none⟩=some v):∃cs t fr,W.heap[b]?=some (.cells cs t fr)∧cs[o]?=some v:=by
 simp only[World.cell?]at h;revert h;cases W.heap[b]? with
 | none=>intro h;simp at h
 | some x=>
   cases x with
   | cells cs t fr=>intro h;exact⟨cs,t,fr,rfl,by simpa using h⟩
   | _=>intro h;simp at h
theorem Ext.cell {W W':World}(h:Ext W W'){b o:Nat}{v:Value}(hc:W.cell? ⟨b,o,none⟩=some v):W'.cell? ⟨b,o,none⟩=some v:=by obtain⟨cs,t,fr,h1,h2⟩:=cell_blk hc;exact cB (h.blk b cs t fr h1 (by have:=(Array.getElem?_eq_some_iff.1 h2).1;omega)) h2
theorem Sl.ext {W W':World}(h:Ext W W'){a:Option Addr}{c:Nat}{vs:List Value}(hs:Sl W a c vs):Sl W' a c vs:=
 ⟨hs.1,hs.2,fun i hi=>let ⟨b,o,e,hc⟩:=hs.3 i hi;⟨b,o,e,h.cell hc⟩⟩
mutual
theorem ReAt.ext {w w':World}(hb:Ext w w'):∀ {r:Pv.R} {b:Nat},ReAt H w r b→ReAt H w' r b
 | .mk op s ks,b,h=>by unfold ReAt at *;obtain⟨hw,h0,a,c,bs,ha,h1,h2,h3⟩:=h;exact⟨hw,h0,a,c,bs,fun x y e=>⟨(ha x y e).1,Nat.lt_of_lt_of_le (ha x y e).2 hb.size⟩,hb.blk _ _ _ _ h1 (by simp),h2.ext hb,ResAt.ext hb h3⟩
theorem ResAt.ext {w w':World}(hb:Ext w w'):∀ {rs:List Pv.R} {bs:List Nat},ResAt H w rs bs→ResAt H w' rs bs
 | [],_,h=>by unfold ResAt at *;exact h
 | r::rs,_,h=>by unfold ResAt at *;obtain⟨b,bs',e,h1,h2⟩:=h;exact⟨b,bs',e,ReAt.ext hb h1,ResAt.ext hb h2⟩
end
mutual
theorem ReAt.hide_ {w:World}{g:Nat}(hg:H g):∀ {r:Pv.R} {b:Nat},ReAt H w r b→ReAt H (hide g w) r b
 | .mk op s ks,b,h=>by
   unfold ReAt at *;obtain⟨hw,h0,a,c,bs,ha,h1,h2,h3⟩:=h;refine⟨hw,h0,a,c,bs,fun x y e=>⟨(ha x y e).1,by rw[hide_size];exact(ha x y e).2⟩,?_,⟨h2.1,h2.2,fun i hi => ?_⟩,ResAt.hide_ hg h3⟩
   ·rw[hide_ne (fun e=>by subst e;exact h0 hg)];exact h1
   ·obtain⟨blk,off,e,hc⟩:=h2.3 i hi;refine⟨blk,off,e,?_⟩;have hne:blk≠g:=fun e2=>by subst e2;exact(ha _ _ e).1 hg
    obtain⟨cs,t,fr,q1,q2⟩:=cell_blk hc;exact cB ((hide_ne hne).trans q1) q2
theorem ResAt.hide_ {w:World}{g:Nat}(hg:H g):∀ {rs:List Pv.R} {bs:List Nat},ResAt H w rs bs→ResAt H (hide g w) rs bs
 | [],_,h=>by unfold ResAt at *;exact h
 | r::rs,_,h=>by unfold ResAt at *;obtain⟨b,bs',e,h1,h2⟩:=h;exact⟨b,bs',e,ReAt.hide_ hg h1,ResAt.hide_ hg h2⟩
end
def Prs (H:Nat→Prop)(w:World)(ps:List (Nat × Pv.R)):Prop:=∀x∈ps,ReAt H w x.2 x.1
theorem Prs.ext {w w':World}(h:Ext w w'){ps:List (Nat × Pv.R)}(hp:Prs H w ps):Prs H w' ps:=fun x hx=>(hp x hx).ext h
theorem Prs.res {w:World}:∀ {ps:List (Nat × Pv.R)},Prs H w ps→ResAt H w (ps.map (·.2)) (ps.map (·.1))
 | [],_=>ResAt.nil
 | x::ps,h=>by simp only[List.map_cons];unfold ResAt;exact⟨_,_,rfl,h x (by simp),Prs.res fun y hy=>h y (by simp[hy])⟩
theorem ResAt.prs {w:World}:∀ {rs:List Pv.R} {bs:List Nat},ResAt H w rs bs→∃ps:List (Nat × Pv.R),rs=ps.map (·.2)∧bs=ps.map (·.1)∧Prs H w ps
 | [],bs,h=>by unfold ResAt at h;subst h;exact⟨[],rfl,rfl,fun _ h=>by cases h⟩
 | r::rs,bs,h=>by unfold ResAt at h;obtain⟨b,bs',rfl,h1,h2⟩:=h;obtain⟨ps,rfl,rfl,h3⟩:=ResAt.prs h2;exact⟨(b,r)::ps,rfl,rfl,fun x hx=>by rcases List.mem_cons.1 hx with rfl|hx;exact h1;exact h3 x hx⟩
abbrev vals (ps:List (Nat × Pv.R)):List Value:=ps.map fun x=>Ptr x.1
def ReRowX (H:Nat→Prop)(base:Nat)(w:World)(v:Value)(ps:List (Nat × Pv.R)):Prop:=Row base 59 w v (vals ps)∧Prs H (hideV v w) ps
theorem Row.blk {base e:Nat}{w:World}{v:Value}{xs:List Value}(h:Row base e w v xs):(v = .slice none 0 0∧xs=[]) ∨
  ∃g cap cur,v = .slice (some ⟨g,0,none⟩) xs.length cap∧base≤g∧w.heap[g]?=some (.cells cur e)∧xs.length≤cap∧cap≤maxLen∧cur.size=cap∧cur.toList.take xs.length=xs:=by
 obtain⟨h1,h2⟩:=h;rcases h2 with⟨rfl,h0⟩|⟨g,cap,cur,h⟩
 ·exact .inl ⟨rfl,List.length_eq_zero_iff.1 h0⟩
 ·exact .inr ⟨g,cap,cur,by simpa using h⟩
theorem Row.own {base e:Nat}{w:World}{v:Value}{xs:List Value}(h:Row base e w v xs)(g:Nat)(hg:v.ownBlock=some g):base≤g:=by
 rcases h.blk with⟨rfl,_⟩|⟨g',cap,cur,rfl,h1,_⟩
 ·cases hg
 ·cases hg;exact h1
theorem Row.of_cells {base e g cap:Nat}{w:World}{cur:Array Value}{xs:List Value}(hg:base≤g)(hh:w.heap[g]?=some (.cells cur e))(h1:xs.length≤cap)(h2:cap≤maxLen)(h3:cur.size=cap)(h4:cur.toList.take xs.length=xs):
 Row base e w (.slice (some ⟨g,0,none⟩) xs.length cap) xs:=⟨by simp,.inr ⟨g,cap,cur,rfl,hg,hh,h1,h2,by simpa using h3,by simpa using h4⟩⟩
theorem setCells_blk {t:TypeId}{fr:Nat × Nat}{g:Nat}:∀(vs:List Value) (o:Nat) (w:World) (cur:Array Value),w.heap[g]?=some (.cells cur t fr)→∃cur',(w.setCells g o vs).heap[g]?=some (.cells cur' t fr)∧cur'.size=cur.size∧∀k,k<o→cur'[k]?=cur[k]?
 | [],o,w,cur,h=>⟨cur,h,rfl,fun _ _=>rfl⟩
 | v::vs,o,w,cur,h=>by rw[World.setCells];obtain⟨cur',h1,h2,h3⟩:=setCells_blk vs (o+1) (w.setCell ⟨g,o,none⟩ v) _ (blk_set h);exact⟨cur',h1,by simpa using h2,fun k hk=>by rw[h3 k (by omega),Array.getElem?_setIfInBounds_ne (by omega)]⟩
theorem setCells_ne {g b:Nat}(hb:b≠g):∀(vs:List Value) (o:Nat) (w:World),(w.setCells g o vs).heap[b]?=w.heap[b]?
 | [],o,w=>rfl
 | v::vs,o,w=>by rw[World.setCells,setCells_ne hb vs];exact blk_set_ne hb
theorem setCells_below {g base:Nat}(hb:base≤g):∀(vs:List Value) (o:Nat) (w0 w:World),Below base w0 w→Below base w0 (w.setCells g o vs)
 | [],o,_,w,h=>h
 | v::vs,o,w0,w,h=>by rw[World.setCells];exact setCells_below hb vs (o+1) w0 _ (h.setCell hb v)
theorem ext_setCells {g o:Nat}{vs:List Value}{W W':World}(h:Ext (hide g W) W'):Ext (hide g W) (W'.setCells g o vs):=
 ⟨Nat.le_trans h.size (setCells_below (base:=0) (Nat.zero_le _) vs o W' W' (Below.refl _ _)).size,fun b cs t fr q hp=>by rw[setCells_ne (hide_cells q hp).1];exact h.blk b cs t fr q hp⟩
def keptGo {α:Type}(keep:Option α→α→Bool):Option α→List α→List α
 | _,[]=>[]
 | o,x::l=>(if keep o x then [x] else [])++keptGo keep (some x) l
theorem keptGo_snoc {α:Type}(keep:Option α→α→Bool)(x:α):∀(l:List α) (o:Option α),keptGo keep o (l++[x])=keptGo keep o l++(if keep (l.getLast?.or o) x then [x] else [])
 | [],o=>by simp[keptGo];rfl
 | y::l,o=>by
   simp only[List.cons_append,keptGo,keptGo_snoc keep x l];rw[List.append_assoc];congr 2;cases l with
   | nil=>rfl
   | cons z l=>simp[List.getLast?_cons]
theorem keptGo_take {α:Type}(keep:Option α→α→Bool)(l:List α)(k:Nat)(h:k<l.length):keptGo keep none (l.take (k+1))=keptGo keep none (l.take k)++(if keep (if k=0 then none else l[k-1]?) l[k] then [l[k]] else []):=by
 rw[List.take_succ_eq_append_getElem h,keptGo_snoc];congr 3;cases k with
 | zero=>rfl
 | succ k=>rw[List.take_succ_eq_append_getElem (by omega:k<l.length),if_neg (by omega),Nat.add_sub_cancel,List.getElem?_eq_getElem (by omega:k<l.length),List.getLast?_append];rfl
theorem keptGo_filter {α:Type}(p:α→Bool):∀(l:List α) (o:Option α),keptGo (fun _ x=>p x) o l=l.filter p
 | [],_=>rfl
 | x::l,o=>by rw[keptGo,keptGo_filter p l,List.filter_cons];split<;>simp
theorem keptGo_sub {α:Type}(keep:Option α→α→Bool):∀(l:List α) (o:Option α),∀x∈keptGo keep o l,x∈l
 | [],_,x,h=>by cases h
 | y::l,o,x,h=>by
   unfold keptGo at h;rcases List.mem_append.1 h with h|h
   ·split at h
    ·simp at h;simp[h]
    ·cases h
   ·exact List.mem_cons_of_mem _ (keptGo_sub keep l _ x h)
structure Inp (keep:Option (Nat × Pv.R)→Nat × Pv.R→Bool)(ps:List (Nat × Pv.R))(cap:Nat)(cur:Array Value)(i j:Nat):Prop where
 size:cur.size=cap
 le:i≤j
 jn:j≤ps.length
 low:cur.toList.take i=vals (keptGo keep none (ps.take j))
 len:(keptGo keep none (ps.take j)).length=i
 high:∀k,j≤k→(h:k<ps.length)→cur[k]?=some (Ptr ps[k].1)
theorem Inp.keep {keep:Option (Nat × Pv.R)→Nat × Pv.R→Bool}{ps:List (Nat × Pv.R)}{cap:Nat}{cur:Array Value}{i j:Nat}(h:Inp keep ps cap cur i j)(hc:ps.length≤cap)(hj:j<ps.length)
  (hk:keep (if j=0 then none else ps[j-1]?) ps[j]=true):Inp keep ps cap (cur.setIfInBounds i (Ptr ps[j].1)) (i+1) (j+1) where
 size:=by simpa using h.size
 le:=by have:=h.le;omega
 jn:=by omega
 low:=by
  have:=h.le;have:=h.size
  rw[keptGo_take keep ps j hj,hk,if_pos rfl,vals,List.map_append,←vals,←h.low,Array.toList_setIfInBounds,List.take_succ_eq_append_getElem (by simp;omega)];simp;rw[List.take_set,List.set_eq_of_length_le (by simp;omega)]
 len:=by rw[keptGo_take keep ps j hj,hk,if_pos rfl,List.length_append,h.len];rfl
 high:=fun k hk' h'=>by have:=h.le;rw[Array.getElem?_setIfInBounds_ne (by omega)];exact h.high k (by omega) h'
theorem Inp.skip {keep:Option (Nat × Pv.R)→Nat × Pv.R→Bool}{ps:List (Nat × Pv.R)}{cap:Nat}{cur:Array Value}{i j:Nat}(h:Inp keep ps cap cur i j)(hj:j<ps.length)
  (hk:keep (if j=0 then none else ps[j-1]?) ps[j]=false):Inp keep ps cap cur i (j+1) where
 size:=h.size
 le:=by have:=h.le;omega
 jn:=by omega
 low:=by rw[keptGo_take keep ps j hj,hk];simpa using h.low
 len:=by rw[keptGo_take keep ps j hj,hk];simpa using h.len
 high:=fun k hk' h'=>h.high k (by omega) h'
theorem Inp.start {keep:Option (Nat × Pv.R)→Nat × Pv.R→Bool}{ps:List (Nat × Pv.R)}{cap:Nat}{cur:Array Value}{j:Nat}(hs:cur.size=cap)(hc:ps.length≤cap)(ht:cur.toList.take ps.length=vals ps)(hj:j≤ps.length)
  (hk:keptGo keep none (ps.take j)=ps.take j):Inp keep ps cap cur j j where
 size:=hs
 le:=Nat.le_refl _
 jn:=hj
 low:=by rw[hk,vals,List.map_take,←vals,←ht,List.take_take,Nat.min_eq_left hj]
 len:=by rw[hk];simp;omega
 high:=fun k _ h'=>by
  have:(cur.toList.take ps.length)[k]?=some (Ptr ps[k].1):=by rw[ht];simp[h']
  rw[List.getElem?_take,if_pos h']at this;simpa using this
end Go.Proofs.YtamkfdlcdiadlaaGreatDoor
namespace Go.Proofs.YtamkfdlcdiadlaaGreatDoor
open Go.RowKit
variable {H:Nat→Prop}
def AsksRe (H:Nat→Prop)(gf:Nat)(p:Pv.R→Bool):Prop:=∀(W:World) (r:Pv.R) (b:Nat),ReAt H W r b→Calls Tryz.prog gf #[Ptr b] W fun e w'=>e = .returned (.bool (p r))∧w'=W
set_option maxRecDepth 20000 in
set_option maxHeartbeats 1000000 in
theorem index_any (gf:Nat)(eg:Hid (Enters Tryz.prog gf))(p:Pv.R→Bool)(hp:Hid (AsksRe H gf p))(ps:List (Nat × Pv.R))(a:Option Addr)(cap:Nat)(w:World)(hs:Sl w a cap (vals ps))(hps:Prs H w ps)(hl:ps.length<1099511627776):
  Calls Tryz.prog 149 #[.slice a ps.length cap,.func (.func gf) #[] #[]] w fun e w'=>∃k:Int,e = .returned (.int .i64 k)∧w'=w ∧
   (k = -1∧(∀x∈ps,p x.2=false)∨∃j,∃h:j<ps.length,k=(j:Int)∧p ps[j].2=true∧∀i (hi:i<j),p (ps[i]'(Nat.lt_trans hi h)).2=false):=by
 have Hhs:=Hy hs;have Hps:=Hy hps;clear hs hps;go_enter Tryz.func149,Tryz.ntmps149;go_wp2_with fail;go_loopw [8] (fun i wr=>∃k:Nat,k≤ps.length∧i = .int .i64 k∧wr=w∧Hid (∀i (_:i<k) (h:i<ps.length),p ps[i].2=false)) (fun i _=>(ps.length-intOf i).toNat)
 case atStart=>exact⟨0,by omega,rfl,rfl,fun i h=>by omega⟩
 case round=>
  obtain⟨k,hk,rfl,rfl,hall⟩:=hrel;by_cases hkn:k<ps.length
  ·have hat:=Hps.out ps[k] (List.getElem_mem hkn);obtain⟨blk,off,rfl,hbl,hcs⟩:=Hhs.out.at_ (by simp;omega);have hc0:=hcs k (by simpa using hkn);rw[List.getElem_map]at hc0;clear hcs;have hpk:∃q,p ps[k].2=q:=⟨_,rfl⟩
   obtain⟨q,hpk⟩:=hpk;have hcall:=hp.out wr _ _ hat;rw[hpk]at hcall;generalize hbb:ps[k].1=bb at *;have Hpk:=Hy hpk;have Hcall:=Hy hcall;clear hpk hcall hat hbb;have hkn':(k:Int)<ps.length:=by omega
   have hk40:(k:Int)<1099511627776:=by omega
   go_wp2_with fail;go_simp;rw[eg.out];refine Hcall.out.mono ?_;rintro e w' ⟨rfl,rfl⟩;cases q
   ·go_wp2_with fail;go_roundw
    case rel=>
     refine⟨k+1,by omega,by go_num,by first|rfl|trivial,fun i hi h => ?_⟩;by_cases e:i=k
     ·subst e;exact Hpk.out
     ·exact hall.out i (by omega) h
    case measure=>simp[intOf];omega
   ·go_wp2_with fail;go_ret;exact⟨k,rfl,rfl,.inr ⟨k,hkn,rfl,Hpk.out,fun i hi=>hall.out i hi (by omega)⟩⟩
  ·have e:k=ps.length:=by omega
   subst e;go_wp2_with fail;go_ret;refine⟨-1,rfl,rfl,.inl ⟨rfl,fun x hx => ?_⟩⟩;obtain⟨i,h,rfl⟩:=List.mem_iff_getElem.1 hx;exact hall.out i h h
set_option maxRecDepth 20000 in
set_option maxHeartbeats 1000000 in
theorem contains_any (gf:Nat)(eg:Hid (Enters Tryz.prog gf))(p:Pv.R→Bool)(hp:Hid (AsksRe H gf p))(ps:List (Nat × Pv.R))(a:Option Addr)(cap:Nat)(w:World)(hs:Sl w a cap (vals ps))(hps:Prs H w ps)(hl:ps.length<1099511627776):
  Calls Tryz.prog 114 #[.slice a ps.length cap,.func (.func gf) #[] #[]] w fun e w'=>e = .returned (.bool (ps.any fun x=>p x.2))∧w'=w:=by
 have hc:=index_any gf eg p hp ps a cap w hs hps hl;clear hs hps;go_enter Tryz.func114,Tryz.ntmps114;go_wp2_with fail;refine hc.mono ?_;rintro e w' ⟨k,rfl,rfl,h⟩;rcases h with⟨rfl,h⟩|⟨j,hj,rfl,h,_⟩
 ·have e:(ps.any fun x=>p x.2)=false:=by rw[List.any_eq_false];intro x hx;rw[h x hx];simp
  go_wp2_with fail;go_ret;exact⟨by rw[e];rfl,rfl⟩
 ·have e:(ps.any fun x=>p x.2)=true:=List.any_eq_true.2 ⟨ps[j],List.getElem_mem hj,h⟩;have hj0:(0:Int)≤j:=by omega
  go_wp2_with fail;go_ret;exact⟨by rw[e];rfl,rfl⟩
set_option maxRecDepth 20000 in
set_option maxHeartbeats 2000000 in
theorem delete_any (gf:Nat)(eg:Hid (Enters Tryz.prog gf))(p:Pv.R→Bool)(hp:Hid (AsksRe H gf p))(ps:List (Nat × Pv.R))(base:Nat)(v:Value)(w:World)(h:ReRowX H base w v ps)(hb:base≤w.heap.size)(hl:ps.length<1099511627776):
  Calls Tryz.prog 111 #[v,.func (.func gf) #[] #[]] w fun e w'=>∃v',e = .returned v'∧v'.ownBlock=v.ownBlock∧ReRowX H base w' v' (ps.filter fun x => !p x.2)∧Ext (hideV v w) w'∧Below base w w':=by
 obtain⟨hrow,hps⟩:=h;obtain⟨a0,c0,hv,hsl,hown⟩:=hrow.form;rw[List.length_map]at hv;have hidx:=index_any gf eg p hp ps a0 c0 w hsl (hps.ext (Ext.unhideV v w)) hl;rw[←hv]at hidx;have Hidx:=Hy hidx;have Hrow:=Hy hrow;have Hps:=Hy hps;clear hidx hrow hps hown hsl hv;go_enter Tryz.func111,Tryz.ntmps111;go_wp2_with fail;refine Hidx.out.mono ?_;rintro e w' ⟨k,rfl,rfl,h⟩
 rcases h with⟨rfl,h⟩|⟨j0,hj0,rfl,hpj,hall⟩
 ·have Hh:=Hy h;clear h;go_wp2_with fail;go_ret;refine⟨v,rfl,rfl,?_,Ext.unhideV _ _,Below.refl _ _⟩;rw[List.filter_eq_self.2 (fun x hx=>by rw[Hh.out x hx];rfl)];exact⟨Hrow.out,Hps.out⟩
 ·rcases Hrow.out.blk with⟨_,e⟩|⟨g,cap,cur,rfl,hg,hblk,hle,hmax,hsz,htk⟩
  ·have:ps=[]:=List.map_eq_nil_iff.1 e;subst this;cases hj0
  ·rw[List.length_map]at hle htk;have hkeep0:keptGo (fun _ x => !p x.2) none (ps.take j0)=ps.take j0:=by rw[keptGo_filter,List.filter_eq_self];intro x hx;obtain⟨i,hi,rfl⟩:=List.mem_iff_getElem.1 hx;simp at hi;rw[List.getElem_take,hall i (by omega)];rfl
   have hI:=(Inp.start hsz hle htk (by omega) hkeep0).skip hj0 (by simp[hpj]);have HI:=Hy hI;have Hblk:=Hy hblk;have Hall:=Hy hall;clear hI hblk hall htk hkeep0;have hn1:((j0:Int) == -1)=false:=by rw[beq_eq_false_iff_ne];omega
   have hj40:(j0:Int)<1099511627776:=by omega
   rw[List.length_map];go_wp2_with fail;have HW:Hid (w'=w'):=rfl;generalize hw0:w'=w0 at Hidx Hrow Hps Hblk hb HW;go_loopw [5,6] (fun i j wr=>∃(ni nj:Nat) (cur:Array Value),i = .int .i64 ni∧j = .int .i64 nj∧ni<nj∧Hid (Inp (fun _ x => !p x.2) ps cap cur ni nj)∧Hid (wr.heap[g]?=some (.cells cur 59)) ∧
    Hid (Ext (hide g w0) wr)∧Hid (Below base w0 wr)) (fun _ j _=>(ps.length-intOf j).toNat)
   case atStart=>
    refine⟨j0,j0+1,cur,rfl,by go_num,by omega,HI.out,?_,?_,?_⟩
    ·subst hw0;exact Hblk.out
    ·subst hw0;exact Ext.unhide _ _
    ·subst hw0;exact Below.refl _ _
   case round=>
    clear HI Hblk;obtain⟨ni,nj,cur,rfl,rfl,hij,HI,HB,HE,HW1⟩:=hrel;by_cases hlt:nj<ps.length
    ·have hcj:=cB HB.out (HI.out.high nj (Nat.le_refl _) hlt);have hat:=(Hps.out ps[nj] (List.getElem_mem hlt)).ext HE.out;obtain⟨ci,hci⟩:∃ci,cur[ni]?=some ci:=⟨cur[ni]'(by have:=HI.out.size;omega),Array.getElem?_eq_getElem _⟩
     have hci1:=cB HB.out hci;have hfi:=fob (o:=ni) HB.out;have hpk:∃q,p ps[nj].2=q:=⟨_,rfl⟩
     obtain⟨q,hpk⟩:=hpk;have hcall:=hp.out wr _ _ hat;rw[hpk]at hcall;have Hpk:=Hy hpk;have Hcall:=Hy hcall;have hlt':(nj:Int)<ps.length:=by omega
     have hj41:(nj:Int)<1099511627776:=by omega
     have hi41:(ni:Int)<1099511627776:=by omega
     have hi42:(ni:Int)<ps.length:=by omega
     clear hpk hcall hat hci;generalize hbb:ps[nj].1=bb at *;have Hbb:=Hy hbb;clear hbb;go_wp2_with fail;go_simp;rw[eg.out];refine Hcall.out.mono ?_;rintro e w' ⟨rfl,rfl⟩;cases q
     ·go_wp2_with fail;go_roundw
      case rel=>
       refine⟨ni+1,nj+1,cur.setIfInBounds ni (Ptr bb),by go_num,by go_num,by omega,?_,blk_set HB.out,HE.out.set,HW1.out.setCell hg _⟩;rw[←Hbb.out];exact HI.out.keep hle hlt (by simp[Hpk.out])
      case measure=>simp[intOf];omega
     ·go_wp2_with fail;go_roundw
      case rel=>exact⟨ni,nj+1,cur,rfl,by go_num,by omega,HI.out.skip hlt (by simp[Hpk.out]),HB.out,HE.out,HW1.out⟩
      case measure=>simp[intOf];omega
    ·have e:nj=ps.length:=by have:=HI.out.jn;omega
     subst e;have hcells:∀t,t<ps.length-ni→(wr.cell? ⟨g,0+ni+t,none⟩).isSome=true:=fun t ht=>by have h1:cur[0+ni+t]?=some (cur[0+ni+t]'(by have:=HI.out.size;omega)):=Array.getElem?_eq_getElem _;rw[cB HB.out h1];rfl
     have hfr:∀t,t<ps.length-ni→wr.frozen? ⟨g,0+ni+t,none⟩=false:=fun t _=>fob HB.out
     have hcl:=fun ty=>Lib.run_clear_slice wr 101 59 ty (.pointer none) Tryz.underlying101 (Tryz.zeroValue59) rfl rfl g (0+ni) (ps.length-ni) (cap-ni) (by omega) hcells hfr
     rw[Nat.zero_add]at hcl;have Hcl:=Hy hcl;clear hcells hfr hcl;have hi42:(ni:Int)≤ps.length:=by omega
     go_wp2_with fail;rw[Hcl.out];go_simp;go_wp2_with fail;go_ret;subst hw0;obtain⟨cur',h1,h2,h3⟩:=setCells_blk (List.replicate (ps.length-ni) (.pointer none)) ni wr cur HB.out;have hfil:keptGo (fun _ (x:Nat × Pv.R) => !p x.2) none ps=ps.filter fun x => !p x.2:=keptGo_filter _ _ _
     have hlen:=HI.out.len;have hlow:=HI.out.low;rw[List.take_length,hfil]at hlen hlow;have hlv:(vals (ps.filter fun x => !p x.2)).length=ni:=by rw[List.length_map];exact hlen
     refine⟨_,rfl,rfl,⟨?_,?_⟩,?_,setCells_below hg _ _ _ _ HW1.out⟩
     ·have:=Row.of_cells (xs:=vals (ps.filter fun x => !p x.2)) hg h1 (by rw[hlv];omega) hmax (by rw[h2];exact HI.out.size) (by
       rw[hlv,←hlow];apply List.ext_getElem?;intro k;rw[List.getElem?_take,List.getElem?_take];split
       ·have:=h3 k (by omega);simpa using this
       ·rfl)
      rw[hlv]at this;exact this
     ·have hE2:Ext (hide g w') (hide g (wr.setCells g ni (List.replicate (ps.length-ni) (.pointer none)))):=(ext_setCells HE.out).hide_;intro x hx;exact(Hps.out x (List.mem_filter.1 hx).1).ext hE2
     ·exact ext_setCells HE.out
end Go.Proofs.YtamkfdlcdiadlaaGreatDoor
