/- Plain: a fault of two ways is shown by its text; where it stands in the term. -/
import Derived.Test.YtinpjfnnfkjbmaaGreatDoorKm37
import Derived.Test.YtinpjfnnfkjbmaaGreatDoorKm03
import Derived.Test.YtinpjfnnfkjbmaaGreatDoorKm05
import Derived.Test.YtinpjfnnfkjbmaaGreatDoorKm39
import Derived.Test.YtinpjfnnfkjbmaaGreatDoorKm25
import Derived.Test.YtinpjfnnfkjbmaaGreatDoorKm29
import Derived.Test.YtinpjfnnfkjbmaaGreatDoorKm38
set_option linter.all false
namespace Pv
def Built (x:R):Prop:=∃l l' D,build x l=(l',some D)
theorem Built.small {x:R}(h:Built x)(hw:WF x)(s:List UInt8):size (bys x s)≤300000:=by obtain⟨l,l',D,h⟩:=h;exact Nat.le_trans (build_small h hw s) (by decide)
def shownT (x y:R)(t:List UInt8)(i j:Int):Bool:=
 decide (0≤i)&&decide (i<j)&&decide (j≤(t.length:Int))&&matchR (t.take i.toNat) x&&matchR (t.drop i.toNat) y&&matchR (t.take j.toNat) x&&matchR (t.drop j.toNat) y
theorem catFind_spec {B:Dfa}{l:Trail}:∀ {n i k:Nat},catFind B l n i=some k→∃x s,l[k]?=some (x,s)∧isTwo B x=true
 | 0,_,_,h=>by cases h
 | n+1,i,k,h=>by
   unfold catFind at h;split at h
   ·cases h
   ·rename_i x s hx;split at h
    ·rename_i e;cases h;exact⟨x,s,hx,e⟩
    ·exact catFind_spec h
theorem catGo_two {A B:Dfa}{heads:List UInt8}:∀ {f from_:Nat} {l:Trail} {n n':Nat} {w:Two},catGo A B heads f from_ l n=(n',some (some w))→Good A B l→∃tr i x s,Good A B tr∧tr[i]?=some (x,s)∧isTwo B x=true∧w=twoOf tr i∧tr.length≤l.length+n
 | 0,_,_,_,_,_,h,_=>by cases h
 | f+1,from_,l,n,n',w,h,hG=>by
   unfold catGo at h;split at h
   ·split at h
    ·cases h
    ·rename_i l1 tr1 hf;have hG1:=(catFree_good hf hG).1;split at h
     ·rename_i i hi;simp only[Prod.mk.injEq,Option.some.injEq]at h;obtain⟨x,s,hx,ht⟩:=catFind_spec hi;exact⟨tr1,i,x,s,hG1,hx,ht,h.2.symm,by have:=(catFree_good hf hG).2.2;omega⟩
     ·split at h
      ·cases h
      ·rename_i l2 tr2 hm;obtain⟨tr,i,x,s,a1,a2,a3,a4,a5⟩:=catGo_two h (catMore_good hm hG1).1;exact⟨tr,i,x,s,a1,a2,a3,a4,by have:=(catFree_good hf hG).2.2;have:=(catMore_good hm hG1).2.2;omega⟩
   ·cases h
theorem twoGo_len (l:Trail):∀(f i:Nat) (out:List UInt8) (ps:List Nat),(twoGo l f i out ps).1.length≤out.length+f
 | 0,i,out,ps=>by unfold twoGo;exact Nat.le_refl _
 | f+1,i,out,ps=>by
   unfold twoGo;split
   ·simp only;omega
   ·rename_i sp s hs;split
    ·simp only;omega
    ·split
     ·have:=twoGo_len l f s.from_.toNat out (ps++[out.length]);omega
     ·have:=twoGo_len l f s.from_.toNat (out++[s.by_]) ps;simp only[List.length_append,List.length_singleton]at this;omega
theorem two_len (l:Trail)(i:Nat):(twoOf l i).text.length≤l.length+1:=by unfold twoOf;simp only[List.length_reverse];have:=twoGo_len l (l.length+1) i [] [];simpa using this
theorem two_shown {x y:R}{A B:Dfa}{tr:Trail}{i:Nat}{sp:Spot}{s:Step}(hA:∀t,A.accepts t=matchR t x)(hB:∀t,B.accepts t=matchR t y)(hG:Good A B tr)(hi:tr[i]?=some (sp,s))(ht:isTwo B sp=true):
  shownT x y (twoOf tr i).text (twoOf tr i).i (twoOf tr i).j=true:=by
 have hil:=(List.getElem?_eq_some_iff.1 hi).1;obtain⟨u,ps,hT,hE⟩:=twoGo_tells hG i sp s hi (tr.length+1) (by omega);unfold isTwo at ht;simp only[Bool.and_eq_true,beq_iff_eq]at ht;obtain⟨⟨h2,hp⟩,hq⟩:=ht;cases hT with
 | ahead u e1=>omega
 | between u v e1=>omega
 | behind u v z e1 e2 e3 e4 e5 e6=>
   have hE':=hE [] [];have hv:0<v.length:=List.length_pos_iff.2 e4;have hw:twoOf tr i=⟨u++(v++z),(u.length:Int),((u++v).length:Int)⟩:=by unfold twoOf;rw[hE'];simp only[List.nil_append,List.reverse_reverse,List.map_cons,List.map_nil,List.length_nil,Nat.zero_add,List.length_reverse,List.length_append,List.getD_cons_zero,List.getD_cons_succ,Two.mk.injEq,true_and];omega
   rw[hw];unfold shownT;simp only[Int.toNat_natCast];have t1:(u++(v++z)).take u.length=u:=List.take_left' rfl;have t2:(u++(v++z)).drop u.length=v++z:=List.drop_left' rfl;have t3:(u++(v++z)).take (u++v).length=u++v:=by rw[←List.append_assoc];exact List.take_left' rfl
   have t4:(u++(v++z)).drop (u++v).length=z:=by rw[←List.append_assoc];exact List.drop_left' rfl
   rw[t1,t2,t3,t4,←hA,←hB,←hA,←hB];unfold Dfa.accepts;rw[e2,e3,←e5,←e6,hp,hq];simp;omega
theorem ambigCat_shown {x y:R}{l l':Nat}{w:Two}(hx:WF x)(hy:WF y)(h:ambigCat x y l=(l',some (some w))):Built x∧Built y∧shownT x y w.text w.i w.j=true∧w.text.length≤l+2:=by
 unfold ambigCat at h;split at h
 ·cases h
 ·rename_i l1 A hA;split at h
  ·cases h
  ·rename_i l2 B hB;split at h
   ·cases h
   ·rename_i tr l3 ha;have hG:Good A B tr:=by
     have:tr=[(⟨0,0,0,false⟩,⟨-1,0,false⟩)]:=by
      unfold addSpot at ha;simp only[List.any_nil,Bool.false_eq_true,if_false]at ha;split at ha
      ·cases ha
      ·cases ha;rfl
     rw[this];exact Good.start A B
    obtain⟨tr2,i,sp,s,hG2,hi,ht,hw,hl⟩:=catGo_two h hG;have htl:tr.length+l3≤l+1:=by
     have h1:=(build_spec hA).choose_spec.2.2.2;have h2:=(build_spec hB).choose_spec.2.2.2;rcases addSpot_spec ha with⟨rfl,rfl⟩|⟨rfl,h3⟩
     ·simp;omega
     ·simp;omega
    refine⟨⟨_,_,_,hA⟩,⟨_,_,_,hB⟩,?_,by rw[hw];have:=two_len tr2 i;omega⟩;rw[hw];exact two_shown (build_accepts hA hx) (build_accepts hB hy) hG2 hi ht
mutual
def AllT (Q:T→Prop):T→Prop
 | .mk op a n r tx bk ks=>Q (.mk op a n r tx bk ks)∧AllTs Q ks
def AllTs (Q:T→Prop):List T→Prop
 | []=>True
 | t::ts=>AllT Q t∧AllTs Q ts
end
theorem AllT.open_ {Q:T→Prop}{t:T}(h:AllT Q t):Q t∧AllTs Q t.kids:=by cases t;unfold AllT at h;exact h
theorem AllTs.mem {Q:T→Prop}:∀ {ts:List T},AllTs Q ts→∀t∈ts,AllT Q t
 | [],_,_,h=>by cases h
 | t::ts,h,u,hu=>by
   unfold AllTs at h;rcases List.mem_cons.1 hu with rfl|hu
   ·exact h.1
   ·exact AllTs.mem h.2 u hu
mutual
def HasT (p:T→Bool):T→Bool
 | .mk op a n r tx bk ks=>p (.mk op a n r tx bk ks)||HasTs p ks
def HasTs (p:T→Bool):List T→Bool
 | []=>false
 | t::ts=>HasT p t||HasTs p ts
end
theorem HasT_eq (p:T→Bool)(t:T):HasT p t=(p t||HasTs p t.kids):=by cases t;rw[HasT];rfl
def hit (f:Fault)(t:T):Bool:=decide (t.at_=f.at_)&&decide (t.op=f.op)
def FactF (f:Fault)(t:T):Prop:=f.text.length<549755813888∧(
 (f.e=21∧t.op=9∧let r:=if f.view then(nthR (typesL t.kids) 0).2 else(nthR (typesL t.kids) 0).1
  WF r∧((null r=true∧f.text=[]∧f.i=0∧f.j=0)∨(null r=false∧Built r∧Built (many r)∧shownT r (many r) f.text f.i f.j=true))) ∨
 (f.e=20∧t.op=8∧let x:=if f.view then(nthR (typesL t.kids) 0).2 else(nthR (typesL t.kids) 0).1
  let y:=if f.view then(nthR (typesL t.kids) 1).2 else(nthR (typesL t.kids) 1).1
  WF x∧WF y∧Built x∧Built y∧shownT x y f.text f.i f.j=true))
def QF (f:Fault)(t:T):Prop:=hit f t=true→FactF f t
theorem ats_lt:∀(m:Nat) {t:T} {lo hi:Nat},tsize t≤m→Ats t lo hi→lo<hi
 | 0,t,_,_,hm,_=>by cases t;unfold tsize at hm;omega
 | m+1,t,lo,hi,hm,h=>by
   have hs:tsize t=1+tsizes t.kids:=by cases t;rfl
   have hl:∀(ts:List T) (lo hi:Nat),tsizes ts≤m→AtsL ts lo hi→lo≤hi:=by
    intro ts;induction ts with
    | nil=>intro lo hi _ h;unfold AtsL at h;omega
    | cons t ts ih=>
      intro lo hi hz h;unfold AtsL at h;unfold tsizes at hz;obtain⟨k,h1,h2⟩:=h;have a1:=ats_lt m (t:=t) (by omega) h1;have a2:=ih k hi (by omega) h2;omega
   have:=hl t.kids (lo+1) hi (by omega) h.open_.2;omega
theorem ats_le {t:T}{lo hi:Nat}(h:Ats t lo hi):lo<hi:=ats_lt _ (Nat.le_refl _) h
theorem atsL_le:∀ {ts:List T} {lo hi:Nat},AtsL ts lo hi→lo≤hi
 | [],_,_,h=>by unfold AtsL at h;omega
 | t::ts,lo,hi,h=>by unfold AtsL at h;obtain⟨k,h1,h2⟩:=h;have a1:=ats_le h1;have a2:=atsL_le h2;omega
mutual
theorem qf_out {f:Fault}:∀ {t:T} {lo hi:Nat},Ats t lo hi→(f.at_≤lo∨hi<f.at_)→AllT (QF f) t
 | .mk op a n r tx bk ks,lo,hi,h,ho=>by unfold Ats at h;unfold AllT;have hle:=atsL_le h.2;refine⟨fun hh => ?_,qfL_out h.2 (by omega)⟩;unfold hit at hh;simp only[Bool.and_eq_true]at hh;have e:=of_decide_eq_true hh.1;simp only[T.at_]at e;omega
theorem qfL_out {f:Fault}:∀ {ts:List T} {lo hi:Nat},AtsL ts lo hi→(f.at_≤lo∨hi<f.at_)→AllTs (QF f) ts
 | [],_,_,_,_=>by unfold AllTs;trivial
 | t::ts,lo,hi,h,ho=>by unfold AtsL at h;obtain⟨m,h1,h2⟩:=h;have l1:=ats_le h1;have l2:=atsL_le h2;unfold AllTs;exact⟨qf_out h1 (by omega),qfL_out h2 (by omega)⟩
end
theorem two_fact {e L:Nat}{t:T}{v:Bool}{r:Nat × Option (Option Two)}{f:Fault}(hf:(({ left:=L }:Ck).two e t v r).1.fault=f)(he:f.e=20∨f.e=21):
  (({ left:=L }:Ck).two e t v r).2=false∧f.e=e∧hit f t=true∧f.view=v∧∃w,r.2=some (some w)∧f.text=w.text∧f.i=w.i∧f.j=w.j:=by
 obtain⟨l',_|_|w⟩:=r
 ·rw[←hf]at he;simp[Ck.two,Ck.ok]at he
 ·rw[←hf]at he;simp[Ck.two]at he
 ·rw[←hf];exact⟨rfl,rfl,by simp[Ck.two,Ck.fail,Ck.ok,hit],rfl,w,rfl,rfl,rfl,rfl⟩
theorem both_fact {a:Ck × Bool}{g:Ck→Ck × Bool}{f:Fault}(ha:a.2=true→a.1.fault={})(hf:(Ck.both a g).1.fault=f)(he:f.e=20∨f.e=21):a.1.fault=f∨∃M,M≤a.1.left∧(g { left:=M }).1.fault=f:=by
 unfold Ck.both at hf;split at hf
 ·rename_i e;rw[Ck.eta (ha e)]at hf;exact .inr ⟨_,Nat.le_refl _,hf⟩
 ·exact .inl hf
theorem iter_fact {x:R}{L:Nat}{w:Two}(hx:WF x)(h:(ambigIter x L).2=some (some w)):w.text.length≤L+2∧((null x=true∧w.text=[]∧w.i=0∧w.j=0)∨(null x=false∧Built x∧Built (many x)∧shownT x (many x) w.text w.i w.j=true)):=by
 unfold ambigIter at h;split at h
 ·rename_i e;simp only[Option.some.injEq]at h;rw[←h];exact⟨by simp,.inl ⟨e,rfl,rfl,rfl⟩⟩
 ·rename_i e;obtain⟨b1,b2,b3,b4⟩:=ambigCat_shown (l:=L) (l':=(ambigCat x (many x) L).1) hx (wf_many hx) (Prod.ext rfl h);exact⟨b4,.inr ⟨by simpa using e,b1,b2,b3⟩⟩
theorem conds_fact {t:T}{L:Nat}{f:Fault}(hL:L<274877906944)(hg:CG t)(hs:tsize t<100000)(hf:(conds t (nthR (typesL t.kids) 0) (nthR (typesL t.kids) 1) { left:=L }).1.fault=f)(he:f.e=20∨f.e=21):
  hit f t=true∧FactF f t:=by
 have he0:¬((0:Nat)=20∨(0:Nat)=21):=by omega
 have hts:tsize t=1+tsizes t.kids:=by cases t;rfl
 rcases hg.op5 with e|e|e|e|e
 ·rw[show conds t (nthR (typesL t.kids) 0) (nthR (typesL t.kids) 1) { left:=L }=({ left:=L },true) by unfold conds;rw[if_pos e]]at hf;rw[←hf]at he;exact absurd he he0
 ·rw[show conds t (nthR (typesL t.kids) 0) (nthR (typesL t.kids) 1) { left:=L }=({ left:=L }:Ck).within t t.text (t.re.getD nothing) by unfold conds;rw[if_neg (by omega),if_pos e]]at hf;exfalso;rw[←hf]at he;cases hm:matchR t.text (t.re.getD nothing) with
  | true=>simp[Ck.within,Ck.ok,hm]at he
  | false=>simp[Ck.within,Ck.ok,hm,Ck.fail]at he
 ·rw[show conds t (nthR (typesL t.kids) 0) (nthR (typesL t.kids) 1) { left:=L }=({ left:=L }:Ck).apart t false (nthR (typesL t.kids) 0).1 (nthR (typesL t.kids) 1).1 by unfold conds;rw[if_neg (by omega),if_neg (by omega),if_neg (by omega),if_pos e]]at hf;exfalso;rw[←hf]at he
  change (({ left:=L }:Ck).told 22 t false (shared (nthR (typesL t.kids) 0).1 (nthR (typesL t.kids) 1).1 L)).1.fault.e=20∨(({ left:=L }:Ck).told 22 t false (shared (nthR (typesL t.kids) 0).1 (nthR (typesL t.kids) 1).1 L)).1.fault.e=21 at he;generalize shared (nthR (typesL t.kids) 0).1 (nthR (typesL t.kids) 1).1 L=r at he;obtain⟨l',_|_|w⟩:=r
  ·simp[Ck.told,Ck.ok]at he
  ·simp[Ck.told]at he
  ·simp[Ck.told,Ck.fail,Ck.ok]at he
 ·rw[show conds t (nthR (typesL t.kids) 0) (nthR (typesL t.kids) 1) { left:=L }=Ck.both (({ left:=L }:Ck).splits t false (nthR (typesL t.kids) 0).1 (nthR (typesL t.kids) 1).1) (·.splits t true (nthR (typesL t.kids) 0).2 (nthR (typesL t.kids) 1).2) by unfold conds;rw[if_neg (by omega),if_neg (by omega),if_neg (by omega),if_neg (by omega)]]at hf;obtain⟨x,y,hk,hx,hy⟩:=hg.two (.inr e);rw[hk]at hf
  have gx:=types_good _ x (Nat.le_refl _) hx;have gy:=types_good _ y (Nat.le_refl _) hy;unfold FactF;rw[hk];simp only[typesL,nthR_cons0,nthR_cons1]at hf ⊢;rcases both_fact (fun h=>two_ok (r:=ambigCat (typesOf x).1 (typesOf y).1 L) h) hf he with h|⟨M,hM,h⟩
  ·obtain⟨_,h1,h2,h3,w,h4,h5,h6,h7⟩:=two_fact (e:=20) (t:=t) (v:=false) (r:=ambigCat (typesOf x).1 (typesOf y).1 L) h he;obtain⟨b1,b2,b3,b4⟩:=ambigCat_shown (l:=L) (l':=(ambigCat (typesOf x).1 (typesOf y).1 L).1) gx.w1 gy.w1 (Prod.ext rfl h4);rw[h3,h5,h6,h7];exact⟨h2,by omega,.inr ⟨h1,e,gx.w1,gy.w1,b1,b2,b3⟩⟩
  ·obtain⟨_,h1,h2,h3,w,h4,h5,h6,h7⟩:=two_fact (e:=20) (t:=t) (v:=true) (r:=ambigCat (typesOf x).2 (typesOf y).2 M) h he;obtain⟨b1,b2,b3,b4⟩:=ambigCat_shown (l:=M) (l':=(ambigCat (typesOf x).2 (typesOf y).2 M).1) gx.w2 gy.w2 (Prod.ext rfl h4);rw[h3,h5,h6,h7];have hle:(({ left:=L }:Ck).two 20 t false (ambigCat (typesOf x).1 (typesOf y).1 L)).1.left≤L:=by rw[Ck.two_left];exact ambigCat_le _ _ _
   exact⟨h2,by omega,.inr ⟨h1,e,gx.w2,gy.w2,b1,b2,b3⟩⟩
 ·rw[show conds t (nthR (typesL t.kids) 0) (nthR (typesL t.kids) 1) { left:=L }=Ck.both (({ left:=L }:Ck).iterates t false (nthR (typesL t.kids) 0).1) (·.iterates t true (nthR (typesL t.kids) 0).2) by unfold conds;rw[if_neg (by omega),if_neg (by omega),if_pos e]]at hf;obtain⟨x,hk,hx⟩:=hg.one e;rw[hk]at hf;have gx:=types_good _ x (Nat.le_refl _) hx;unfold FactF;rw[hk]
  simp only[typesL,nthR_cons0]at hf ⊢;rcases both_fact (fun h=>two_ok (r:=ambigIter (typesOf x).1 L) h) hf he with h|⟨M,hM,h⟩
  ·obtain⟨_,h1,h2,h3,w,h4,h5,h6,h7⟩:=two_fact (e:=21) (t:=t) (v:=false) (r:=ambigIter (typesOf x).1 L) h he;rw[h3,h5,h6,h7];have b:=iter_fact gx.w1 h4;exact⟨h2,by have:=b.1;omega,.inl ⟨h1,e,gx.w1,b.2⟩⟩
  ·obtain⟨_,h1,h2,h3,w,h4,h5,h6,h7⟩:=two_fact (e:=21) (t:=t) (v:=true) (r:=ambigIter (typesOf x).2 M) h he;rw[h3,h5,h6,h7];have b:=iter_fact gx.w2 h4;have hle:(({ left:=L }:Ck).two 21 t false (ambigIter (typesOf x).1 L)).1.left≤L:=by rw[Ck.two_left];exact ambigIter_le _ _
   exact⟨h2,by have:=b.1;omega,.inl ⟨h1,e,gx.w2,b.2⟩⟩
theorem both_le {a:Ck × Bool}{g:Ck→Ck × Bool}(hg:∀c,(g c).1.left≤c.left):(Ck.both a g).1.left≤a.1.left:=by
 unfold Ck.both;split
 ·exact hg _
 ·exact Nat.le_refl _
theorem iterates_le (c:Ck)(t:T)(v:Bool)(x:R):(c.iterates t v x).1.left≤c.left:=by
 unfold Ck.iterates;split
 ·rw[Ck.two_left];exact ambigIter_le _ _
 ·exact Nat.le_refl _
theorem splits_le (c:Ck)(t:T)(v:Bool)(x y:R):(c.splits t v x y).1.left≤c.left:=by
 unfold Ck.splits;split
 ·rw[Ck.two_left];exact ambigCat_le _ _ _
 ·exact Nat.le_refl _
theorem conds_le (t:T)(k l:R × R)(c:Ck):(conds t k l c).1.left≤c.left:=by
 unfold conds;split
 ·exact Nat.le_refl _
 ·split
  ·unfold Ck.within;split
   ·split
    ·exact Nat.le_refl _
    ·simp only[Ck.fail_left];exact Nat.le_refl _
   ·exact Nat.le_refl _
  ·split
   ·exact Nat.le_trans (both_le fun c=>iterates_le c _ _ _) (iterates_le _ _ _ _)
   ·split
    ·unfold Ck.apart;split
     ·rw[Ck.told_left];exact witness_le _ _
     ·exact Nat.le_refl _
    ·exact Nat.le_trans (both_le fun c=>splits_le c _ _ _ _) (splits_le _ _ _ _ _)
theorem cside_le (c:Ck)(r:R):(c.side r).1.left≤c.left:=by
 unfold Ck.side;split
 ·have:=side_le r c.left;rcases h:Pv.side r c.left with⟨l',_|s⟩
  ·rw[h]at this;exact this
  ·rw[h]at this;exact this
 ·exact Nat.le_refl _
theorem canonEnd_le (t:T)(kids:List C)(c:Ck):(canonEnd t kids c).1.left≤c.left:=by
 unfold canonEnd;rw[ctypes_eq];have h:=conds_le t (nth kids 0) (nth kids 1) c;generalize conds t (nth kids 0) (nth kids 1) c=q at h ⊢;obtain⟨c1,_|_⟩:=q
 ·exact h
 ·simp only at h ⊢;have h1:=cside_le c1 (tyEnd t (nth kids 0) (nth kids 1)).1;have h2:=cside_le (c1.side (tyEnd t (nth kids 0) (nth kids 1)).1).1 (tyEnd t (nth kids 0) (nth kids 1)).2;split <;> · simp only;omega
mutual
theorem canonOf_le:∀(t:T) (c:Ck),(canonOf t c).1.left≤c.left
 | .mk op a n r tx bk ks,c=>by
   unfold canonOf;split
   ·simp only[Ck.fail_left];exact Nat.le_refl _
   ·have h:=canonsOf_le ks c;rcases hc:canonsOf ks c with⟨c1,_|kids⟩
    ·rw[hc]at h;exact h
    ·rw[hc]at h;exact Nat.le_trans (canonEnd_le _ _ _) h
theorem canonsOf_le:∀(ts:List T) (c:Ck),(canonsOf ts c).1.left≤c.left
 | [],c=>by unfold canonsOf;exact Nat.le_refl _
 | t::ts,c=>by
   unfold canonsOf;have h:=canonOf_le t c;rcases hq:canonOf t c with⟨c1,_|k⟩
   ·rw[hq]at h;exact h
   ·rw[hq]at h;have h2:=canonsOf_le ts c1;rcases hq2:canonsOf ts c1 with⟨c2,_|l⟩
    ·simp only[hq2]at h2 ⊢;exact Nat.le_trans h2 h
    ·simp only[hq2]at h2 ⊢;exact Nat.le_trans h2 h
end
mutual
theorem canon_fact:∀ {t:T} {L lo hi:Nat} {f:Fault},L<274877906944→CG t→Ats t lo hi→tsize t<100000→(canonOf t { left:=L }).1.fault=f→(f.e=20∨f.e=21)→AllT (QF f) t∧HasT (hit f) t=true∧(lo:Int)<f.at_∧f.at_≤hi
 | .mk op a n r tx bk ks,L,lo,hi,f,hL,hg,ha,hz,hf,he=>by
   have ho:=hg.open_;have hk:CGs ks:=ho.2.2.2.2.2.2;have hsh:shapedOf op r.isSome ks.length=true:=ho.2.1;have hco:isCanonOp op=true:=ho.1;have hq:canonOf (.mk op a n r tx bk ks) { left:=L }=(match canonsOf ks { left:=L } with
    | (c,none)=>(c,none)
    | (c,some kids)=>canonEnd (.mk op a n r tx bk ks) kids c):=by
    rw[canonOf,hsh,hco];rfl
   rw[hq]at hf;unfold Ats at ha;unfold tsize at hz;have hle:=atsL_le ha.2;rcases hc:canonsOf ks { left:=L } with⟨c,_|kids⟩
   ·rw[hc]at hf;have h1:=canonsL_fact (ts:=ks) (L:=L) (f:=f) hL hk ha.2 (by omega) (by rw[hc];exact hf) he;have hno:hit f (.mk op a n r tx bk ks)=false:=by unfold hit;rw[Bool.and_eq_false_iff];refine .inl (decide_eq_false ?_);simp only[T.at_];omega
    unfold AllT;rw[HasT];refine⟨⟨(fun hh=>by rw[hno]at hh;cases hh),h1.1⟩,by rw[h1.2.1,Bool.or_true],by omega,h1.2.2.2⟩
   ·rw[hc]at hf;simp only at hf;obtain⟨hl,ht⟩:=canonsOf_types hc;rw[Ck.eta (canonsOf_some hc)]at hf;cases hb:(conds (.mk op a n r tx bk ks) (nth kids 0) (nth kids 1) { left:=c.left }).2 with
    | true=>
      exfalso;have h5:(canonEnd (.mk op a n r tx bk ks) kids { left:=c.left }).1.fault.e≠5:=by rw[hf];omega
      rw[canonEnd_fault hb h5]at hf;rw[←hf]at he;simp at he
    | false=>
      rw[canonEnd_false hb,ht 0,ht 1]at hf;obtain⟨h1,h2⟩:=conds_fact (t:= .mk op a n r tx bk ks) (by have:=canonsOf_le ks { left:=L };rw[hc]at this;simp only at this;omega) hg (by unfold tsize;omega) hf he;have hat:a=f.at_:=by unfold hit at h1;simp only[Bool.and_eq_true]at h1;exact of_decide_eq_true h1.1
      unfold AllT;rw[HasT,h1];exact⟨⟨fun _=>h2,qfL_out ha.2 (.inl (by omega))⟩,rfl,by omega,by omega⟩
theorem canonsL_fact:∀ {ts:List T} {L lo hi:Nat} {f:Fault},L<274877906944→CGs ts→AtsL ts lo hi→tsizes ts<100000→(canonsOf ts { left:=L }).1.fault=f→(f.e=20∨f.e=21)→AllTs (QF f) ts∧HasTs (hit f) ts=true∧(lo:Int)<f.at_∧f.at_≤hi
 | [],L,lo,hi,f,_,_,_,_,hf,he=>by
   unfold canonsOf at hf;rw[←hf]at he;simp at he
 | t::ts,L,lo,hi,f,hL,hg,ha,hz,hf,he=>by
   unfold CGs at hg;unfold AtsL at ha;unfold tsizes at hz;obtain⟨m,h1,h2⟩:=ha;have l1:=ats_le h1;have l2:=atsL_le h2;unfold canonsOf at hf;unfold AllTs;rw[HasTs];rcases hq:canonOf t { left:=L } with⟨c,_|k⟩
   ·rw[hq]at hf;have h3:=canon_fact (t:=t) (L:=L) (f:=f) hL hg.1 h1 (by omega) (by rw[hq];exact hf) he;exact⟨⟨h3.1,qfL_out h2 (.inl h3.2.2.2)⟩,by rw[h3.2.1];rfl,h3.2.2.1,by omega⟩
   ·rw[hq]at hf;simp only at hf;rw[Ck.eta (canonOf_some hq)]at hf;have h4:(canonsOf ts { left:=c.left }).1.fault=f:=by
     rcases hq2:canonsOf ts { left:=c.left } with⟨c2,_|l⟩
     ·rw[hq2]at hf;exact hf
     ·rw[hq2]at hf;exact hf
    have h3:=canonsL_fact (ts:=ts) (L:=c.left) (f:=f) (by have:=canonOf_le t { left:=L };rw[hq]at this;simp only at this;omega) hg.2 h2 (by omega) h4 he;exact⟨⟨qf_out h1 (.inr (by omega)),h3.1⟩,by rw[h3.2.1,Bool.or_true],by omega,h3.2.2.2⟩
end
end Pv
namespace Go.Proofs.YtinpjfnnfkjbmaaGreatDoor
open Go.RowKit Go.Maps
variable {H:Nat→Prop}
set_option maxRecDepth 20000 in
theorem agree_same (f:Pv.Fault)(w:World):Calls Tryz.prog 19 #[FV f,FV f] w fun e w'=>e = .returned (.bool true)∧Below w.heap.size w w':=by
 obtain⟨f0,f1,f2,f3,f4,f5,f6⟩:=f;by_cases h:f0=20
 ·subst h;go_enter Tryz.func19,Tryz.ntmps19;go_wp2_with fail;go_ret;exact⟨rfl,((Below.refl _ _).alloc (Nat.le_refl _) _).alloc (by simp) _⟩
 ·by_cases h2:f0=21
  ·subst h2;go_enter Tryz.func19,Tryz.ntmps19;go_wp2_with fail;go_ret;exact⟨rfl,((Below.refl _ _).alloc (Nat.le_refl _) _).alloc (by simp) _⟩
  ·have a1:((f0:Int)==20)=false:=by simp;omega
   have a2:((f0:Int)==21)=false:=by simp;omega
   have b1:decide ((f0:Int)=20)=false:=decide_eq_false (by omega);have b2:decide ((f0:Int)=21)=false:=decide_eq_false (by omega);clear h h2;go_enter Tryz.func19,Tryz.ntmps19;go_wp2_with fail;go_ret;exact⟨by simp,((Below.refl _ _).alloc (Nat.le_refl _) _).alloc (by simp) _⟩
def ShW (b:Bool)(w:World)(e:Ending)(w':World):Prop:=e = .returned (.bool b)∧Below w.heap.size w w'
set_option maxRecDepth 20000 in
theorem Shown_true (f:Pv.Fault)(x y:Pv.R)(bx by_:Nat)(w:World)(P Q:Pv.R→Prop)(hP:∀r c,P r→P (Pv.by_ c r))(hPs:∀r,P r→Pv.size r≤300000)(hx:P x)(hQ:∀r c,Q r→Q (Pv.by_ c r))(hQs:∀r,Q r→Pv.size r≤300000)(hy:Q y)
  (hax:ReAt H w x bx) (hay:ReAt H w y by_) (hH:∀h,H h→h<w.heap.size) (hlt:f.text.length<549755813888) (hs:Pv.shownT x y f.text f.i f.j=true):
  Calls Tryz.prog 57 #[FV f,Ptr bx,Ptr by_] w (ShW true w):=by
 unfold Pv.shownT at hs;simp only[Bool.and_eq_true,decide_eq_true_eq]at hs;obtain⟨⟨⟨⟨⟨⟨h0,h1⟩,h2⟩,m1⟩,m2⟩,m3⟩,m4⟩:=hs;obtain⟨f0,f1,f2,f3,f4,f5,f6⟩:=f;simp only at h0 h1 h2 m1 m2 m3 m4 hlt;obtain⟨i,rfl⟩:=Int.eq_ofNat_of_zero_le h0;obtain⟨j,rfl⟩:=Int.eq_ofNat_of_zero_le (show 0≤f6 by omega);simp only[Int.toNat_natCast]at m1 m2 m3 m4
 have d1:=fun(W:World) (hW:Below w.heap.size w W)=>dmatch_any (H:=H) P hP hPs x hx bx (f4.take i) W (hax.later hW) (fun h hh=>Nat.lt_of_lt_of_le (hH h hh) hW.size) (by simp;omega)
 have d2:=fun(W:World) (hW:Below w.heap.size w W)=>dmatch_any (H:=H) Q hQ hQs y hy by_ (f4.drop i) W (hay.later hW) (fun h hh=>Nat.lt_of_lt_of_le (hH h hh) hW.size) (by simp;omega)
 have d3:=fun(W:World) (hW:Below w.heap.size w W)=>dmatch_any (H:=H) P hP hPs x hx bx (f4.take j) W (hax.later hW) (fun h hh=>Nat.lt_of_lt_of_le (hH h hh) hW.size) (by simp;omega)
 have d4:=fun(W:World) (hW:Below w.heap.size w W)=>dmatch_any (H:=H) Q hQ hQs y hy by_ (f4.drop j) W (hay.later hW) (fun h hh=>Nat.lt_of_lt_of_le (hH h hh) hW.size) (by simp;omega)
 rw[m1]at d1;rw[m2]at d2;rw[m3]at d3;rw[m4]at d4;have s1:Str (f4.take i) = .string ((⟨f4.toArray⟩:ByteArray).extract 0 i):=by rw[str_extract,List.drop_zero]
 have s2:Str (f4.drop i) = .string ((⟨f4.toArray⟩:ByteArray).extract i f4.length):=by rw[str_extract,List.take_length]
 have s3:Str (f4.take j) = .string ((⟨f4.toArray⟩:ByteArray).extract 0 j):=by rw[str_extract,List.drop_zero]
 have s4:Str (f4.drop j) = .string ((⟨f4.toArray⟩:ByteArray).extract j f4.length):=by rw[str_extract,List.take_length]
 rw[s1]at d1;rw[s2]at d2;rw[s3]at d3;rw[s4]at d4;clear s1 s2 s3 s4;have D1:=Hy d1;have D2:=Hy d2;have D3:=Hy d3;have D4:=Hy d4;have e2:decide (j≤i)=false:=decide_eq_false (by omega);have e3:decide (f4.length<j)=false:=decide_eq_false (by omega);have h2':=Hy h2;have h1':=Hy h1;clear d1 d2 d3 d4 m1 m2 m3 m4 hP hPs hQ hQs hax hay hH h0 h1 h2;go_enter Tryz.func57,Tryz.ntmps57;go_upto_region 3 with fail
 have hi0:(0:Int)≤i:=by omega
 have hj0:(0:Int)≤j:=by omega
 have hil:(i:Int)≤f4.length:=by have:=h1'.out;have:=h2'.out;omega
 have hjl:(j:Int)≤f4.length:=h2'.out;clear e2 e3;go_wp2_with fail;have hb1:Below w.heap.size w (w.alloc (.cells (faultC ⟨f0,f1,f2,f3,f4,i,j⟩) 45)):=(Below.refl _ _).alloc (Nat.le_refl _) _;have hf1:(w.alloc (.cells (faultC ⟨f0,f1,f2,f3,f4,i,j⟩) 45)).heap[w.heap.size]?=some (.cells (faultC ⟨f0,f1,f2,f3,f4,i,j⟩) 45):=blk_new rfl;generalize w.alloc (.cells (faultC ⟨f0,f1,f2,f3,f4,i,j⟩) 45)=w1 at *
 refine(D1.out w1 hb1).mono ?_;rintro e w2 ⟨rfl,hb2⟩;have HB:=Hy (hb1.trans (hb2.mono hb1.size));have HF:=Hy (later_blk hb2 hf1);clear hb1 hb2 hf1 D1;obtain⟨x0,x1,x2,x3,x4,x5,x6,fr⟩:=fl_cells HF.out;go_wp2_with fail;clear x0 x1 x2 x3 x4 x5 x6 fr;refine(D2.out w2 HB.out).mono ?_;rintro e w3 ⟨rfl,hb2⟩;replace HB:=Hy (HB.out.trans (hb2.mono HB.out.size));replace HF:=Hy (later_blk hb2 HF.out)
 clear hb2 D2;obtain⟨x0,x1,x2,x3,x4,x5,x6,fr⟩:=fl_cells HF.out;go_wp2_with fail;clear x0 x1 x2 x3 x4 x5 x6 fr;refine(D3.out w3 HB.out).mono ?_;rintro e w4 ⟨rfl,hb2⟩;replace HB:=Hy (HB.out.trans (hb2.mono HB.out.size));replace HF:=Hy (later_blk hb2 HF.out);clear hb2 D3;obtain⟨x0,x1,x2,x3,x4,x5,x6,fr⟩:=fl_cells HF.out;go_wp2_with fail;clear x0 x1 x2 x3 x4 x5 x6 fr;refine(D4.out w4 HB.out).mono ?_
 rintro e w5 ⟨rfl,hb2⟩;replace HB:=Hy (HB.out.trans (hb2.mono HB.out.size));replace HF:=Hy (later_blk hb2 HF.out);clear hb2 D4;obtain⟨x0,x1,x2,x3,x4,x5,x6,fr⟩:=fl_cells HF.out;go_wp2_with fail;go_ret;exact⟨rfl,HB.out⟩
end Go.Proofs.YtinpjfnnfkjbmaaGreatDoor
namespace Pv
theorem HasTs_get {p:T→Bool}:∀ {ts:List T} {k:Nat} (h:k<ts.length),HasT p ts[k]=true→HasTs p ts=true
 | t::ts,0,_,h=>by
   simp only[List.getElem_cons_zero]at h;rw[HasTs,h];rfl
 | t::ts,k+1,hk,h=>by simp only[List.getElem_cons_succ]at h;rw[HasTs,HasTs_get (by simpa using hk) h,Bool.or_true]
theorem HasTs_none {p:T→Bool}:∀ {ts:List T},(∀k (h:k<ts.length),HasT p ts[k]=false)→HasTs p ts=false
 | [],_=>rfl
 | t::ts,h=>by rw[HasTs,HasTs_none (fun k hk=>h (k+1) (by simpa using hk))];have:=h 0 (by simp);simp only[List.getElem_cons_zero]at this;rw[this];rfl
end Pv
namespace Go.Proofs.YtinpjfnnfkjbmaaGreatDoor
open Go.RowKit Go.Maps
set_option maxRecDepth 20000 in
set_option maxHeartbeats 4000000 in
theorem wlk17_any (Q:Pv.T→Prop)(hQk:∀t,Q t→t.kids.length<1099511627776)(p:Pv.T→Bool)(g fb r:Nat)(eg:Hid (Enters Tryz.prog g))(I:Bool→World→Prop)
  (hyes:∀(t:Pv.T) (tb:Nat) (w:World),Q t→p t=true→TAt (· = r) w t tb→I false w→Calls Tryz.prog g #[Ptr tb,Ptr fb,Ptr r] w fun e w'=>e = .returned (.bool false)∧I true w'∧Keep (· = r) w w')
  (hno:∀(t:Pv.T) (tb:Nat) (w:World),Q t→p t=false→TAt (· = r) w t tb→I false w→Calls Tryz.prog g #[Ptr tb,Ptr fb,Ptr r] w fun e w'=>e = .returned (.bool true)∧I false w'∧Keep (· = r) w w'):
  ∀(m:Nat) (t:Pv.T) (tb:Nat) (w:World),Pv.tsize t≤m→Pv.AllT Q t→TAt (· = r) w t tb→I false w→Calls Tryz.prog 51 #[Ptr tb,.func (.func g) #[] #[Ptr fb,Ptr r]] w fun e w'=>e = .returned (.bool (!Pv.HasT p t))∧I (Pv.HasT p t) w'∧Keep (· = r) w w'
 | 0,t,_,_,hm,_,_,_=>by have:=tsize_eq t;omega
 | m+1,t,tb,w,hm,hq,hat,hI=>by
   obtain⟨a,c,bs,t0,t4,t5,t6,hsl,hts,hlen⟩:=hat.cells;have hseq:=tsize_eq t;have heq:=Pv.HasT_eq p t;have hq1:=hq.open_.1;have hkl:=hQk t hq1;have hbs:bs.length<1099511627776:=by omega
   obtain⟨htb,rv,a',c',bs',_,hnr,hterm,_⟩:=hat.open_;have hHa:∀blk off,a=some ⟨blk,off,none⟩→¬(blk=r):=by
    intro blk off e;have h6:w.cell? ⟨tb,6,none⟩=some (.slice a' bs'.length c'):=cB (o:=6) hterm rfl;rw[t6]at h6;injection h6 with h6
    injection h6 with h6
    exact(hnr blk off (by rw[←h6];exact e)).1
   have hterm':TermAt w tb t.op t.at_ t.name rv t.text t.back (.slice a' bs'.length c'):=hterm;cases hp:p t with
   | true=>
     rw[hp,Bool.true_or]at heq;rw[heq];have HSt:=Hy (hyes t tb w hq1 hp hat hI);clear hsl hts hlen hseq heq hm hat t0 t4 t5 t6 hkl hterm hterm' hnr hHa hI hp hq hq1;go_enter Tryz.func51,Tryz.ntmps51;go_wp2_with fail;go_simp;rw[eg.out];refine HSt.out.mono ?_;rintro e w1 ⟨rfl,hI1,hk1⟩;have HFin:=Hy (And.intro hI1 hk1);clear hI1 hk1 HSt;go_wp2_with fail;go_ret;exact⟨rfl,HFin.out⟩
   | false=>
     rw[hp,Bool.false_or]at heq;have HTm:=Hy hterm';have HT6:=Hy t6;have HSt:=Hy (hno t tb w hq1 hp hat hI);have Hsl:=Hy hsl;have Hts:=Hy hts;have HL:=Hy hlen;have HSe:=Hy hseq;have HEq:=Hy heq;have HM:=Hy hm;have HPk:=Hy hq.open_.2;have HHa:=Hy hHa;clear hsl hts hlen hseq heq hm hat t0 t4 t5 t6 hkl hterm hterm' hnr hHa hI hp hq hq1;go_enter Tryz.func51,Tryz.ntmps51;go_wp2_with fail;go_simp;rw[eg.out]
     refine HSt.out.mono ?_;rintro e w1 ⟨rfl,hI1,hk1⟩;have t6:w1.cell? ⟨tb,6,none⟩=some (.slice a bs.length c):=hk1.cell htb HT6.out;have HI1:=Hy hI1;have HK1:=Hy hk1;clear hI1 hk1 HSt;go_wp2_with fail;go_loopw [18] (fun i wr=>∃(k:Nat),k≤bs.length∧i = .int .i64 k∧Hid (I false wr)∧Hid (∀j (h:j<t.kids.length),j<k→Pv.HasT p t.kids[j]=false)∧Hid (Keep (· = r) w wr)) (fun i _=>(bs.length-intOf i).toNat)
     case atStart=>exact⟨0,by omega,rfl,HI1,(fun _ _ h=>by omega),HK1.out⟩
     case round=>
      obtain⟨k,hk,rfl,HI,HN,HK⟩:=hrel;by_cases hkn:k<bs.length
      ·have hkk2:k<t.kids.length:=by rw[←HL.out];exact hkn
       obtain⟨hkb,hatk⟩:=Hts.out.get k hkk2;obtain⟨blk,off,rfl,hbl,hcl⟩:=Hsl.out.at_ (by simp;omega);have hc0:=HK.out.cell (HHa.out blk off rfl) (hcl k (by simpa using hkn));rw[List.getElem_map]at hc0;have hts1:=Pv.tsizes_get hkk2
       have hcall:=wlk17_any Q hQk p g fb r eg I hyes hno m (t.kids[k]'hkk2) bs[k] wr (by have:=HM.out;have:=HSe.out;omega) (HPk.out.mem _ (List.getElem_mem hkk2)) (hatk.keep HK.out) HI.out;have hk':(k:Int)<bs.length:=by omega
       have hk40:(k:Int)<1099511627776:=by omega
       cases hh:Pv.HasT p (t.kids[k]'hkk2) with
       | true=>
         rw[hh]at hcall;have HCall:=Hy hcall;have hyt:=HEq.out.trans (Pv.HasTs_get hkk2 hh);have HY:=Hy hyt;clear hcall hts1 hcl hatk HI hh hyt HN;go_wp2_with fail;refine HCall.out.mono ?_;rintro e w2 ⟨rfl,hI2,hk2⟩;have HFin:Hid (I (Pv.HasT p t) w2∧Keep (· = r) w w2):=⟨by rw[HY.out];exact hI2,HK.out.trans hk2⟩
         clear hI2 hk2 HCall hc0;go_wp2_with fail;go_ret;exact⟨by rw[HY.out];rfl,HFin.out⟩
       | false=>
         rw[hh]at hcall;have HCall:=Hy hcall;have hnn:∀j (h:j<t.kids.length),j<k+1→Pv.HasT p t.kids[j]=false:=fun j h hj=>by
          by_cases e:j=k
          ·subst e;exact hh
          ·exact HN.out j h (by omega)
         have HN2:=Hy hnn;clear hcall hts1 hcl hatk HI hh hnn HN;go_wp2_with fail;refine HCall.out.mono ?_;rintro e w2 ⟨rfl,hI2,hk2⟩;have HI2:=Hy hI2;have HK2:=Hy (HK.out.trans hk2);clear hI2 hk2 HCall hc0;go_wp2_with fail;go_roundw
         case rel=>exact⟨k+1,by omega,by go_num,HI2,HN2.out,HK2.out⟩
         case measure=>simp[intOf];omega
      ·have hkn2:¬((k:Int)<bs.length):=by omega
       have hnt:Pv.HasT p t=false:=HEq.out.trans (Pv.HasTs_none fun j hj=>HN.out j hj (by have:=HL.out;omega));have HFin:Hid (I (Pv.HasT p t) wr∧Keep (· = r) w wr):=⟨by rw[hnt];exact HI.out,HK.out⟩
       have HY:=Hy hnt;clear HI HN hnt;go_wp2_with fail;go_ret;exact⟨by rw[HY.out];rfl,HFin.out⟩
end Go.Proofs.YtinpjfnnfkjbmaaGreatDoor
