/- Plain Lean: by how many states a canonizer's term is told, by layers 6 to 9. -/
import Derived.Test.YtamkfdlcdiadlaaGreatDoorKb04
import Derived.Test.YtamkfdlcdiadlaaGreatDoorKb37
import Derived.Test.YtamkfdlcdiadlaaGreatDoorKb05
import Derived.Test.YtamkfdlcdiadlaaGreatDoorKb20
import Derived.Test.YtamkfdlcdiadlaaGreatDoorKb30
import Derived.Test.YtamkfdlcdiadlaaGreatDoorKb12
set_option linter.all false
namespace Pv
def cnt (r:R):Option Nat:=(build r 300).2.map fun D=>D.yes.length
def pairN (x y:R):Option Nat:=match cnt x,cnt y with
 | some m,some n=>some (pairs m n)
 | _,_=>none
def sumO:List (Option Nat)→Option Nat
 | []=>some 0
 | none::_=>none
 | some n::l=>(sumO l).map (n + ·)
theorem sumO_cons {o:Option Nat}{l:List (Option Nat)}{N:Nat}(h:sumO (o::l)=some N):∃x y,o=some x∧sumO l=some y∧N=x+y:=by
 cases o with
 | none=>cases h
 | some x=>
   rw[sumO]at h;cases hl:sumO l with
   | none=>rw[hl]at h;cases h
   | some y=>rw[hl]at h;simp at h;exact⟨x,y,rfl,rfl,h.symm⟩
theorem sumO_append:∀ {a b:List (Option Nat)} {N:Nat},sumO (a++b)=some N→∃x y,sumO a=some x∧sumO b=some y∧N=x+y
 | [],b,N,h=>⟨0,N,rfl,h,by omega⟩
 | o::a,b,N,h=>by obtain⟨x,y,rfl,h2,rfl⟩:=sumO_cons (show sumO (o::(a++b))=some N from h);obtain⟨x2,y2,h3,h4,rfl⟩:=sumO_append h2;exact⟨x+x2,y2,by rw[sumO,h3];rfl,h4,by omega⟩
theorem sumO_app {a b:List (Option Nat)}{x y:Nat}(ha:sumO a=some x)(hb:sumO b=some y):sumO (a++b)=some (x+y):=by
 induction a generalizing x with
 | nil=>cases ha;rw[List.nil_append,hb,Nat.zero_add]
 | cons o a ih=>
   obtain⟨p,q,rfl,h2,rfl⟩:=sumO_cons ha;rw[List.cons_append,sumO,ih h2,Option.map_some];congr 1;omega
def exprsOf (t:T):List R:=[(typesOf t).1,back (typesOf t).1,(typesOf t).2,back (typesOf t).2]++(if t.op=7 then [both [(nthR (typesL t.kids) 0).1,(nthR (typesL t.kids) 1).1]] else [])
def pairsAsk (op:Nat)(k l:R × R):List (R × R):=if op=9 then [(k.1,many k.1),(k.2,many k.2)] else if op=8 then [(k.1,l.1),(k.2,l.2)] else []
def pairsOf (t:T):List (R × R):=pairsAsk t.op (nthR (typesL t.kids) 0) (nthR (typesL t.kids) 1)
mutual
def enoughOf:T→Option Nat
 | .mk op a n r tx bk ks=>sumO (enoughL ks++((exprsOf (.mk op a n r tx bk ks)).map cnt++(pairsOf (.mk op a n r tx bk ks)).map fun p=>pairN p.1 p.2))
def enoughL:List T→List (Option Nat)
 | []=>[]
 | t::ts=>enoughOf t::enoughL ts
end
theorem enoughOf_eq (t:T):enoughOf t=sumO (enoughL t.kids++((exprsOf t).map cnt++(pairsOf t).map fun p=>pairN p.1 p.2)):=by cases t;rw[enoughOf];rfl
theorem cnt_build {r:R}{m:Nat}(h:cnt r=some m):∃L L' D,build r L=(L',some D)∧D.yes.length=m∧m≤300:=by
 unfold cnt at h;rcases e:build r 300 with⟨l',_|D⟩
 ·rw[e]at h;cases h
 ·rw[e]at h;simp at h;have:=(build_ok e).2;exact⟨_,_,D,e,h,by omega⟩
theorem pairN_some {x y:R}{N:Nat}(h:pairN x y=some N):∃m n,cnt x=some m∧cnt y=some n∧N=pairs m n:=by
 unfold pairN at h;split at h
 ·rename_i m n h1 h2;exact⟨m,n,h1,h2,by simpa using h.symm⟩
 ·cases h
theorem pairN_cat {x y:R}{N:Nat}(h:pairN x y=some N):Enough N (ambigCat x y):=by obtain⟨m,n,h1,h2,rfl⟩:=pairN_some h;obtain⟨_,_,A,hA,rfl,_⟩:=cnt_build h1;obtain⟨_,_,B,hB,rfl,_⟩:=cnt_build h2;exact ambigCat_enough hA hB
theorem pairN_iter {x:R}{N:Nat}(h:pairN x (many x)=some N):Enough N (ambigIter x):=by obtain⟨m,n,h1,h2,rfl⟩:=pairN_some h;obtain⟨_,_,A,hA,rfl,_⟩:=cnt_build h1;obtain⟨_,_,B,hB,rfl,_⟩:=cnt_build h2;exact ambigIter_enough hA hB
theorem cnt_witness {r:R}{N:Nat}(h:cnt r=some N):Enough N (witness r):=by obtain⟨_,_,D,hD,rfl,_⟩:=cnt_build h;exact witness_enough hD
theorem cnt_side {r:R}{m n:Nat}(h:cnt r=some m)(h2:cnt (back r)=some n):Enough (m+n) (side r):=by obtain⟨_,_,D,hD,rfl,_⟩:=cnt_build h;obtain⟨_,_,E,hE,rfl,_⟩:=cnt_build h2;exact side_enough hD hE
def Fed (N L:Nat)(c:Ck):Prop:=c.fault.e≠5∧L≤c.left+N
theorem told_fed {F:Nat→Nat × Option (Option (List UInt8))}{N:Nat}(h:Enough N F){L:Nat}(hL:N≤L){e:Nat}(he:e≠5)(t:T)(v:Bool):Fed N L (({ left:=L }:Ck).told e t v (F L)).1:=by
 obtain⟨l',a,e1,h1⟩:=h L hL;rw[e1];cases a with
 | none=>exact⟨by simp[Ck.told],h1⟩
 | some w=>exact⟨by simpa [Ck.told,Ck.fail,Ck.ok] using he,by simpa [Ck.told,Ck.fail,Ck.ok] using h1⟩
theorem two_fed {F:Nat→Nat × Option (Option Two)}{N:Nat}(h:Enough N F){L:Nat}(hL:N≤L){e:Nat}(he:e≠5)(t:T)(v:Bool):Fed N L (({ left:=L }:Ck).two e t v (F L)).1:=by
 obtain⟨l',a,e1,h1⟩:=h L hL;rw[e1];cases a with
 | none=>exact⟨by simp[Ck.two],h1⟩
 | some w=>exact⟨by simpa [Ck.two,Ck.fail,Ck.ok] using he,by simpa [Ck.two,Ck.fail,Ck.ok] using h1⟩
theorem both_fed {a:Ck × Bool}{f:Ck→Ck × Bool}{N M L:Nat}(ha:Fed N L a.1)(hok:a.2=true→a.1.fault={})(hf:∀l,M≤l→Fed M l (f { left:=l }).1)(hL:N+M≤L):Fed (N+M) L (Ck.both a f).1:=by
 unfold Ck.both;split
 ·rename_i h;have e:=Ck.eta (hok h);have h1:=ha.2;rw[e];have h2:=hf a.1.left (by omega);exact⟨h2.1,by have:=h2.2;omega⟩
 ·exact⟨ha.1,by have:=ha.2;omega⟩
def condN (t:T)(k l:R × R):List (Option Nat):=(if t.op=7 then [cnt (both [k.1,l.1])] else [])++(pairsAsk t.op k l).map fun p=>pairN p.1 p.2
theorem conds_fed {t:T}{k l:R × R}{N:Nat}(h5:t.op=16∨t.op=17∨t.op=7∨t.op=8∨t.op=9)(h:sumO (condN t k l)=some N){L:Nat}(hL:N≤L):Fed N L (conds t k l { left:=L }).1:=by
 unfold condN pairsAsk at h;unfold conds;rcases h5 with e|e|e|e|e
 ·rw[if_pos e];exact⟨by simp,Nat.le_add_right _ _⟩
 ·rw[if_neg (by omega),if_pos e];unfold Ck.within;rw[if_pos (by rfl)];split
  ·exact⟨by simp,Nat.le_add_right _ _⟩
  ·exact⟨by simp[Ck.fail,Ck.ok],by simp[Ck.fail,Ck.ok]⟩
 ·rw[if_neg (by omega),if_neg (by omega),if_neg (by omega),if_pos e];rw[if_pos e,if_neg (by omega),if_neg (by omega)]at h;obtain⟨x,y,h1,h2,rfl⟩:=sumO_cons h;cases h2;exact told_fed (F:=shared k.1 l.1) (cnt_witness h1) hL (by decide) t false
 ·rw[if_neg (by omega),if_neg (by omega),if_neg (by omega),if_neg (by omega)];rw[if_neg (by omega),if_neg (by omega),if_pos e]at h;obtain⟨x,y,h1,h2,rfl⟩:=sumO_cons h;obtain⟨x2,y2,h3,h4,rfl⟩:=sumO_cons h2;cases h4
  exact both_fed (N:=x) (M:=x2) (two_fed (F:=ambigCat k.1 l.1) (pairN_cat h1) (by omega) (by decide) t false) (fun h=>two_ok (r:=ambigCat k.1 l.1 L) h) (fun l' hl=>two_fed (F:=ambigCat k.2 l.2) (pairN_cat h3) hl (by decide) t true) (by omega)
 ·rw[if_neg (by omega),if_neg (by omega),if_pos e];rw[if_neg (by omega),if_pos e]at h;obtain⟨x,y,h1,h2,rfl⟩:=sumO_cons h;obtain⟨x2,y2,h3,h4,rfl⟩:=sumO_cons h2;cases h4;exact both_fed (N:=x) (M:=x2) (two_fed (F:=ambigIter k.1) (pairN_iter h1) (by omega) (by decide) t false) (fun h=>two_ok (r:=ambigIter k.1 L) h) (fun l' hl=>two_fed (F:=ambigIter k.2) (pairN_iter h3) hl (by decide) t true) (by omega)
theorem side_fed {r:R}{m n:Nat}(h:cnt r=some m)(h2:cnt (back r)=some n){L:Nat}(hL:m+n≤L):∃l' s,({ left:=L }:Ck).side r=({ left:=l' },some s)∧L≤l'+(m+n):=by obtain⟨l',s,e,h1⟩:=cnt_side h h2 L hL;refine⟨l',s,?_,h1⟩;have hq:({ left:=L }:Ck).side r=(match Pv.side r L with|(l,none)=>(({ left:=l,fault:={ e:=5 } }:Ck),none)|(l,some s)=>(({ left:=l }:Ck),some s)):=rfl;rw[hq,e]
theorem canonEnd_fed {t:T}{kids:List C}{N a b c d:Nat}(h5:t.op=16∨t.op=17∨t.op=7∨t.op=8∨t.op=9)(h:sumO (condN t (nth kids 0) (nth kids 1))=some N)
  (ha:cnt (tyEnd t (nth kids 0) (nth kids 1)).1=some a) (hb:cnt (back (tyEnd t (nth kids 0) (nth kids 1)).1)=some b) (hc:cnt (tyEnd t (nth kids 0) (nth kids 1)).2=some c) (hd:cnt (back (tyEnd t (nth kids 0) (nth kids 1)).2)=some d)
  {L:Nat} (hL:a+b+c+d+N≤L):Fed (a+b+c+d+N) L (canonEnd t kids { left:=L }).1:=by
 have h1:=conds_fed h5 h (show N≤L by omega);cases hq:(conds t (nth kids 0) (nth kids 1) { left:=L }).2 with
 | false=>
   rw[canonEnd_false hq];exact⟨h1.1,by have:=h1.2;simp only;omega⟩
 | true=>
   have h0:=Ck.eta (conds_ok hq);unfold canonEnd;rw[ctypes_eq];generalize conds t (nth kids 0) (nth kids 1) { left:=L }=q at h1 h0 hq ⊢;obtain⟨k,bb⟩:=q;simp only at hq h0 h1;subst hq;rw[h0];have h12:=h1.2;obtain⟨l1,s1,e1,g1⟩:=side_fed ha hb (L:=k.left) (by omega);obtain⟨l2,s2,e2,g2⟩:=side_fed hc hd (L:=l1) (by omega);simp only;rw[e1];simp only;rw[e2];exact⟨by simp,by simp only;omega⟩
theorem enough_split {t:T}{N:Nat}(h:enoughOf t=some N):∃K M a b c d,sumO (enoughL t.kids)=some K∧sumO (condN t (nthR (typesL t.kids) 0) (nthR (typesL t.kids) 1))=some M ∧
  cnt (typesOf t).1=some a∧cnt (back (typesOf t).1)=some b∧cnt (typesOf t).2=some c∧cnt (back (typesOf t).2)=some d∧N=K+(a+b+c+d+M):=by
 rw[enoughOf_eq]at h;obtain⟨K,R1,h1,h2,rfl⟩:=sumO_append h;unfold exprsOf at h2;rw[List.map_append,List.append_assoc]at h2;obtain⟨S,M,h3,h4,rfl⟩:=sumO_append h2;obtain⟨a,_,ha,h5,rfl⟩:=sumO_cons h3;obtain⟨b,_,hb,h6,rfl⟩:=sumO_cons h5;obtain⟨c,_,hc,h7,rfl⟩:=sumO_cons h6;obtain⟨d,_,hd,h8,rfl⟩:=sumO_cons h7;cases h8;refine⟨K,M,a,b,c,d,h1,?_,ha,hb,hc,hd,by omega⟩;unfold condN
 have e:(if t.op=7 then [cnt (both [(nthR (typesL t.kids) 0).1,(nthR (typesL t.kids) 1).1])] else [])=(if t.op=7 then [both [(nthR (typesL t.kids) 0).1,(nthR (typesL t.kids) 1).1]] else []).map cnt:=by split<;>rfl
 rw[e];exact h4
mutual
theorem canonOf_fed:∀ {t:T} {N L:Nat},CG t→enoughOf t=some N→N≤L→Fed N L (canonOf t { left:=L }).1
 | .mk op a n r tx bk ks,N,L,hg,h,hL=>by
   have ho:=hg.open_;have hk:CGs ks:=ho.2.2.2.2.2.2;have hsh:shapedOf op r.isSome ks.length=true:=ho.2.1;have hco:isCanonOp op=true:=ho.1;have hq:canonOf (.mk op a n r tx bk ks) { left:=L }=(match canonsOf ks { left:=L } with
    | (c,none)=>(c,none)
    | (c,some kids)=>canonEnd (.mk op a n r tx bk ks) kids c):=by
    rw[canonOf,hsh,hco];rfl
   obtain⟨K,M,a1,b1,c1,d1,e1,e2,ha,hb,hc,hd,rfl⟩:=enough_split h;have hn:=canonsOf_fed (ts:=ks) (L:=L) hk e1 (by omega);rw[hq];rcases hcs:canonsOf ks { left:=L } with⟨c,_|kids⟩
   ·rw[hcs]at hn;exact⟨hn.1,by have:=hn.2;simp only at this ⊢;omega⟩
   ·rw[hcs]at hn;have hn2:=hn.2;simp only at hn2 ⊢;rw[Ck.eta (canonsOf_some hcs)];obtain⟨_,ht⟩:=canonsOf_types hcs;rw[typesOf_eq]at ha hb hc hd;simp only[T.kids]at e2 ha hb hc hd;rw[←ht 0,←ht 1]at e2 ha hb hc hd;have h9:=canonEnd_fed hg.op5 e2 ha hb hc hd (L:=c.left) (by omega);exact⟨h9.1,by have:=h9.2;omega⟩
theorem canonsOf_fed:∀ {ts:List T} {N L:Nat},CGs ts→sumO (enoughL ts)=some N→N≤L→Fed N L (canonsOf ts { left:=L }).1
 | [],N,L,_,_,_=>⟨by simp[canonsOf],by simp[canonsOf]⟩
 | t::ts,N,L,hg,h,hL=>by
   unfold CGs at hg;rw[enoughL]at h;obtain⟨x,y,h1,h2,rfl⟩:=sumO_cons h;have hn:=canonOf_fed (L:=L) hg.1 h1 (by omega);unfold canonsOf;rcases hq:canonOf t { left:=L } with⟨c,_|k⟩
   ·rw[hq]at hn;exact⟨hn.1,by have:=hn.2;simp only at this ⊢;omega⟩
   ·rw[hq]at hn;have hn2:=hn.2;simp only at hn2 ⊢;rw[Ck.eta (canonOf_some hq)];have h4:=canonsOf_fed (ts:=ts) (L:=c.left) hg.2 h2 (by omega);have h42:=h4.2;rcases hq2:canonsOf ts { left:=c.left } with⟨c2,_|l⟩
    ·rw[hq2]at h4 h42;exact⟨h4.1,by simp only at h42 ⊢;omega⟩
    ·rw[hq2]at h4 h42;exact⟨h4.1,by simp only at h42 ⊢;omega⟩
end
mutual
theorem judge_fed:∀ {t:T} {N L:Nat},CG t→enoughOf t=some N→N≤L→Fed N L (judge t { left:=L })
 | .mk op a n r tx bk ks,N,L,hg,h,hL=>by
   have ho:=hg.open_;have hk:CGs ks:=ho.2.2.2.2.2.2;obtain⟨K,M,a1,b1,c1,d1,e1,e2,_,_,_,_,rfl⟩:=enough_split h;have hn:=judgeL_fed (ts:=ks) (L:=L) hk e1 (by omega);have hn2:=hn.2;rw[judge_eq];change Fed _ _ (judgeE _ (nthR (typesL ks) 0) (nthR (typesL ks) 1) (judgeL ks { left:=L }));unfold judgeE;split
   ·rename_i e;simp only[Ck.ok,beq_iff_eq]at e;rw[Ck.eta (judgeL_ok e)];have h9:=conds_fed hg.op5 e2 (L:=(judgeL ks { left:=L }).left) (by omega);exact⟨h9.1,by have:=h9.2;simp only[T.kids]at this;omega⟩
   ·exact⟨hn.1,by omega⟩
theorem judgeL_fed:∀ {ts:List T} {N L:Nat},CGs ts→sumO (enoughL ts)=some N→N≤L→Fed N L (judgeL ts { left:=L })
 | [],N,L,_,_,_=>⟨by simp[judgeL],by simp[judgeL]⟩
 | t::ts,N,L,hg,h,hL=>by
   unfold CGs at hg;rw[enoughL]at h;obtain⟨x,y,h1,h2,rfl⟩:=sumO_cons h;have hn:=judge_fed (L:=L) hg.1 h1 (by omega);have hn2:=hn.2;unfold judgeL;simp only;split
   ·rename_i e;simp only[Ck.ok,beq_iff_eq]at e;rw[Ck.eta (judge_ok e)];have h4:=judgeL_fed (ts:=ts) (L:=(judge t { left:=L }).left) hg.2 h2 (by omega);exact⟨h4.1,by have:=h4.2;omega⟩
   ·exact⟨hn.1,by omega⟩
end
theorem canon_same {t:T}{N:Nat}(hg:CG t)(h:enoughOf t=some N){m:Nat}(hm:(canonOf t { left:=m }).1.fault.e≠5):(canonOf t { left:=m }).1.fault=(canonOf t { left:=N }).1.fault:=by have h1:=(judge_fed hg h (Nat.le_refl N)).1;rw[judge_canon hg hm h1,judge_canon hg (canonOf_fed hg h (Nat.le_refl N)).1 h1]
theorem pairs_le {m n:Nat}(hm:m≤300)(hn:n≤300):pairs m n≤270900:=by unfold pairs;have h1:m*n≤300*300:=Nat.mul_le_mul hm hn;have h2:n*n≤300*300:=Nat.mul_le_mul hn hn;rw[Nat.mul_assoc];omega
theorem cnt_le {r:R}{m:Nat}(h:cnt r=some m):m≤300:=by obtain⟨_,_,_,_,_,h⟩:=cnt_build h;exact h
theorem pairN_le {x y:R}{N:Nat}(h:pairN x y=some N):N≤270900:=by obtain⟨m,n,h1,h2,rfl⟩:=pairN_some h;exact pairs_le (cnt_le h1) (cnt_le h2)
theorem sumO_le {b:Nat}:∀ {l:List (Option Nat)} {N:Nat},(∀o∈l,∀n,o=some n→n≤b)→sumO l=some N→N≤b*l.length
 | [],N,_,h=>by cases h;exact Nat.zero_le _
 | o::l,N,hb,h=>by obtain⟨x,y,rfl,h2,rfl⟩:=sumO_cons h;have h1:=hb _ (by simp) x rfl;have h3:=sumO_le (fun o ho=>hb o (List.mem_cons_of_mem _ ho)) h2;rw[List.length_cons,Nat.mul_add,Nat.mul_one];omega
mutual
theorem enough_le:∀ {t:T} {N:Nat},enoughOf t=some N→N≤543300*tsize t
 | .mk op a n r tx bk ks,N,h=>by
   rw[enoughOf_eq]at h;simp only[T.kids]at h;obtain⟨K,R1,h1,h2,rfl⟩:=sumO_append h;obtain⟨x,y,h3,h4,rfl⟩:=sumO_append h2;have g1:=enoughL_le h1;have g2:=sumO_le (b:=300) (fun o ho n hn=>by obtain⟨r,_,rfl⟩:=List.mem_map.1 ho;exact cnt_le hn) h3
   have g3:=sumO_le (b:=270900) (fun o ho n hn=>by obtain⟨r,_,rfl⟩:=List.mem_map.1 ho;exact pairN_le hn) h4
   have e1:((exprsOf (.mk op a n r tx bk ks)).map cnt).length≤5:=by rw[List.length_map];unfold exprsOf;rw[List.length_append];split<;>simp
   have e2:((pairsOf (.mk op a n r tx bk ks)).map fun p=>pairN p.1 p.2).length≤2:=by rw[List.length_map];unfold pairsOf pairsAsk;split<;>(try split)<;>simp
   have e3:tsize (.mk op a n r tx bk ks)=1+tsizes ks:=by rw[tsize]
   rw[e3];generalize ((exprsOf (.mk op a n r tx bk ks)).map cnt).length=p at *;generalize ((pairsOf (.mk op a n r tx bk ks)).map fun p=>pairN p.1 p.2).length=q at *;omega
theorem enoughL_le:∀ {ts:List T} {N:Nat},sumO (enoughL ts)=some N→N≤543300*tsizes ts
 | [],N,h=>by cases h;exact Nat.zero_le _
 | t::ts,N,h=>by rw[enoughL]at h;obtain⟨x,y,h1,h2,rfl⟩:=sumO_cons h;have g1:=enough_le h1;have g2:=enoughL_le h2;rw[tsizes];omega
end
end Pv
namespace Go.Proofs.YtamkfdlcdiadlaaGreatDoor
open Go.RowKit Go.Maps
variable {H:Nat→Prop}
def NumW (B:Nat)(o:Option Nat)(w:World)(e:Ending)(w':World):Prop:=∃(n:Nat) (b:Bool),e = .returned (.tuple #[.int .i64 (n:Int),.bool b])∧b=o.isSome∧(∀m,o=some m→n=m)∧n≤B∧Below w.heap.size w w'
theorem lenN_any (w:World):Pure 90 #[.pointer none] w (.int .i64 0):=by go_enter Tryz.func90,Tryz.ntmps90;go_wp2_with fail;go_ret;exact⟨rfl,rfl⟩
set_option maxRecDepth 20000 in
theorem count_any (r:Pv.R)(b:Nat)(w:World)(hat:ReAt H w r b)(hT:Tab w)(hH:∀h,H h→h<w.heap.size)(hsz:Pv.size r<549755813888):
  Calls Tryz.prog 54 #[Ptr b] w (NumW 300 (Pv.cnt r) w):=by
 have HAt:=Hy hat;have HT:=Hy hT;clear hat hT;go_enter Tryz.func54,Tryz.ntmps54;go_wp2_with fail;refine(grant_any 300 (by decide) w).mono ?_;rintro e w1 ⟨rfl,hg,hb,hz⟩;obtain⟨bb,hbb⟩:∃n,w.heap.size=n:=⟨_,rfl⟩
 rw[hbb]at hg hz ⊢;have HA1:=Hy ((HAt.out.widen (H':=fun x=>H x∨x=bb) fun x h=>by
  rcases h with h|h
  ·exact .inl h
  ·exact .inr (by omega)).later hb)
 have HT1:=Hy (HT.out.later hb);have HG:=Hy hg;have HB:=Hy hb;clear hg hb;go_wp2_with fail;have hH1:∀h,(H h∨h=bb)→h<w1.heap.size:=fun h hh=>by
  rcases hh with hh|hh
  ·have:=hH h hh;omega
  ·omega
 refine build_main (H:=fun x=>H x∨x=bb) _ r b bb 300 0 w1 HT1.out HA1.out HG.out (.inr rfl) hH1 hsz (by decide) ?_ ?_
 ·intro w2 hb1 _ hk;have hd:Below w.heap.size w w2:=HB.out.trans (hk.below HB.out.size fun x e=>by rw[e];omega);have HD:=Hy hd;have hcn:Pv.cnt r=none:=by unfold Pv.cnt;rw[hb1];rfl
  have HCn:=Hy hcn;have hl:=lenN_any w2;clear hb1 hk hd hcn;go_wp2_with fail;refine hl.mono ?_;rintro e w3 ⟨rfl,rfl⟩;go_wp2_with fail;refine bodyPost_ret (v:= .tuple #[.int .i64 0,.bool false]) (by simp[results,Tryz.results54,go_sem]) rfl ?_;exact⟨0,false,rfl,by rw[HCn.out];rfl,(fun m h=>by rw[HCn.out]at h;cases h),by omega,HD.out⟩
 ·intro w2 D d hb1 hdat _ _ hk;have hd:Below w.heap.size w w2:=HB.out.trans (hk.below HB.out.size fun x e=>by rw[e];omega);have HD:=Hy hd;have hcn:Pv.cnt r=some D.yes.length:=by unfold Pv.cnt;rw[hb1];rfl
  have hle:=Pv.cnt_le hcn;have HCn:=Hy hcn;have hl:=len_any D d w2 hdat;clear hb1 hk hd hcn hdat;go_wp2_with fail;refine hl.mono ?_;rintro e w3 ⟨rfl,rfl⟩;go_wp2_with fail;refine bodyPost_ret (v:= .tuple #[.int .i64 (D.yes.length:Int),.bool true]) (by simp[results,Tryz.results54,go_sem]) rfl ?_;exact⟨D.yes.length,true,rfl,by rw[HCn.out];rfl,(fun m h=>by rw[HCn.out]at h;simpa using h),hle,HD.out⟩
set_option maxRecDepth 20000 in
theorem pair_any (x y:Pv.R)(a b:Nat)(w:World)(hx:ReAt H w x a)(hy:ReAt H w y b)(hT:Tab w)(hH:∀h,H h→h<w.heap.size)(hsx:Pv.size x<549755813888)(hsy:Pv.size y<549755813888):
  Calls Tryz.prog 55 #[Ptr a,Ptr b] w (NumW 270900 (Pv.pairN x y) w):=by
 have HX:=Hy hx;have HY:=Hy hy;have HT:=Hy hT;clear hx hy hT;go_enter Tryz.func55,Tryz.ntmps55;go_wp2_with fail;refine(count_any (H:=H) x a w HX.out HT.out hH hsx).mono ?_;rintro e w1 ⟨m,p,rfl,hp,hm,hm3,hb1⟩;have HB1:=Hy hb1;have HPp:=Hy hp;have HMm:=Hy hm;have HY1:=Hy (HY.out.later hb1);have HT1:=Hy (HT.out.later hb1);have hsz:=hb1.size;clear hb1 HX HY HT hp hm;go_wp2_with fail
 refine(count_any (H:=H) y b w1 HY1.out HT1.out (fun h hh=>by have:=hH h hh;omega) hsy).mono ?_;rintro e w2 ⟨n,q,rfl,hq,hn,hn3,hb2⟩;have HB:=Hy (HB1.out.trans (hb2.mono hsz));clear hb2 HY1 HT1 HB1;have hmn:m*n≤90000:=Nat.mul_le_mul hm3 hn3;have hnn:n*n≤90000:=Nat.mul_le_mul hn3 hn3;have hw:∀z:Nat,z≤1000000→IntKind.i64.wrap (z:Int)=(z:Int):=fun z hz=>by rw[IntKind.wrap_i64]<;>omega
 have h2mn:2*m*n≤180000:=by rw[Nat.mul_assoc];omega
 have h1:IntKind.i64.wrap ((m:Int)+n)=(m:Int)+n:=hw (m+n) (by omega);have h2:IntKind.i64.wrap ((m:Int)+n+m)=(m:Int)+n+m:=hw (m+n+m) (by omega);have h3:IntKind.i64.wrap (2*(m:Int))=2*(m:Int):=hw (2*m) (by omega);have h4:IntKind.i64.wrap (2*(m:Int)*n)=2*(m:Int)*n:=hw (2*m*n) (by omega);have h5:IntKind.i64.wrap ((m:Int)+n+m+2*(m:Int)*n)=(m:Int)+n+m+2*(m:Int)*n:=hw (m+n+m+2*m*n) (by omega)
 have h6:IntKind.i64.wrap ((n:Int)*n)=(n:Int)*n:=hw (n*n) (by omega);have h7:IntKind.i64.wrap ((m:Int)+n+m+2*(m:Int)*n+(n:Int)*n)=((Pv.pairs m n:Nat):Int):=hw (m+n+m+2*m*n+n*n) (by omega);have hfin:∀(b:Bool),b=(p&&q)→NumW 270900 (Pv.pairN x y) w (.returned (.tuple #[.int .i64 ((Pv.pairs m n:Nat):Int),.bool b])) w2:=fun b hb=>by
  refine⟨Pv.pairs m n,b,rfl,?_,?_,Pv.pairs_le hm3 hn3,HB.out⟩
  ·rw[hb,HPp.out,hq];unfold Pv.pairN;cases Pv.cnt x<;>cases Pv.cnt y<;>rfl
  ·intro z hz;obtain⟨m2,n2,e1,e2,e3⟩:=Pv.pairN_some hz;rw[e3,HMm.out m2 e1,hn n2 e2]
 have HFin:=Hy hfin;clear hfin hq hn hmn hnn h2mn hw;cases p
 ·go_wp2_with fail;refine bodyPost_ret (v:= .tuple #[.int .i64 ((Pv.pairs m n:Nat):Int),.bool false]) (by simp[results,Tryz.results55,go_sem]) rfl ?_;exact HFin.out false rfl
 ·go_wp2_with fail;refine bodyPost_ret (v:= .tuple #[.int .i64 ((Pv.pairs m n:Nat):Int),.bool q]) (by simp[results,Tryz.results55,go_sem]) rfl ?_;exact HFin.out q rfl
end Go.Proofs.YtamkfdlcdiadlaaGreatDoor
namespace Go.Proofs.YtamkfdlcdiadlaaGreatDoor
open Go.RowKit Go.Maps
variable {H:Nat→Prop}
theorem shp_2 (tb:Nat)(at_:Int)(name text back:List UInt8)(w:World)(rv:Value)(a:Option Addr)(n c:Nat)(rb:Nat)(h:TermAt w tb 2 at_ name (Ptr rb) text back (.slice a n c)):Pure 92 #[Ptr tb] w (.bool ((n:Int)==0)):=by
 have h0:w.cell? ⟨tb,0,none⟩=some (.int .i64 2):=cB (o:=0) h rfl;have h3:w.cell? ⟨tb,3,none⟩=some (Ptr rb):=cB (o:=3) h rfl;have h6:w.cell? ⟨tb,6,none⟩=some (.slice a n c):=cB (o:=6) h rfl;clear h;go_enter Tryz.func92,Tryz.ntmps92;go_wp2_with fail;go_ret;exact⟨rfl,rfl⟩
theorem shp_3 (tb:Nat)(at_:Int)(name text back:List UInt8)(w:World)(rv:Value)(a:Option Addr)(n c:Nat)(rb:Nat)(h:TermAt w tb 3 at_ name (Ptr rb) text back (.slice a n c)):Pure 92 #[Ptr tb] w (.bool ((n:Int)==0)):=by
 have h0:w.cell? ⟨tb,0,none⟩=some (.int .i64 3):=cB (o:=0) h rfl;have h3:w.cell? ⟨tb,3,none⟩=some (Ptr rb):=cB (o:=3) h rfl;have h6:w.cell? ⟨tb,6,none⟩=some (.slice a n c):=cB (o:=6) h rfl;clear h;go_enter Tryz.func92,Tryz.ntmps92;go_wp2_with fail;go_ret;exact⟨rfl,rfl⟩
theorem shp_4 (tb:Nat)(at_:Int)(name text back:List UInt8)(w:World)(rv:Value)(a:Option Addr)(n c:Nat)(rb:Nat)(h:TermAt w tb 4 at_ name (Ptr rb) text back (.slice a n c)):Pure 92 #[Ptr tb] w (.bool ((n:Int)==0)):=by
 have h0:w.cell? ⟨tb,0,none⟩=some (.int .i64 4):=cB (o:=0) h rfl;have h3:w.cell? ⟨tb,3,none⟩=some (Ptr rb):=cB (o:=3) h rfl;have h6:w.cell? ⟨tb,6,none⟩=some (.slice a n c):=cB (o:=6) h rfl;clear h;go_enter Tryz.func92,Tryz.ntmps92;go_wp2_with fail;go_ret;exact⟨rfl,rfl⟩
theorem shp_5 (tb:Nat)(at_:Int)(name text back:List UInt8)(w:World)(rv:Value)(a:Option Addr)(n c:Nat)(rb:Nat)(h:TermAt w tb 5 at_ name (Ptr rb) text back (.slice a n c)):Pure 92 #[Ptr tb] w (.bool ((n:Int)==0)):=by
 have h0:w.cell? ⟨tb,0,none⟩=some (.int .i64 5):=cB (o:=0) h rfl;have h3:w.cell? ⟨tb,3,none⟩=some (Ptr rb):=cB (o:=3) h rfl;have h6:w.cell? ⟨tb,6,none⟩=some (.slice a n c):=cB (o:=6) h rfl;clear h;go_enter Tryz.func92,Tryz.ntmps92;go_wp2_with fail;go_ret;exact⟨rfl,rfl⟩
theorem shp_16 (tb:Nat)(at_:Int)(name text back:List UInt8)(w:World)(rv:Value)(a:Option Addr)(n c:Nat)(rb:Nat)(h:TermAt w tb 16 at_ name (Ptr rb) text back (.slice a n c)):Pure 92 #[Ptr tb] w (.bool ((n:Int)==0)):=by
 have h0:w.cell? ⟨tb,0,none⟩=some (.int .i64 16):=cB (o:=0) h rfl;have h3:w.cell? ⟨tb,3,none⟩=some (Ptr rb):=cB (o:=3) h rfl;have h6:w.cell? ⟨tb,6,none⟩=some (.slice a n c):=cB (o:=6) h rfl;clear h;go_enter Tryz.func92,Tryz.ntmps92;go_wp2_with fail;go_ret;exact⟨rfl,rfl⟩
theorem shp_17 (tb:Nat)(at_:Int)(name text back:List UInt8)(w:World)(rv:Value)(a:Option Addr)(n c:Nat)(rb:Nat)(h:TermAt w tb 17 at_ name (Ptr rb) text back (.slice a n c)):Pure 92 #[Ptr tb] w (.bool ((n:Int)==0)):=by
 have h0:w.cell? ⟨tb,0,none⟩=some (.int .i64 17):=cB (o:=0) h rfl;have h3:w.cell? ⟨tb,3,none⟩=some (Ptr rb):=cB (o:=3) h rfl;have h6:w.cell? ⟨tb,6,none⟩=some (.slice a n c):=cB (o:=6) h rfl;clear h;go_enter Tryz.func92,Tryz.ntmps92;go_wp2_with fail;go_ret;exact⟨rfl,rfl⟩
theorem shp_6 (tb:Nat)(at_:Int)(name text back:List UInt8)(w:World)(rv:Value)(a:Option Addr)(n c:Nat)  (h:TermAt w tb 6 at_ name (rv) text back (.slice a n c)):Pure 92 #[Ptr tb] w (.bool ((n:Int)==0)):=by
 have h0:w.cell? ⟨tb,0,none⟩=some (.int .i64 6):=cB (o:=0) h rfl;have h3:w.cell? ⟨tb,3,none⟩=some (rv):=cB (o:=3) h rfl;have h6:w.cell? ⟨tb,6,none⟩=some (.slice a n c):=cB (o:=6) h rfl;clear h;go_enter Tryz.func92,Tryz.ntmps92;go_wp2_with fail;go_ret;exact⟨rfl,rfl⟩
theorem shpn_2 (tb:Nat)(at_:Int)(name text back:List UInt8)(w:World)(a:Option Addr)(n c:Nat)(h:TermAt w tb 2 at_ name (.pointer none) text back (.slice a n c)):Pure 92 #[Ptr tb] w (.bool false):=by
 have h0:w.cell? ⟨tb,0,none⟩=some (.int .i64 2):=cB (o:=0) h rfl;have h3:w.cell? ⟨tb,3,none⟩=some (.pointer none):=cB (o:=3) h rfl;have h6:w.cell? ⟨tb,6,none⟩=some (.slice a n c):=cB (o:=6) h rfl;clear h;go_enter Tryz.func92,Tryz.ntmps92;go_wp2_with fail;go_ret;exact⟨rfl,rfl⟩
theorem shpn_3 (tb:Nat)(at_:Int)(name text back:List UInt8)(w:World)(a:Option Addr)(n c:Nat)(h:TermAt w tb 3 at_ name (.pointer none) text back (.slice a n c)):Pure 92 #[Ptr tb] w (.bool false):=by
 have h0:w.cell? ⟨tb,0,none⟩=some (.int .i64 3):=cB (o:=0) h rfl;have h3:w.cell? ⟨tb,3,none⟩=some (.pointer none):=cB (o:=3) h rfl;have h6:w.cell? ⟨tb,6,none⟩=some (.slice a n c):=cB (o:=6) h rfl;clear h;go_enter Tryz.func92,Tryz.ntmps92;go_wp2_with fail;go_ret;exact⟨rfl,rfl⟩
theorem shpn_4 (tb:Nat)(at_:Int)(name text back:List UInt8)(w:World)(a:Option Addr)(n c:Nat)(h:TermAt w tb 4 at_ name (.pointer none) text back (.slice a n c)):Pure 92 #[Ptr tb] w (.bool false):=by
 have h0:w.cell? ⟨tb,0,none⟩=some (.int .i64 4):=cB (o:=0) h rfl;have h3:w.cell? ⟨tb,3,none⟩=some (.pointer none):=cB (o:=3) h rfl;have h6:w.cell? ⟨tb,6,none⟩=some (.slice a n c):=cB (o:=6) h rfl;clear h;go_enter Tryz.func92,Tryz.ntmps92;go_wp2_with fail;go_ret;exact⟨rfl,rfl⟩
theorem shpn_5 (tb:Nat)(at_:Int)(name text back:List UInt8)(w:World)(a:Option Addr)(n c:Nat)(h:TermAt w tb 5 at_ name (.pointer none) text back (.slice a n c)):Pure 92 #[Ptr tb] w (.bool false):=by
 have h0:w.cell? ⟨tb,0,none⟩=some (.int .i64 5):=cB (o:=0) h rfl;have h3:w.cell? ⟨tb,3,none⟩=some (.pointer none):=cB (o:=3) h rfl;have h6:w.cell? ⟨tb,6,none⟩=some (.slice a n c):=cB (o:=6) h rfl;clear h;go_enter Tryz.func92,Tryz.ntmps92;go_wp2_with fail;go_ret;exact⟨rfl,rfl⟩
theorem shpn_16 (tb:Nat)(at_:Int)(name text back:List UInt8)(w:World)(a:Option Addr)(n c:Nat)(h:TermAt w tb 16 at_ name (.pointer none) text back (.slice a n c)):Pure 92 #[Ptr tb] w (.bool false):=by
 have h0:w.cell? ⟨tb,0,none⟩=some (.int .i64 16):=cB (o:=0) h rfl;have h3:w.cell? ⟨tb,3,none⟩=some (.pointer none):=cB (o:=3) h rfl;have h6:w.cell? ⟨tb,6,none⟩=some (.slice a n c):=cB (o:=6) h rfl;clear h;go_enter Tryz.func92,Tryz.ntmps92;go_wp2_with fail;go_ret;exact⟨rfl,rfl⟩
theorem shpn_17 (tb:Nat)(at_:Int)(name text back:List UInt8)(w:World)(a:Option Addr)(n c:Nat)(h:TermAt w tb 17 at_ name (.pointer none) text back (.slice a n c)):Pure 92 #[Ptr tb] w (.bool false):=by
 have h0:w.cell? ⟨tb,0,none⟩=some (.int .i64 17):=cB (o:=0) h rfl;have h3:w.cell? ⟨tb,3,none⟩=some (.pointer none):=cB (o:=3) h rfl;have h6:w.cell? ⟨tb,6,none⟩=some (.slice a n c):=cB (o:=6) h rfl;clear h;go_enter Tryz.func92,Tryz.ntmps92;go_wp2_with fail;go_ret;exact⟨rfl,rfl⟩
theorem shp_7 (tb:Nat)(at_:Int)(name text back:List UInt8)(w:World)(rv:Value)(a:Option Addr)(n c:Nat)  (h:TermAt w tb 7 at_ name (rv) text back (.slice a n c)):Pure 92 #[Ptr tb] w (.bool ((n:Int)==2)):=by
 have h0:w.cell? ⟨tb,0,none⟩=some (.int .i64 7):=cB (o:=0) h rfl;have h3:w.cell? ⟨tb,3,none⟩=some (rv):=cB (o:=3) h rfl;have h6:w.cell? ⟨tb,6,none⟩=some (.slice a n c):=cB (o:=6) h rfl;clear h;go_enter Tryz.func92,Tryz.ntmps92;go_wp2_with fail;go_ret;exact⟨rfl,rfl⟩
theorem shp_8 (tb:Nat)(at_:Int)(name text back:List UInt8)(w:World)(rv:Value)(a:Option Addr)(n c:Nat)  (h:TermAt w tb 8 at_ name (rv) text back (.slice a n c)):Pure 92 #[Ptr tb] w (.bool ((n:Int)==2)):=by
 have h0:w.cell? ⟨tb,0,none⟩=some (.int .i64 8):=cB (o:=0) h rfl;have h3:w.cell? ⟨tb,3,none⟩=some (rv):=cB (o:=3) h rfl;have h6:w.cell? ⟨tb,6,none⟩=some (.slice a n c):=cB (o:=6) h rfl;clear h;go_enter Tryz.func92,Tryz.ntmps92;go_wp2_with fail;go_ret;exact⟨rfl,rfl⟩
theorem shp_10 (tb:Nat)(at_:Int)(name text back:List UInt8)(w:World)(rv:Value)(a:Option Addr)(n c:Nat)  (h:TermAt w tb 10 at_ name (rv) text back (.slice a n c)):Pure 92 #[Ptr tb] w (.bool ((n:Int)==2)):=by
 have h0:w.cell? ⟨tb,0,none⟩=some (.int .i64 10):=cB (o:=0) h rfl;have h3:w.cell? ⟨tb,3,none⟩=some (rv):=cB (o:=3) h rfl;have h6:w.cell? ⟨tb,6,none⟩=some (.slice a n c):=cB (o:=6) h rfl;clear h;go_enter Tryz.func92,Tryz.ntmps92;go_wp2_with fail;go_ret;exact⟨rfl,rfl⟩
theorem shp_11 (tb:Nat)(at_:Int)(name text back:List UInt8)(w:World)(rv:Value)(a:Option Addr)(n c:Nat)  (h:TermAt w tb 11 at_ name (rv) text back (.slice a n c)):Pure 92 #[Ptr tb] w (.bool ((n:Int)==2)):=by
 have h0:w.cell? ⟨tb,0,none⟩=some (.int .i64 11):=cB (o:=0) h rfl;have h3:w.cell? ⟨tb,3,none⟩=some (rv):=cB (o:=3) h rfl;have h6:w.cell? ⟨tb,6,none⟩=some (.slice a n c):=cB (o:=6) h rfl;clear h;go_enter Tryz.func92,Tryz.ntmps92;go_wp2_with fail;go_ret;exact⟨rfl,rfl⟩
theorem shp_14 (tb:Nat)(at_:Int)(name text back:List UInt8)(w:World)(rv:Value)(a:Option Addr)(n c:Nat)  (h:TermAt w tb 14 at_ name (rv) text back (.slice a n c)):Pure 92 #[Ptr tb] w (.bool ((n:Int)==2)):=by
 have h0:w.cell? ⟨tb,0,none⟩=some (.int .i64 14):=cB (o:=0) h rfl;have h3:w.cell? ⟨tb,3,none⟩=some (rv):=cB (o:=3) h rfl;have h6:w.cell? ⟨tb,6,none⟩=some (.slice a n c):=cB (o:=6) h rfl;clear h;go_enter Tryz.func92,Tryz.ntmps92;go_wp2_with fail;go_ret;exact⟨rfl,rfl⟩
theorem shp_15 (tb:Nat)(at_:Int)(name text back:List UInt8)(w:World)(rv:Value)(a:Option Addr)(n c:Nat)  (h:TermAt w tb 15 at_ name (rv) text back (.slice a n c)):Pure 92 #[Ptr tb] w (.bool ((n:Int)==2)):=by
 have h0:w.cell? ⟨tb,0,none⟩=some (.int .i64 15):=cB (o:=0) h rfl;have h3:w.cell? ⟨tb,3,none⟩=some (rv):=cB (o:=3) h rfl;have h6:w.cell? ⟨tb,6,none⟩=some (.slice a n c):=cB (o:=6) h rfl;clear h;go_enter Tryz.func92,Tryz.ntmps92;go_wp2_with fail;go_ret;exact⟨rfl,rfl⟩
theorem shp_9 (tb:Nat)(at_:Int)(name text back:List UInt8)(w:World)(rv:Value)(a:Option Addr)(n c:Nat)  (h:TermAt w tb 9 at_ name (rv) text back (.slice a n c)):Pure 92 #[Ptr tb] w (.bool ((n:Int)==1)):=by
 have h0:w.cell? ⟨tb,0,none⟩=some (.int .i64 9):=cB (o:=0) h rfl;have h3:w.cell? ⟨tb,3,none⟩=some (rv):=cB (o:=3) h rfl;have h6:w.cell? ⟨tb,6,none⟩=some (.slice a n c):=cB (o:=6) h rfl;clear h;go_enter Tryz.func92,Tryz.ntmps92;go_wp2_with fail;go_ret;exact⟨rfl,rfl⟩
theorem shp_12 (tb:Nat)(at_:Int)(name text back:List UInt8)(w:World)(rv:Value)(a:Option Addr)(n c:Nat)  (h:TermAt w tb 12 at_ name (rv) text back (.slice a n c)):Pure 92 #[Ptr tb] w (.bool ((n:Int)==1)):=by
 have h0:w.cell? ⟨tb,0,none⟩=some (.int .i64 12):=cB (o:=0) h rfl;have h3:w.cell? ⟨tb,3,none⟩=some (rv):=cB (o:=3) h rfl;have h6:w.cell? ⟨tb,6,none⟩=some (.slice a n c):=cB (o:=6) h rfl;clear h;go_enter Tryz.func92,Tryz.ntmps92;go_wp2_with fail;go_ret;exact⟨rfl,rfl⟩
theorem shp_13 (tb:Nat)(at_:Int)(name text back:List UInt8)(w:World)(rv:Value)(a:Option Addr)(n c:Nat)  (h:TermAt w tb 13 at_ name (rv) text back (.slice a n c)):Pure 92 #[Ptr tb] w (.bool ((n:Int)==1)):=by
 have h0:w.cell? ⟨tb,0,none⟩=some (.int .i64 13):=cB (o:=0) h rfl;have h3:w.cell? ⟨tb,3,none⟩=some (rv):=cB (o:=3) h rfl;have h6:w.cell? ⟨tb,6,none⟩=some (.slice a n c):=cB (o:=6) h rfl;clear h;go_enter Tryz.func92,Tryz.ntmps92;go_wp2_with fail;go_ret;exact⟨rfl,rfl⟩
theorem nat_eqb (n m:Nat):((n:Int)==(m:Int))=(n==m):=by rw[Bool.eq_iff_iff];simp only[beq_iff_eq];omega
def RvO (re:Option Pv.R)(rv:Value):Prop:=if re.isSome then ∃b,rv=Ptr b else rv = .pointer none
theorem ReO.rv {w:World}:∀ {re:Option Pv.R} {rv:Value},ReO H w re rv→RvO re rv
 | none,_,h=>h
 | some _,_,h=>by obtain⟨b,e,_⟩:=h;exact⟨b,e⟩
theorem shaped_all (op tb:Nat)(at_:Int)(name text back:List UInt8)(w:World)(re:Option Pv.R)(rv:Value)(hr:RvO re rv)(a:Option Addr)(n c:Nat)(h2:2≤op)(h17:op≤17)(h:TermAt w tb op at_ name rv text back (.slice a n c)):
  Pure 92 #[Ptr tb] w (.bool (Pv.shapedOf op re.isSome n)):=by
 have e0:((n:Int)==0)=(n==0):=nat_eqb n 0;have e1:((n:Int)==1)=(n==1):=nat_eqb n 1;have e2:((n:Int)==2)=(n==2):=nat_eqb n 2;have hop:op=2∨op=3∨op=4∨op=5∨op=16∨op=17∨op=6∨op=7∨op=8∨op=10∨op=11∨op=14∨op=15∨op=9∨op=12∨op=13:=by omega
 rcases hop with rfl|rfl|rfl|rfl|rfl|rfl|rfl|rfl|rfl|rfl|rfl|rfl|rfl|rfl|rfl|rfl
 ·cases re with
  | none=>have hr':rv = .pointer none:=hr;subst hr';exact shpn_2 tb at_ name text back w a n c h
  | some r=>obtain⟨rb,rfl⟩:=hr;have:=shp_2 tb at_ name text back w (Ptr rb) a n c rb h;rw[e0]at this;simpa [Pv.shapedOf] using this
 ·cases re with
  | none=>have hr':rv = .pointer none:=hr;subst hr';exact shpn_3 tb at_ name text back w a n c h
  | some r=>obtain⟨rb,rfl⟩:=hr;have:=shp_3 tb at_ name text back w (Ptr rb) a n c rb h;rw[e0]at this;simpa [Pv.shapedOf] using this
 ·cases re with
  | none=>have hr':rv = .pointer none:=hr;subst hr';exact shpn_4 tb at_ name text back w a n c h
  | some r=>obtain⟨rb,rfl⟩:=hr;have:=shp_4 tb at_ name text back w (Ptr rb) a n c rb h;rw[e0]at this;simpa [Pv.shapedOf] using this
 ·cases re with
  | none=>have hr':rv = .pointer none:=hr;subst hr';exact shpn_5 tb at_ name text back w a n c h
  | some r=>obtain⟨rb,rfl⟩:=hr;have:=shp_5 tb at_ name text back w (Ptr rb) a n c rb h;rw[e0]at this;simpa [Pv.shapedOf] using this
 ·cases re with
  | none=>have hr':rv = .pointer none:=hr;subst hr';exact shpn_16 tb at_ name text back w a n c h
  | some r=>obtain⟨rb,rfl⟩:=hr;have:=shp_16 tb at_ name text back w (Ptr rb) a n c rb h;rw[e0]at this;simpa [Pv.shapedOf] using this
 ·cases re with
  | none=>have hr':rv = .pointer none:=hr;subst hr';exact shpn_17 tb at_ name text back w a n c h
  | some r=>obtain⟨rb,rfl⟩:=hr;have:=shp_17 tb at_ name text back w (Ptr rb) a n c rb h;rw[e0]at this;simpa [Pv.shapedOf] using this
 ·have:=shp_6 tb at_ name text back w rv a n c h;rw[e0]at this;simpa [Pv.shapedOf] using this
 ·have:=shp_7 tb at_ name text back w rv a n c h;rw[e2]at this;simpa [Pv.shapedOf] using this
 ·have:=shp_8 tb at_ name text back w rv a n c h;rw[e2]at this;simpa [Pv.shapedOf] using this
 ·have:=shp_10 tb at_ name text back w rv a n c h;rw[e2]at this;simpa [Pv.shapedOf] using this
 ·have:=shp_11 tb at_ name text back w rv a n c h;rw[e2]at this;simpa [Pv.shapedOf] using this
 ·have:=shp_14 tb at_ name text back w rv a n c h;rw[e2]at this;simpa [Pv.shapedOf] using this
 ·have:=shp_15 tb at_ name text back w rv a n c h;rw[e2]at this;simpa [Pv.shapedOf] using this
 ·have:=shp_9 tb at_ name text back w rv a n c h;rw[e1]at this;simpa [Pv.shapedOf] using this
 ·have:=shp_12 tb at_ name text back w rv a n c h;rw[e1]at this;simpa [Pv.shapedOf] using this
 ·have:=shp_13 tb at_ name text back w rv a n c h;rw[e1]at this;simpa [Pv.shapedOf] using this
end Go.Proofs.YtamkfdlcdiadlaaGreatDoor
namespace Go.Proofs.YtamkfdlcdiadlaaGreatDoor
open Go.RowKit Go.Maps
variable {H:Nat→Prop}
theorem shaped_len {op:Nat}{re:Bool}{n:Nat}(h:Pv.shapedOf op re n=true):n≤2:=by
 unfold Pv.shapedOf at h;split at h
 ·simp only[Bool.and_eq_true,beq_iff_eq]at h;omega
 ·split at h
  ·simp only[beq_iff_eq]at h;omega
  ·split at h
   ·simp only[beq_iff_eq]at h;omega
   ·split at h
    ·simp only[beq_iff_eq]at h;omega
    ·cases h
theorem tsize_eq (t:Pv.T):Pv.tsize t=1+Pv.tsizes t.kids:=by cases t;rfl
end Go.Proofs.YtamkfdlcdiadlaaGreatDoor
