/- Plain Lean: by how many states what is asked of the layers 6 to 9 is told. -/
import Derived.Test.YtamkfdlcdiadlaaGreatDoorKb03
import Derived.Test.YtamkfdlcdiadlaaGreatDoorKb01
set_option linter.all false
namespace Pv
def Enough {α:Type}(N:Nat)(F:Nat→Nat × Option α):Prop:=∀l,N≤l→∃l' a,F l=(l',some a)∧l≤l'+N
theorem stateOf_down {x:R}{all a:List R}{l l' q:Nat}(k:Nat)(h:stateOf x all (l+k)=some (a,l'+k,q)):stateOf x all l=some (a,l',q):=by
 unfold stateOf at h ⊢;cases e:findKey (key x) all 0 with
 | some p=>
   rw[e]at h;simp only[Option.some.injEq,Prod.mk.injEq]at h ⊢;exact⟨h.1,by omega,h.2.2⟩
 | none=>
   rw[e]at h;simp only at h ⊢;split at h
   ·cases h
   ·rename_i e2;rw[if_neg e2];split at h
    ·cases h
    ·simp only[Option.some.injEq,Prod.mk.injEq]at h;rw[if_neg (by omega)];simp only[Option.some.injEq,Prod.mk.injEq];exact⟨h.1,by omega,h.2.2⟩
theorem stateOf_len {x:R}{all a:List R}{l l' q:Nat}(h:stateOf x all l=some (a,l',q)):all.length≤a.length∧l'≤l:=by
 unfold stateOf at h;split at h
 ·cases h;exact⟨Nat.le_refl _,Nat.le_refl _⟩
 ·split at h
  ·cases h
  ·split at h
   ·cases h
   ·cases h;exact⟨by simp,by omega⟩
theorem buildRow_len {x:R}:∀ {hs:List UInt8} {all:List R} {l l':Nat} {row:List Nat} {res:List R × List Nat},buildRow x hs all l row=(l',some res)→all.length≤res.1.length
 | [],all,l,l',row,res,h=>by unfold buildRow at h;cases h;exact Nat.le_refl _
 | b::hs,all,l,l',row,res,h=>by
   unfold buildRow at h;split at h
   ·cases h
   ·rename_i e;have:=(stateOf_len e).1;have:=buildRow_len h;omega
theorem buildRow_down {x:R}(k:Nat):∀ {hs:List UInt8} {all:List R} {l l':Nat} {row:List Nat} {res:List R × List Nat},buildRow x hs all (l+k) row=(l'+k,some res)→buildRow x hs all l row=(l',some res)
 | [],all,l,l',row,res,h=>by
   unfold buildRow at h ⊢;simp only[Prod.mk.injEq]at h ⊢;exact⟨by omega,h.2⟩
 | b::hs,all,l,l',row,res,h=>by
   unfold buildRow at h ⊢;split at h
   ·simp at h
   ·rename_i a1 l1 q1 e;have hle:=buildRow_left (x:=x) (hs:=hs) (all:=a1) (l:=l1) (row:=row++[q1]);rw[h]at hle;obtain⟨l2,rfl⟩:∃l2,l1=l2+k:=⟨l1-k,by simp only at hle;omega⟩
    rw[stateOf_down k e];exact buildRow_down k h
theorem buildGo_leftE {heads:List UInt8}:∀ {f q:Nat} {all:List R} {l:Nat} {next:List (List Nat)},(buildGo heads f q all l next).1≤l
 | 0,_,_,_,_=>Nat.le_refl _
 | f+1,q,all,l,next=>by
   unfold buildGo;split
   ·exact Nat.le_refl _
   ·rename_i x _;have h:=buildRow_left (x:=x) (hs:=heads) (all:=all) (l:=l) (row:=[]);split
    ·rename_i e;rw[e]at h;exact h
    ·rename_i e;rw[e]at h;exact Nat.le_trans buildGo_leftE h
theorem buildGo_len {heads:List UInt8}:∀ {f q:Nat} {all:List R} {l l':Nat} {next:List (List Nat)} {res:List R × List (List Nat)},buildGo heads f q all l next=(l',some res)→all.length≤res.1.length
 | 0,_,_,_,_,_,_,h=>by cases h
 | f+1,q,all,l,l',next,res,h=>by
   unfold buildGo at h;split at h
   ·cases h;exact Nat.le_refl _
   ·split at h
    ·cases h
    ·rename_i e;have:=buildRow_len e;have h2:=buildGo_len h;exact Nat.le_trans this h2
theorem buildGo_down {heads:List UInt8}(k:Nat):∀ {f f' q:Nat} {all:List R} {l l':Nat} {next:List (List Nat)} {res:List R × List (List Nat)},buildGo heads f q all (l+k) next=(l'+k,some res)→res.1.length+1≤f'+q→q≤all.length→buildGo heads f' q all l next=(l',some res)
 | 0,_,_,_,_,_,_,_,h,_,_=>by simp[buildGo]at h
 | f+1,0,q,all,l,l',next,res,h,hf,hq=>by
   have:=buildGo_len h;omega
 | f+1,f'+1,q,all,l,l',next,res,h,hf,hq=>by
   unfold buildGo at h ⊢;cases hx:all[q]? with
   | none=>
     rw[hx]at h;simp only[Prod.mk.injEq]at h ⊢;exact⟨by omega,h.2⟩
   | some x=>
     rw[hx]at h;have hql:=(List.getElem?_eq_some_iff.1 hx).1;simp only at h ⊢;split at h
     ·simp at h
     ·rename_i l1 a1 row e;have hle:=buildGo_leftE (heads:=heads) (f:=f) (q:=q+1) (all:=a1) (l:=l1) (next:=next++[row]);rw[h]at hle;obtain⟨l2,rfl⟩:∃l2,l1=l2+k:=⟨l1-k,by simp only at hle;omega⟩
      have hlen:=buildRow_len e;simp only at hlen;rw[buildRow_down k e];exact buildGo_down k h (by omega) (by omega)
theorem build_down {r:R}{l l':Nat}{D:Dfa}(k:Nat)(h:build r (l+k)=(l'+k,some D)):build r l=(l',some D):=by
 have hok:=(build_ok h).2;unfold build at h ⊢;simp only at h ⊢;split at h
 ·simp at h
 ·rename_i a1 l1 q1 e;have h1:=(stateOf_len e).2;split at h
  ·simp at h
  ·rename_i l2 a2 n2 e2;simp only[Prod.mk.injEq,Option.some.injEq]at h;obtain⟨rfl,rfl⟩:=h;have hle:=buildGo_leftE (heads:=(refine (allSets r)).map Dfa.head) (f:=l+k+2) (q:=0) (all:=a1) (l:=l1) (next:=[]);rw[e2]at hle;obtain⟨l3,rfl⟩:∃l3,l1=l3+k:=⟨l1-k,by simp only at hle;omega⟩
   rw[stateOf_down k e];simp only;rw[buildGo_down k (f':=l+2) e2 (by simp only[List.length_map]at hok;simp only;omega) (Nat.zero_le _)]
theorem build_at {r:R}{L L':Nat}{D:Dfa}(h:build r L=(L',some D)){l:Nat}(hl:D.yes.length≤l):build r l=(l-D.yes.length,some D):=by
 have hok:=(build_ok h).2;have h2:build r (D.yes.length+L')=(0+L',some D):=by rw[hok,h,Nat.zero_add]
 have h3:=build_mono (l-D.yes.length) (build_down L' h2);rw[show D.yes.length+(l-D.yes.length)=l by omega,Nat.zero_add]at h3;exact h3
theorem build_enough {r:R}{L L':Nat}{D:Dfa}(h:build r L=(L',some D)):Enough D.yes.length (build r):=fun l hl=>⟨_,_,build_at h hl,by omega⟩
theorem witness_enough {r:R}{L L':Nat}{D:Dfa}(h:build r L=(L',some D)):Enough D.yes.length (witness r):=fun l hl=>by unfold witness;rw[build_at h hl];exact⟨_,_,rfl,by omega⟩
theorem side_enough {r:R}{L L' M M':Nat}{D E:Dfa}(h:build r L=(L',some D))(h2:build (back r) M=(M',some E)):Enough (D.yes.length+E.yes.length) (side r):=fun l hl=>by unfold side;rw[build_at h (by omega)];simp only;rw[build_at h2 (by omega)];exact⟨_,_,rfl,by omega⟩
def SpotOk (m n:Nat)(x:Spot):Prop:=(x.phase=0∧x.p<m∧x.q=0∧x.moved=false)∨(x.phase=1∧x.p<m∧x.q=0∧x.moved=false)∨(x.phase=1∧x.p<m∧x.q<n∧x.moved=true)∨(x.phase=2∧x.p<n∧x.q<n∧x.moved=false)
def spotCode (m n:Nat)(x:Spot):Nat:=if x.phase=0 then x.p else if x.phase=1 then(if x.moved=true then m+m+(x.p*n+x.q) else m+x.p) else m+m+m*n+(x.p*n+x.q)
def spots (m n:Nat):Nat:=m+m+m*n+n*n
theorem pair_lt {m n p q:Nat}(hp:p<m)(hq:q<n):p*n+q<m*n:=by have:(p+1)*n≤m*n:=Nat.mul_le_mul_right _ hp;rw[Nat.succ_mul]at this;omega
theorem pair_inj {n p q a b:Nat}(hq:q<n)(hb:b<n)(h:p*n+q=a*n+b):p=a∧q=b:=by
 have e:∀p q:Nat,q<n→(p*n+q) / n=p:=fun p q hq=>by rw[Nat.add_comm,Nat.add_mul_div_right _ _ (by omega),Nat.div_eq_of_lt hq,Nat.zero_add]
 have h1:=e p q hq;rw[h,e a b hb]at h1;subst h1;exact⟨rfl,by omega⟩
theorem spotCode_lt {m n:Nat}{x:Spot}(h:SpotOk m n x):spotCode m n x<spots m n:=by
 unfold spotCode spots;rcases h with⟨a,b,c,d⟩|⟨a,b,c,d⟩|⟨a,b,c,d⟩|⟨a,b,c,d⟩<;>rw[a]
 ·simp;omega
 ·simp[d];omega
 ·have:=pair_lt b c;simp[d];omega
 ·have:=pair_lt b c;simp;omega
theorem spotCode_inj {m n:Nat}{x y:Spot}(hx:SpotOk m n x)(hy:SpotOk m n y)(h:spotCode m n x=spotCode m n y):x=y:=by
 obtain⟨xf,xp,xq,xm⟩:=x;obtain⟨yf,yp,yq,ym⟩:=y;unfold SpotOk at hx hy;unfold spotCode at h;simp only at hx hy h;rcases hx with⟨rfl,b,rfl,rfl⟩|⟨rfl,b,rfl,rfl⟩|⟨rfl,b,c,rfl⟩|⟨rfl,b,c,rfl⟩<;>rcases hy with⟨rfl,b',rfl,rfl⟩|⟨rfl,b',rfl,rfl⟩|⟨rfl,b',c',rfl⟩|⟨rfl,b',c',rfl⟩<;>simp at h
 all_goals first
  | (subst h;rfl)
  | (exfalso;omega)
  | (exfalso;have:=pair_lt b c;omega)
  | (exfalso;have:=pair_lt b' c';omega)
  | (obtain⟨rfl,rfl⟩:=pair_inj c c' h;rfl)
structure TrOk (m n:Nat)(tr:Trail):Prop where
 nd:(tr.map (·.1)).Nodup
 ok:∀y∈tr,SpotOk m n y.1
theorem TrOk.nil (m n:Nat):TrOk m n []:=⟨by simp,by simp⟩
theorem TrOk.len {m n:Nat}{tr:Trail}(h:TrOk m n tr):tr.length≤spots m n:=by
 have h1:(tr.map (fun y=>spotCode m n y.1)).Nodup:=by have h0:=List.pairwise_map.1 h.nd;refine List.pairwise_map.2 (h0.imp_of_mem fun {a b} ha hb hab e => ?_);exact hab (spotCode_inj (h.ok a ha) (h.ok b hb) e)
 have h2:=nodup_lt (spots m n) _ h1 (fun x hx=>by obtain⟨y,hy,rfl⟩:=List.mem_map.1 hx;exact spotCode_lt (h.ok y hy))
 simpa using h2
theorem TrOk.snoc {m n:Nat}{tr:Trail}(h:TrOk m n tr){x:Spot}(hx:SpotOk m n x)(hn:¬tr.any (fun y=>y.1==x)=true)(s:Step):TrOk m n (tr++[(x,s)]):=by
 constructor
 ·rw[List.map_append,List.nodup_append];refine⟨h.nd,by simp,fun a ha b hb e => ?_⟩;simp at hb;subst hb;subst e;obtain⟨y,hy,e⟩:=List.mem_map.1 ha;exact hn (List.any_eq_true.2 ⟨y,hy,by simp[e]⟩)
 ·intro y hy;rcases List.mem_append.1 hy with hy|hy
  ·exact h.ok y hy
  ·rw[List.mem_singleton.1 hy];exact hx
theorem addSpot_enough {m n:Nat}{tr:Trail}{left:Nat}{x:Spot}(s:Step)(h:TrOk m n tr)(hx:SpotOk m n x)(hS:spots m n≤left+tr.length):∃tr' l',addSpot x s tr left=some (tr',l')∧TrOk m n tr'∧l'+tr'.length=left+tr.length∧∃t,tr'=tr++t:=by
 unfold addSpot;by_cases hk:tr.any (fun y=>y.1==x)=true
 ·rw[if_pos hk];exact⟨_,_,rfl,h,rfl,[],by simp⟩
 ·rw[if_neg hk];have h2:=h.snoc hx hk s;have h3:=h2.len;rw[List.length_append,List.length_singleton]at h3;rw[if_neg (by omega)];exact⟨_,_,rfl,h2,by rw[List.length_append,List.length_singleton];omega,_,rfl⟩
theorem freeOf_ok {A B:Dfa}(hB:B.Ok){x y:Spot}(hx:SpotOk A.yes.length B.yes.length x)(h:freeOf A x=some y):SpotOk A.yes.length B.yes.length y:=by
 unfold freeOf at h;have hn:=hB.pos;split at h
 ·rename_i e;cases h;rcases hx with⟨a,b,c,d⟩|⟨a,b,c,d⟩|⟨a,b,c,d⟩|⟨a,b,c,d⟩<;>first|(exfalso;omega)|exact .inr (.inl ⟨rfl,b,rfl,rfl⟩)
 ·split at h
  ·rename_i e;cases h;rcases hx with⟨a,b,c,d⟩|⟨a,b,c,d⟩|⟨a,b,c,d⟩|⟨a,b,c,d⟩
   ·omega
   ·rw[d]at e;exact absurd e.2.1 (by decide)
   ·exact .inr (.inr (.inr ⟨rfl,c,hn,rfl⟩))
   ·omega
  ·cases h
theorem byOf_ok {A B:Dfa}(hA:A.Ok)(hB:B.Ok){x y:Spot}{b:UInt8}(hx:SpotOk A.yes.length B.yes.length x)(h:byOf A B x b=some y):SpotOk A.yes.length B.yes.length y:=by
 have hn:=hB.pos;have hp:∀ {p},x.phase≠2→x.p=p→p<A.yes.length:=fun e1 e2=>by rcases hx with⟨a,b,c,d⟩|⟨a,b,c,d⟩|⟨a,b,c,d⟩|⟨a,b,c,d⟩<;>omega
 have hq:x.q<B.yes.length:=by rcases hx with⟨a,b,c,d⟩|⟨a,b,c,d⟩|⟨a,b,c,d⟩|⟨a,b,c,d⟩<;>omega
 unfold byOf at h;split at h
 ·rename_i e;simp only at h;split at h
  ·cases h;exact .inl ⟨rfl,hA.step_lt (hp (by omega) rfl) _,rfl,rfl⟩
  ·cases h
 ·split at h
  ·rename_i e;simp only at h;split at h
   ·cases h;exact .inr (.inr (.inl ⟨rfl,hA.step_lt (hp (by omega) rfl) _,hB.step_lt hq _,rfl⟩))
   ·cases h
  ·simp only at h;split at h
   ·cases h;have h2:x.p<B.yes.length:=by rcases hx with⟨a,b,c,d⟩|⟨a,b,c,d⟩|⟨a,b,c,d⟩|⟨a,b,c,d⟩<;>omega
    exact .inr (.inr (.inr ⟨rfl,hB.step_lt h2 _,hB.step_lt hq _,rfl⟩))
   ·cases h
theorem catFree_enough {A B:Dfa}(hB:B.Ok):∀(f i:Nat) (tr:Trail) (left:Nat),TrOk A.yes.length B.yes.length tr→spots A.yes.length B.yes.length≤left+tr.length→left+tr.length+1≤f+i→i≤tr.length →
  ∃tr' l',catFree A f i tr left=(l',some tr')∧TrOk A.yes.length B.yes.length tr'∧l'+tr'.length=left+tr.length∧∃t,tr'=tr++t
 | 0,i,tr,left,_,_,hf,hi=>by omega
 | f+1,i,tr,left,h,hS,hf,hi=>by
   unfold catFree;cases hx:tr[i]? with
   | none=>exact⟨_,_,rfl,h,rfl,[],by simp⟩
   | some x=>
     have hil:=(List.getElem?_eq_some_iff.1 hx).1;simp only;cases hy:freeOf A x.1 with
     | none=>exact catFree_enough hB f (i+1) tr left h hS (by omega) hil
     | some y=>
       simp only;obtain⟨t1,l1,e1,h1,s1,u1,a1⟩:=addSpot_enough ⟨i,0,true⟩ h (freeOf_ok hB (h.ok x (List.mem_of_getElem? hx)) hy) hS;rw[e1];simp only;have hl1:tr.length≤t1.length:=by rw[a1,List.length_append];omega
       obtain⟨t2,l2,e2,h2,s2,u2,a2⟩:=catFree_enough hB f (i+1) t1 l1 h1 (by omega) (by omega) (by omega);exact⟨t2,l2,e2,h2,by omega,u1++u2,by rw[a2,a1,List.append_assoc]⟩
theorem catBytes_enough {A B:Dfa}(hA:A.Ok)(hB:B.Ok){i:Nat}{x:Spot}(hx:SpotOk A.yes.length B.yes.length x):∀(hs:List UInt8) (tr:Trail) (left:Nat),TrOk A.yes.length B.yes.length tr→spots A.yes.length B.yes.length≤left+tr.length →
  ∃tr' l',catBytes A B i x hs tr left=(l',some tr')∧TrOk A.yes.length B.yes.length tr'∧l'+tr'.length=left+tr.length∧∃t,tr'=tr++t
 | [],tr,left,h,_=>⟨tr,left,by rw[catBytes],h,rfl,[],by simp⟩
 | b::hs,tr,left,h,hS=>by
   unfold catBytes;cases hy:byOf A B x b with
   | none=>exact catBytes_enough hA hB hx hs tr left h hS
   | some y=>
     simp only;obtain⟨t1,l1,e1,h1,s1,u1,a1⟩:=addSpot_enough ⟨i,b,false⟩ h (byOf_ok hA hB hx hy) hS;rw[e1];simp only;obtain⟨t2,l2,e2,h2,s2,u2,a2⟩:=catBytes_enough hA hB hx hs t1 l1 h1 (by omega);exact⟨t2,l2,e2,h2,by omega,u1++u2,by rw[a2,a1,List.append_assoc]⟩
theorem catMore_enough {A B:Dfa}(hA:A.Ok)(hB:B.Ok){heads:List UInt8}:∀(k i:Nat) (tr:Trail) (left:Nat),TrOk A.yes.length B.yes.length tr→spots A.yes.length B.yes.length≤left+tr.length →
  ∃tr' l',catMore A B heads k i tr left=(l',some tr')∧TrOk A.yes.length B.yes.length tr'∧l'+tr'.length=left+tr.length∧∃t,tr'=tr++t
 | 0,i,tr,left,h,_=>⟨tr,left,by rw[catMore],h,rfl,[],by simp⟩
 | k+1,i,tr,left,h,hS=>by
   unfold catMore;cases hx:tr[i]? with
   | none=>exact⟨_,_,rfl,h,rfl,[],by simp⟩
   | some x=>
     simp only;obtain⟨t1,l1,e1,h1,s1,u1,a1⟩:=catBytes_enough hA hB (i:=i) (h.ok x (List.mem_of_getElem? hx)) heads tr left h hS;rw[e1];simp only;obtain⟨t2,l2,e2,h2,s2,u2,a2⟩:=catMore_enough hA hB k (i+1) t1 l1 h1 (by omega);exact⟨t2,l2,e2,h2,by omega,u1++u2,by rw[a2,a1,List.append_assoc]⟩
theorem catGo_enough {A B:Dfa}(hA:A.Ok)(hB:B.Ok){heads:List UInt8}:∀(f i:Nat) (tr:Trail) (left:Nat),TrOk A.yes.length B.yes.length tr→spots A.yes.length B.yes.length≤left+tr.length→left+tr.length+1≤f+i→i≤tr.length →
  ∃l' r,catGo A B heads f i tr left=(l',some r)∧left+tr.length≤l'+spots A.yes.length B.yes.length
 | 0,i,tr,left,_,_,hf,hi=>by omega
 | f+1,i,tr,left,h,hS,hf,hi=>by
   have hlen:=h.len;by_cases hit:i<tr.length
   ·obtain⟨t1,l1,e1,h1,s1,u1,a1⟩:=catFree_enough hB (left+tr.length+1-i) i tr left h hS (by omega) hi;have hl1:tr.length≤t1.length:=by rw[a1,List.length_append];omega
    have hlen1:=h1.len;rw[catGo_lt hit,e1];simp only[catK1,catK2];cases hfi:catFind B t1 (t1.length-i) i with
    | some j=>exact⟨_,_,rfl,by omega⟩
    | none=>
      simp only;obtain⟨t2,l2,e2,h2,s2,u2,a2⟩:=catMore_enough hA hB (heads:=heads) (t1.length-i) i t1 l1 h1 (by omega);have hl2:t1.length≤t2.length:=by rw[a2,List.length_append];omega
      rw[e2];simp only[catK3];obtain⟨l3,r,e3,h3⟩:=catGo_enough hA hB (heads:=heads) f t1.length t2 l2 h2 (by omega) (by omega) hl2;exact⟨l3,r,e3,by omega⟩
   ·rw[catGo_ge hit];exact⟨_,_,rfl,by omega⟩
def pairs (m n:Nat):Nat:=m+n+m+2*m*n+n*n
theorem spots_le {m n:Nat}(hn:0<n):m+n+spots m n≤pairs m n:=by unfold spots pairs;have:m*1≤m*n:=Nat.mul_le_mul_left _ hn;rw[Nat.mul_assoc,Nat.two_mul];omega
theorem ambigCat_enough {x y:R}{L L' M M':Nat}{A B:Dfa}(hx:build x L=(L',some A))(hy:build y M=(M',some B)):Enough (pairs A.yes.length B.yes.length) (ambigCat x y):=fun l hl=>by
 have hA:=(build_ok hx).1;have hB:=(build_ok hy).1;have hs:=spots_le (m:=A.yes.length) hB.pos;unfold ambigCat;rw[build_at hx (by omega)];simp only;rw[build_at hy (by omega)];simp only
 obtain⟨t1,l1,e1,h1,s1,u1,a1⟩:=addSpot_enough (m:=A.yes.length) (n:=B.yes.length) (tr:=[]) (left:=l-A.yes.length-B.yes.length) (x:=⟨0,0,0,false⟩) ⟨-1,0,false⟩ (TrOk.nil _ _) (.inl ⟨rfl,hA.pos,rfl,rfl⟩) (by simp only[List.length_nil];omega);rw[e1];simp only;simp only[List.length_nil]at s1;have hl1:t1.length=1:=by
  unfold addSpot at e1;simp only[List.any_nil,Bool.false_eq_true,if_false]at e1;split at e1
  ·cases e1
  ·simp only[Option.some.injEq,Prod.mk.injEq]at e1;rw[←e1.1];rfl
 obtain⟨l3,r,e3,h3⟩:=catGo_enough hA hB (heads:=catHeads A B) (l1+2) 0 t1 l1 h1 (by omega) (by omega) (Nat.zero_le _);exact⟨l3,r,e3,by omega⟩
theorem ambigIter_enough {x:R}{L L' M M':Nat}{A B:Dfa}(hx:build x L=(L',some A))(hy:build (many x) M=(M',some B)):Enough (pairs A.yes.length B.yes.length) (ambigIter x):=fun l hl=>by
 unfold ambigIter;split
 ·exact⟨_,_,rfl,by omega⟩
 ·exact ambigCat_enough hx hy l hl
end Pv
namespace Pv
theorem Ck.two_true {l e:Nat}{t:T}{v:Bool}{r:Nat × Option (Option Two)}{c:Ck}(h:({ left:=l }:Ck).two e t v r=(c,true)):c={ left:=r.1 }:=by
 obtain⟨l',r⟩:=r
 match r with
 | none=>simp[Ck.two]at h
 | some none=>simp[Ck.two]at h;exact h.symm
 | some (some w)=>simp[Ck.two]at h
theorem Ck.told_true {l e:Nat}{t:T}{v:Bool}{r:Nat × Option (Option (List UInt8))}{c:Ck}(h:({ left:=l }:Ck).told e t v r=(c,true)):c={ left:=r.1 }:=by
 obtain⟨l',r⟩:=r
 match r with
 | none=>simp[Ck.told]at h
 | some none=>simp[Ck.told]at h;exact h.symm
 | some (some w)=>simp[Ck.told]at h
theorem Ck.splits_true {l:Nat}{t:T}{v:Bool}{x y:R}{c:Ck}(h:({ left:=l }:Ck).splits t v x y=(c,true)):c={ left:=(ambigCat x y l).1 }:=Ck.two_true (e:=20) (t:=t) (v:=v) (r:=ambigCat x y l) h
theorem Ck.iterates_true {l:Nat}{t:T}{v:Bool}{x:R}{c:Ck}(h:({ left:=l }:Ck).iterates t v x=(c,true)):c={ left:=(ambigIter x l).1 }:=Ck.two_true (e:=21) (t:=t) (v:=v) (r:=ambigIter x l) h
theorem Ck.apart_true {l:Nat}{t:T}{v:Bool}{x y:R}{c:Ck}(h:({ left:=l }:Ck).apart t v x y=(c,true)):c={ left:=(shared x y l).1 }:=Ck.told_true (e:=22) (t:=t) (v:=v) (r:=shared x y l) h
end Pv
namespace Pv
theorem Ck.within_true {l:Nat}{t:T}{tx:List UInt8}{x:R}{c:Ck}(h:({ left:=l }:Ck).within t tx x=(c,true)):c.fault={}:=by
 cases hm:matchR tx x with
 | true=>simp[Ck.within,Ck.ok,hm]at h;rw[←h]
 | false=>simp[Ck.within,Ck.ok,hm]at h
theorem Ck.eta {c:Ck}(h:c.fault={}):c={ left:=c.left }:=by cases c;simp only at h;rw[h]
theorem Ck.both_true {a:Ck × Bool}{f:Ck→Ck × Bool}{c:Ck}(h:Ck.both a f=(c,true)):a.2=true∧f a.1=(c,true):=by
 unfold Ck.both at h;split at h
 ·rename_i e;exact⟨e,h⟩
 ·rename_i e;rw[h]at e;exact absurd rfl e
theorem ctypes_true {t:T}{kids:List C}{l:Nat}{c:Ck}{w k:R}(h:ctypes t kids { left:=l }=((c,true),w,k)):c.fault={}:=by
 unfold ctypes at h;simp only at h;split at h
 ·cases h;rfl
 ·split at h
  ·simp only[Prod.mk.injEq]at h;exact Ck.within_true h.1
  ·split at h
   ·simp only[Prod.mk.injEq]at h;obtain⟨h1,h2⟩:=Ck.both_true h.1;have h3:(({ left:=l }:Ck).iterates t false (nth kids 0).1).1={ left:=(ambigIter (nth kids 0).1 l).1 }:=Ck.iterates_true (Prod.ext rfl h1);rw[h3]at h2;rw[Ck.iterates_true h2]
   ·split at h
    ·simp only[Prod.mk.injEq]at h;rw[Ck.apart_true h.1]
    ·simp only[Prod.mk.injEq]at h;obtain⟨h1,h2⟩:=Ck.both_true h.1;have h3:(({ left:=l }:Ck).splits t false (nth kids 0).1 (nth kids 1).1).1={ left:=(ambigCat (nth kids 0).1 (nth kids 1).1 l).1 }:=Ck.splits_true (Prod.ext rfl h1);rw[h3]at h2;rw[Ck.splits_true h2]
theorem Ck.side_some {l:Nat}{r:R}{c:Ck}{s:Side}(h:({ left:=l }:Ck).side r=(c,some s)):c.fault={}:=by
 have hq:({ left:=l }:Ck).side r=(match Pv.side r l with|(l,none)=>(({ left:=l,fault:={ e:=5 } }:Ck),none)|(l,some s)=>(({ left:=l }:Ck),some s)):=rfl;rw[hq]at h;split at h
 ·simp at h
 ·simp only[Prod.mk.injEq]at h;rw[←h.1]
theorem canonEnd_some {t:T}{kids:List C}{l:Nat}{c:Ck}{x:C}(h:canonEnd t kids { left:=l }=(c,some x)):c.fault={}:=by
 unfold canonEnd at h;split at h
 ·simp at h
 ·rename_i c1 w k hc;have h1:=Ck.eta (ctypes_true hc);rw[h1]at h;simp only at h;split at h
  ·rename_i ws cs ha hb;simp only[Prod.mk.injEq]at h;have h2:(({ left:=c1.left }:Ck).side w).1={ left:=(({ left:=c1.left }:Ck).side w).1.left }:=Ck.eta (Ck.side_some (s:=ws) (Prod.ext rfl ha));rw[h2]at hb h;rw[←h.1];exact Ck.side_some (s:=cs) (Prod.ext rfl hb)
  ·simp at h
mutual
theorem canonOf_some:∀ {t:T} {l:Nat} {c:Ck} {x:C},canonOf t { left:=l }=(c,some x)→c.fault={}
 | .mk op a n r tx bk ks,l,c,x,h=>by
   unfold canonOf at h;split at h
   ·simp at h
   ·split at h
    ·simp at h
    ·rename_i c1 kids hk;have h1:=Ck.eta (canonsOf_some hk);rw[h1]at h;exact canonEnd_some h
theorem canonsOf_some:∀ {ts:List T} {l:Nat} {c:Ck} {xs:List C},canonsOf ts { left:=l }=(c,some xs)→c.fault={}
 | [],l,c,xs,h=>by
   unfold canonsOf at h;simp only[Prod.mk.injEq]at h;rw[←h.1]
 | t::ts,l,c,xs,h=>by
   unfold canonsOf at h;split at h
   ·simp at h
   ·rename_i c1 k hk;have h1:=Ck.eta (canonOf_some hk);rw[h1]at h;split at h
    ·simp at h
    ·rename_i c2 l2 hl;simp only[Prod.mk.injEq]at h;rw[←h.1];exact canonsOf_some hl
end
end Pv
namespace Pv
variable {P:R→Prop}{K:List (List UInt8)}{L:Nat}
end Pv
