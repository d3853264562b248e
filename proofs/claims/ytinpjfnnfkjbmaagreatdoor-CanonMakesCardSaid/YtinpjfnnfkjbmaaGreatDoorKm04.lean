/- Plain Lean: bytes in order: what the library's insertion sort does is sortB. -/
import Derived.Test.YtinpjfnnfkjbmaaGreatDoorKm01
set_option linter.all false
namespace Pv
theorem insB_comm (a b:UInt8):∀l:List UInt8,insB a (insB b l)=insB b (insB a l)
 | []=>by
   simp only[insB];by_cases h1:b<a
   ·have h2:¬a<b:=by rw[UInt8.lt_iff_toNat_lt]at *;omega
    simp[h1,h2]
   ·by_cases h2:a<b
    ·simp[h1,h2]
    ·have:a=b:=by rw[UInt8.lt_iff_toNat_lt]at *;exact UInt8.toNat_inj.1 (by omega)
     subst this;rfl
 | x::l=>by
   have ih:=insB_comm a b l;simp only[insB];by_cases h1:x<b<;>by_cases h2:x<a
   ·simp[h1,h2,insB,ih]
   ·have h3:a<b:=by rw[UInt8.lt_iff_toNat_lt]at *;omega
    have h4:¬b<a:=by rw[UInt8.lt_iff_toNat_lt]at *;omega
    simp[h1,h2,insB,h3]
   ·have h3:b<a:=by rw[UInt8.lt_iff_toNat_lt]at *;omega
    simp[h1,h2,insB,h3]
   ·by_cases h3:b<a
    ·have h4:¬a<b:=by rw[UInt8.lt_iff_toNat_lt]at *;omega
     simp[h1,h2,insB,h3,h4]
    ·by_cases h4:a<b
     ·simp[h1,h2,insB,h3,h4]
     ·have:a=b:=by rw[UInt8.lt_iff_toNat_lt]at *;exact UInt8.toNat_inj.1 (by omega)
      subst this;rfl
theorem insB_foldl (b:UInt8):∀(l acc:List UInt8),l.foldl (fun x y=>insB y x) (insB b acc)=insB b (l.foldl (fun x y=>insB y x) acc)
 | [],_=>rfl
 | y::l,acc=>by simp only[List.foldl_cons];rw[insB_comm y b,insB_foldl b l]
theorem sortB_foldl:∀l:List UInt8,l.foldl (fun x y=>insB y x) []=sortB l
 | []=>rfl
 | b::l=>by simp only[List.foldl_cons,sortB];rw[insB_foldl b l [],sortB_foldl l]
def sortTake (l:List UInt8)(k:Nat):List UInt8:=(l.take k).foldl (fun x y=>insB y x) []
theorem sortTake_succ (l:List UInt8)(k:Nat)(h:k<l.length):sortTake l (k+1)=insB l[k] (sortTake l k):=by unfold sortTake;rw[List.take_succ_eq_append_getElem h,List.foldl_append];rfl
theorem insB_len (b:UInt8):∀l,(insB b l).length=l.length+1
 | []=>rfl
 | x::l=>by
   simp only[insB];split
   ·simp[insB_len b l]
   ·rfl
theorem sortTake_len (l:List UInt8):∀k,k≤l.length→(sortTake l k).length=k
 | 0,_=>rfl
 | k+1,h=>by rw[sortTake_succ l k (by omega),insB_len,sortTake_len l k (by omega)]
def Asc:List UInt8→Prop
 | []=>True
 | [_]=>True
 | a::b::l=>a≤b∧Asc (b::l)
theorem Asc.tail {a:UInt8}{l:List UInt8}(h:Asc (a::l)):Asc l:=by
 cases l with
 | nil=>trivial
 | cons b l=>exact h.2
theorem Asc.head {a:UInt8}:∀ {l:List UInt8},Asc (a::l)→∀x∈l,a≤x
 | [],_,x,hx=>by cases hx
 | b::l,h,x,hx=>by
   rcases List.mem_cons.1 hx with rfl|hx
   ·exact h.1
   ·have:=Asc.head h.2 x hx;have:=h.1;rw[UInt8.le_iff_toNat_le]at *;omega
theorem insB_asc (b:UInt8):∀l,Asc l→Asc (insB b l)
 | [],_=>trivial
 | [x],_=>by
   simp only[insB];split
   ·refine ⟨?_,trivial⟩;rw[UInt8.lt_iff_toNat_lt]at *;rw[UInt8.le_iff_toNat_le];omega
   ·refine ⟨?_,trivial⟩;rw[UInt8.lt_iff_toNat_lt]at *;rw[UInt8.le_iff_toNat_le];omega
 | x::y::l,h=>by
   have ih:=insB_asc b (y::l) h.2;have h1:=h.1;rw[insB];split
   ·rename_i hx;simp only[insB]at ih ⊢;split
    ·rename_i hy;rw[if_pos hy]at ih;exact⟨h1,ih⟩
    ·rename_i hy;rw[if_neg hy]at ih;refine⟨?_,ih⟩;rw[UInt8.lt_iff_toNat_lt]at *;rw[UInt8.le_iff_toNat_le];omega
   ·rename_i hx;refine⟨?_,h⟩;rw[UInt8.lt_iff_toNat_lt]at *;rw[UInt8.le_iff_toNat_le];omega
theorem sortTake_asc (l:List UInt8):∀k,k≤l.length→Asc (sortTake l k)
 | 0,_=>trivial
 | k+1,h=>by rw[sortTake_succ l k (by omega)];exact insB_asc _ _ (sortTake_asc l k (by omega))
theorem insB_lt (b:UInt8)(q:List UInt8)(hq:∀x∈q,b<x):insB b q=b::q:=by
 cases q with
 | nil=>rfl
 | cons x q=>
   have:=hq x (by simp);have h2:¬x<b:=by rw[UInt8.lt_iff_toNat_lt]at *;omega
   simp[insB,h2]
theorem cons_same (b:UInt8):∀(p q:List UInt8),(∀x∈p,x=b)→b::(p++q)=p++b::q
 | [],_,_=>rfl
 | x::p,q,h=>by have:x=b:=h x (by simp);subst this;simp only[List.cons_append];rw[cons_same x p q fun y hy=>h y (by simp[hy])]
theorem insB_place (b:UInt8):∀(p q:List UInt8),Asc p→(∀x∈p,x≤b)→(∀x∈q,b<x)→insB b (p++q)=p++b::q
 | [],q,_,_,hq=>insB_lt b q hq
 | x::p,q,ha,hp,hq=>by
   simp only[List.cons_append,insB];split
   ·rw[insB_place b p q ha.tail (fun y hy=>hp y (by simp[hy])) hq]
   ·rename_i hx;have e:x=b:=by have:=hp x (by simp);rw[UInt8.lt_iff_toNat_lt]at hx;rw[UInt8.le_iff_toNat_le]at this;exact UInt8.toNat_inj.1 (by omega)
    subst e;congr 1;refine cons_same x p q fun y hy => ?_
    have h1:=ha.head y hy;have h2:=hp y (by simp[hy]);rw[UInt8.le_iff_toNat_le]at h1 h2;exact UInt8.toNat_inj.1 (by omega)
theorem Asc.le:∀ {l:List UInt8} (_:Asc l) {i j:Nat} (_:i≤j) (hj:j<l.length),l[i]≤l[j]
 | a::l,h,0,0,_,_=>UInt8.le_refl _
 | a::l,h,0,j+1,_,hj=>h.head _ (by simp)
 | a::l,h,i+1,j+1,hij,hj=>Asc.le h.tail (by omega) (by simpa using hj)
theorem Asc.take:∀ {l:List UInt8} (_:Asc l) (k:Nat),Asc (l.take k)
 | [],_,k=>by simp[Asc]
 | a::l,_,0=>by simp[Asc]
 | [a],_,k+1=>by simp[Asc]
 | a::b::l,h,k+1=>by
   have ih:=Asc.take h.2 k;cases k with
   | zero=>simp[Asc]
   | succ k=>simp only[List.take_succ_cons]at ih ⊢;exact⟨h.1,ih⟩
def midRow (acc:List UInt8)(b:UInt8)(j:Nat)(rest:List UInt8):List UInt8:=acc.take j++b::(acc.drop j++rest)
theorem midRow_start (acc:List UInt8)(b:UInt8)(rest:List UInt8):midRow acc b acc.length rest=acc++b::rest:=by unfold midRow;simp
theorem midRow_end (acc:List UInt8)(b:UInt8)(j:Nat)(rest:List UInt8)(ha:Asc acc)(hj:j≤acc.length)(h1:∀h:0<j,acc[j-1]'(by omega)≤b)(h2:∀x∈acc.drop j,b<x):midRow acc b j rest=insB b acc++rest:=by
 have:=insB_place b (acc.take j) (acc.drop j) (ha.take j) (fun x hx=>by obtain⟨i,hi,rfl⟩:=List.getElem_of_mem hx;rw[List.length_take]at hi;have h3:=h1 (by omega);have h4:=ha.le (i:=i) (j:=j-1) (by omega) (by omega);rw[List.getElem_take];rw[UInt8.le_iff_toNat_le]at *;omega) h2
 rw[List.take_append_drop]at this;rw[this];unfold midRow;simp
theorem midRow_len (acc:List UInt8)(b:UInt8)(j:Nat)(rest:List UInt8)(hj:j≤acc.length):(midRow acc b j rest).length=acc.length+1+rest.length:=by unfold midRow;simp;omega
theorem midRow_get (acc:List UInt8)(b:UInt8)(j:Nat)(rest:List UInt8)(hj:j≤acc.length):(midRow acc b j rest)[j]?=some b:=by unfold midRow;rw[List.getElem?_append_right (by simp;omega)];simp[Nat.min_eq_left hj]
theorem midRow_prev (acc:List UInt8)(b:UInt8)(j:Nat)(rest:List UInt8)(h0:0<j)(hj:j≤acc.length):(midRow acc b j rest)[j-1]?=some (acc[j-1]'(by omega)):=by unfold midRow;rw[List.getElem?_append_left (by simp;omega),List.getElem?_take,if_pos (by omega),List.getElem?_eq_getElem]
theorem midRow_swap (acc:List UInt8)(b:UInt8)(j:Nat)(rest:List UInt8)(h0:0<j)(hj:j≤acc.length):
  ((midRow acc b j rest).set j (acc[j-1]'(by omega))).set (j-1) b=midRow acc b (j-1) rest:=by
 apply List.ext_getElem?;intro i;obtain⟨k,rfl⟩:∃k,j=k+1:=⟨j-1,by omega⟩
 simp only[Nat.add_sub_cancel];have hlen:=midRow_len acc b (k+1) rest hj;have hlen2:=midRow_len acc b k rest (by omega);by_cases h1:i=k
 ·subst h1;rw[List.getElem?_set_self (by simp[hlen];omega),midRow_get _ _ _ _ (by omega)]
 ·rw[List.getElem?_set_ne (by omega)];by_cases h2:i=k+1
  ·subst h2;rw[List.getElem?_set_self (by omega)];unfold midRow;rw[List.getElem?_append_right (by simp;omega)];simp only[List.length_take,Nat.min_eq_left (show k≤acc.length by omega),Nat.add_sub_cancel_left,List.getElem?_cons_succ];rw[List.getElem?_append_left (by simp;omega),List.getElem?_drop];simp
  ·rw[List.getElem?_set_ne (by omega)];unfold midRow;by_cases h3:i<k
   ·rw[List.getElem?_append_left (by simp;omega),List.getElem?_append_left (by simp;omega),List.getElem?_take,List.getElem?_take,if_pos (by omega),if_pos (by omega)]
   ·rw[List.getElem?_append_right (by simp;omega),List.getElem?_append_right (by simp;omega)];simp only[List.length_take,Nat.min_eq_left hj,Nat.min_eq_left (show k≤acc.length by omega)];obtain⟨d,rfl⟩:∃d,i=k+2+d:=⟨i-(k+2),by omega⟩
    rw[show k+2+d-(k+1)=d+1 by omega,show k+2+d-k=d+2 by omega];simp only[List.getElem?_cons_succ];by_cases h4:d<(acc.drop (k+1)).length
    ·rw[List.getElem?_append_left h4,List.getElem?_append_left (by simp at h4 ⊢;omega),List.getElem?_drop,List.getElem?_drop];congr 1;omega
    ·rw[List.getElem?_append_right (by omega),List.getElem?_append_right (by simp at h4 ⊢;omega)];congr 1;simp at h4 ⊢;omega
theorem drop_one (acc:List UInt8)(j:Nat)(h0:0<j)(hj:j≤acc.length):acc.drop (j-1)=acc[j-1]'(by omega)::acc.drop j:=by rw[List.drop_eq_getElem_cons (by omega)];congr 2;omega
end Pv
namespace Pv
theorem addSpot_cases {x:Spot}{st:Step}{tr tr':Trail}{l l':Nat}(h:addSpot x st tr l=some (tr',l')):(tr'=tr∧l'=l)∨(tr'=tr++[(x,st)]∧l=l'+1):=by
 unfold addSpot at h;split at h
 ·injection h with h;injection h with h1 h2;exact .inl ⟨h1.symm,h2.symm⟩
 ·split at h
  ·cases h
  ·injection h with h;injection h with h1 h2;exact .inr ⟨h1.symm,by omega⟩
theorem addSpot_sum {x:Spot}{st:Step}{tr tr':Trail}{l l':Nat}(h:addSpot x st tr l=some (tr',l')):l'+tr'.length=l+tr.length∧l'≤l∧tr.length≤tr'.length:=by
 rcases addSpot_cases h with⟨rfl,rfl⟩|⟨rfl,rfl⟩
 ·exact⟨rfl,Nat.le_refl _,Nat.le_refl _⟩
 ·simp only[List.length_append,List.length_singleton];omega
theorem addSpot_get {x:Spot}{st:Step}{tr tr':Trail}{l l':Nat}(h:addSpot x st tr l=some (tr',l')){i:Nat}(hi:i<tr.length):tr'[i]?=tr[i]?:=by
 rcases addSpot_cases h with⟨rfl,rfl⟩|⟨rfl,rfl⟩
 ·rfl
 ·rw[List.getElem?_append_left hi]
theorem addSpot_none {x:Spot}{st:Step}{tr:Trail}{l:Nat}(h:addSpot x st tr l=none):l=0:=by
 unfold addSpot at h;split at h
 ·cases h
 ·split at h
  ·assumption
  ·cases h
def catK3 (A B:Dfa)(heads:List UInt8)(f upto:Nat)(r:Nat × Option Trail):Nat × Option (Option Two):=match r with
 | (l,none)=>(l,none)
 | (l,some tr)=>catGo A B heads f upto tr l
def catK2 (A B:Dfa)(heads:List UInt8)(f from_:Nat)(tr:Trail)(l:Nat):Nat × Option (Option Two):=match catFind B tr (tr.length-from_) from_ with
 | some i=>(l,some (some (twoOf tr i)))
 | none=>catK3 A B heads f tr.length (catMore A B heads (tr.length-from_) from_ tr l)
def catK1 (A B:Dfa)(heads:List UInt8)(f from_:Nat)(r:Nat × Option Trail):Nat × Option (Option Two):=match r with
 | (l,none)=>(l,none)
 | (l,some tr)=>catK2 A B heads f from_ tr l
theorem catGo_lt {A B:Dfa}{heads:List UInt8}{f from_:Nat}{tr:Trail}{l:Nat}(h:from_<tr.length):catGo A B heads (f+1) from_ tr l=catK1 A B heads f from_ (catFree A (l+tr.length+1-from_) from_ tr l):=by
 unfold catGo catK1 catK2 catK3;rw[if_pos h];rcases catFree A (l+tr.length+1-from_) from_ tr l with⟨l',_|tr'⟩
 ·rfl
 ·simp only;cases catFind B tr' (tr'.length-from_) from_ with
  | some i=>rfl
  | none=>
    simp only;rcases catMore A B heads (tr'.length-from_) from_ tr' l' with⟨l'',_|tr''⟩<;>rfl
theorem catGo_ge {A B:Dfa}{heads:List UInt8}{f from_:Nat}{tr:Trail}{l:Nat}(h:¬from_<tr.length):catGo A B heads (f+1) from_ tr l=(l,some none):=by unfold catGo;rw[if_neg h]
theorem catFree_end {A:Dfa}{i:Nat}{tr:Trail}{l:Nat}(h:i=tr.length):catFree A (l+tr.length+1-i) i tr l=(l,some tr):=by subst h;rw[show l+tr.length+1-tr.length=l+1 by omega];unfold catFree;rw[List.getElem?_eq_none (Nat.le_refl _)]
theorem catFree_skip {A:Dfa}{i:Nat}{tr:Trail}{l:Nat}{x:Spot}{st:Step}(h:tr[i]?=some (x,st))(hf:freeOf A x=none):catFree A (l+tr.length+1-i) i tr l=catFree A (l+tr.length+1-(i+1)) (i+1) tr l:=by have hi:=(List.getElem?_eq_some_iff.1 h).1;rw[show l+tr.length+1-i=(l+tr.length+1-(i+1))+1 by omega,catFree,h];simp only[hf]
theorem catFree_none {A:Dfa}{i:Nat}{tr:Trail}{l:Nat}{x y:Spot}{st:Step}(h:tr[i]?=some (x,st))(hf:freeOf A x=some y)(ha:addSpot y ⟨i,0,true⟩ tr l=none):catFree A (l+tr.length+1-i) i tr l=(l,none):=by have hi:=(List.getElem?_eq_some_iff.1 h).1;rw[show l+tr.length+1-i=(l+tr.length+1-(i+1))+1 by omega,catFree,h];simp only[hf,ha]
theorem catFree_some {A:Dfa}{i:Nat}{tr tr':Trail}{l l':Nat}{x y:Spot}{st:Step}(h:tr[i]?=some (x,st))(hf:freeOf A x=some y)(ha:addSpot y ⟨i,0,true⟩ tr l=some (tr',l')):catFree A (l+tr.length+1-i) i tr l=catFree A (l'+tr'.length+1-(i+1)) (i+1) tr' l':=by
 have hi:=(List.getElem?_eq_some_iff.1 h).1;have hs:=(addSpot_sum ha).1;rw[show l+tr.length+1-i=(l+tr.length+1-(i+1))+1 by omega,catFree,h];simp only[hf,ha,hs]
theorem catFind_end {B:Dfa}{tr:Trail}{i:Nat}:catFind B tr 0 i=none:=rfl
theorem catFind_hit {B:Dfa}{tr:Trail}{n i:Nat}{x:Spot}{st:Step}(h:tr[i]?=some (x,st))(hn:n=tr.length-i)(ht:isTwo B x=true):catFind B tr n i=some i:=by
 have hi:=(List.getElem?_eq_some_iff.1 h).1;obtain⟨m,rfl⟩:∃m,n=m+1:=⟨n-1,by omega⟩
 rw[catFind,h];simp[ht]
theorem catFind_miss {B:Dfa}{tr:Trail}{i:Nat}{x:Spot}{st:Step}(h:tr[i]?=some (x,st))(ht:isTwo B x=false):catFind B tr (tr.length-i) i=catFind B tr (tr.length-(i+1)) (i+1):=by have hi:=(List.getElem?_eq_some_iff.1 h).1;rw[show tr.length-i=(tr.length-(i+1))+1 by omega,catFind,h];simp[ht]
def catK4 (A B:Dfa)(heads:List UInt8)(n i:Nat)(r:Nat × Option Trail):Nat × Option Trail:=match r with
 | (l,none)=>(l,none)
 | (l,some tr)=>catMore A B heads n i tr l
theorem catMore_step {A B:Dfa}{heads:List UInt8}{n i:Nat}{tr:Trail}{l:Nat}{x:Spot}{st:Step}(h:tr[i]?=some (x,st)):catMore A B heads (n+1) i tr l=catK4 A B heads n (i+1) (catBytes A B i x heads tr l):=by rw[catMore,h];simp only;unfold catK4;rcases catBytes A B i x heads tr l with⟨l',_|tr'⟩<;>rfl
theorem catMore_end {A B:Dfa}{heads:List UInt8}{i:Nat}{tr:Trail}{l:Nat}:catMore A B heads 0 i tr l=(l,some tr):=rfl
theorem catBytes_end {A B:Dfa}{i:Nat}{x:Spot}{tr:Trail}{l:Nat}:catBytes A B i x [] tr l=(l,some tr):=rfl
theorem catBytes_skip {A B:Dfa}{i:Nat}{x:Spot}{h:UInt8}{hs:List UInt8}{tr:Trail}{l:Nat}(hb:byOf A B x h=none):catBytes A B i x (h::hs) tr l=catBytes A B i x hs tr l:=by rw[catBytes];simp only[hb]
theorem catBytes_none {A B:Dfa}{i:Nat}{x y:Spot}{h:UInt8}{hs:List UInt8}{tr:Trail}{l:Nat}(hb:byOf A B x h=some y)(ha:addSpot y ⟨i,h,false⟩ tr l=none):catBytes A B i x (h::hs) tr l=(l,none):=by rw[catBytes];simp only[hb,ha]
theorem catBytes_some {A B:Dfa}{i:Nat}{x y:Spot}{h:UInt8}{hs:List UInt8}{tr tr':Trail}{l l':Nat}(hb:byOf A B x h=some y)(ha:addSpot y ⟨i,h,false⟩ tr l=some (tr',l')):catBytes A B i x (h::hs) tr l=catBytes A B i x hs tr' l':=by rw[catBytes];simp only[hb,ha]
def compStep (a:UInt8)(l:List UInt8):List UInt8:=match l with
 | []=>[a]
 | x::m=>if a=x then a::m else a::x::m
theorem compactB_cons (a:UInt8)(l:List UInt8):compactB (a::l)=compStep a (compactB l):=by rw[compactB];unfold compStep;rfl
theorem compactB_ne (a:UInt8)(l:List UInt8):compactB (a::l)≠[]:=by
 rw[compactB_cons];unfold compStep;split
 ·simp
 ·split<;>simp
theorem compStep_snoc (a b:UInt8)(l:List UInt8)(h:l≠[]):compStep a (l++[b])=compStep a l++[b]:=by
 cases l with
 | nil=>exact absurd rfl h
 | cons x m=>simp only[compStep,List.cons_append];split<;>rfl
theorem compactB_snoc (b:UInt8):∀l:List UInt8,compactB (l++[b])=if l.getLast?=some b then compactB l else compactB l++[b]
 | []=>rfl
 | [a]=>by
   have e:[a].getLast?=some a:=rfl;rw[e];by_cases h:a=b
   ·subst h;simp[compactB]
   ·have:¬(some a=some b):=by simpa using h
    rw[if_neg this];simp[compactB,h]
 | a::c::l=>by
   have ih:=compactB_snoc b (c::l);rw[List.cons_append,compactB_cons,ih,List.getLast?_cons_cons];split
   ·rw[←compactB_cons]
   ·rw[compStep_snoc _ _ _ (compactB_ne c l),←compactB_cons]
theorem compStep_len (a:UInt8)(l:List UInt8):(compStep a l).length≤l.length+1:=by
 unfold compStep;split
 ·simp
 ·split<;>simp
theorem compactB_len:∀l:List UInt8,(compactB l).length≤l.length
 | []=>Nat.le_refl _
 | a::l=>by rw[compactB_cons];have:=compStep_len a (compactB l);have:=compactB_len l;simp;omega
theorem insB_len' (b:UInt8):∀l,(insB b l).length=l.length+1
 | []=>rfl
 | x::l=>by
   simp only[insB];split
   ·simp[insB_len' b l]
   ·rfl
theorem sortB_len:∀l:List UInt8,(sortB l).length=l.length
 | []=>rfl
 | b::l=>by rw[sortB,insB_len',sortB_len l];rfl
end Pv
namespace Pv
def hR1:R:=word [120]
def hR2:R:=many (one (S4.of [97,98]))
def hRt:R:=word [97]
def hL:List R:=[hR2,nothing]
theorem hL_closed:closedL hL=true:=by decide +kernel
theorem hL_size:∀r∈hL,size r≤300000:=by decide +kernel
theorem h_size:size hR1+size hR2<1000000:=by decide +kernel
theorem h_match:matchR [97] hR2=true:=by decide +kernel
theorem some_get {α:Type}{x:Nat × Option α}(h:x.2.isSome=true){n:Nat}(h1:x.1=n):∃y,x=(n,some y):=by
 obtain⟨a,b⟩:=x;cases b with
 | none=>cases h
 | some b=>exact⟨b,by rw[←h1]⟩
theorem pair_get {α:Type}{x:Nat × α}{n:Nat}{y:α}(h1:x.1=n)(h2:x.2=y):x=(n,y):=by obtain⟨a,b⟩:=x;simp only at h1 h2;rw[h1,h2]
def hA:Option Side:=(side hR1 500).2
def hB:Option Side:=(side hR2 488).2
def hS1:Option Side:=(side (cat [hR1,hR2]) 461).2
theorem h_e1:(side hR1 500).1=494:=by decide +kernel
theorem h_f1:(side hR1 500).2.isSome=true:=by decide +kernel
theorem h_e2:(side hR1 494).1=488:=by decide +kernel
theorem h_f2:(side hR1 494).2.isSome=true:=by decide +kernel
theorem h_e3:(side hR2 488).1=484:=by decide +kernel
theorem h_f3:(side hR2 488).2.isSome=true:=by decide +kernel
theorem h_e4:(side hRt 484).1=478:=by decide +kernel
theorem h_f4:(side hRt 484).2.isSome=true:=by decide +kernel
theorem h_e5:(ambigCat hR1 hR2 478).1=470:=by decide +kernel
theorem h_f5:(ambigCat hR1 hR2 478).2=some none:=by decide +kernel
theorem h_e6:(ambigCat hR1 hRt 470).1=461:=by decide +kernel
theorem h_f6:(ambigCat hR1 hRt 470).2=some none:=by decide +kernel
theorem h_e7:(side (cat [hR1,hR2]) 461).1=455:=by decide +kernel
theorem h_f7:(side (cat [hR1,hR2]) 461).2.isSome=true:=by decide +kernel
theorem h_f8:(side (cat [hR1,hRt]) 455).2.isSome=true:=by decide +kernel
theorem h_places:((side hR1 500).2.bind fun A=>(side hR2 488).2.map fun B=>places A B [120,98,98])=some [1]:=by decide +kernel
theorem h_accepts:((side (cat [hR1,hR2]) 461).2.map fun A=>A.fore.accepts [120,98,98])=some true:=by decide +kernel
def headsSum (x y:R)(l:Nat):Bool:=match build x l with
 | (l1,some A)=>(match (build y l1).2 with
   | some B=>decide (A.parts.length+B.parts.length≤12)
   | none=>true)
 | _=>true
theorem headsSum_le {x y:R}{l:Nat}(h:headsSum x y l=true):∀A B l1,build x l=(l1,some A)→(build y l1).2=some B→A.parts.length+B.parts.length≤12:=by intro A B l1 h1 h2;unfold headsSum at h;rw[h1]at h;simp only at h;rw[h2]at h;simpa using h
theorem h_d1:headsSum hR1 hR2 478=true:=by decide +kernel
theorem h_d2:headsSum hR1 hRt 470=true:=by decide +kernel
end Pv
namespace Pv
theorem Ck.two_true {l e:Nat}{t:T}{v:Bool}{r:Nat × Option (Option Two)}{c:Ck}(h:({ left:=l }:Ck).two e t v r=(c,true)):c={ left:=r.1 }:=by
 obtain⟨l',r⟩:=r
 match r with
 | none=>simp[Ck.two]at h
 | some none=>simp[Ck.two]at h;exact h.symm
 | some (some w)=>simp[Ck.two]at h
theorem Ck.told_true {l e:Nat}{t:T}{v:Bool}{r:Nat × Option (Option (List UInt8))}{c:Ck}(h:({ left:=l }:Ck).told e t v r=(c,true)):c={ left:=r.1 }:=by
 obtain⟨l',r⟩:=r
 match r with
 | none=>simp[Ck.told]at h
 | some none=>simp[Ck.told]at h;exact h.symm
 | some (some w)=>simp[Ck.told]at h
theorem Ck.splits_true {l:Nat}{t:T}{v:Bool}{x y:R}{c:Ck}(h:({ left:=l }:Ck).splits t v x y=(c,true)):c={ left:=(ambigCat x y l).1 }:=Ck.two_true (e:=20) (t:=t) (v:=v) (r:=ambigCat x y l) h
theorem Ck.iterates_true {l:Nat}{t:T}{v:Bool}{x:R}{c:Ck}(h:({ left:=l }:Ck).iterates t v x=(c,true)):c={ left:=(ambigIter x l).1 }:=Ck.two_true (e:=21) (t:=t) (v:=v) (r:=ambigIter x l) h
theorem Ck.apart_true {l:Nat}{t:T}{v:Bool}{x y:R}{c:Ck}(h:({ left:=l }:Ck).apart t v x y=(c,true)):c={ left:=(shared x y l).1 }:=Ck.told_true (e:=22) (t:=t) (v:=v) (r:=shared x y l) h
end Pv
namespace Pv
theorem Ck.within_true {l:Nat}{t:T}{tx:List UInt8}{x:R}{c:Ck}(h:({ left:=l }:Ck).within t tx x=(c,true)):c.fault={}:=by
 cases hm:matchR tx x with
 | true=>simp[Ck.within,Ck.ok,hm]at h;rw[←h]
 | false=>simp[Ck.within,Ck.ok,hm]at h
theorem Ck.eta {c:Ck}(h:c.fault={}):c={ left:=c.left }:=by cases c;simp only at h;rw[h]
theorem Ck.both_true {a:Ck × Bool}{f:Ck→Ck × Bool}{c:Ck}(h:Ck.both a f=(c,true)):a.2=true∧f a.1=(c,true):=by
 unfold Ck.both at h;split at h
 ·rename_i e;exact⟨e,h⟩
 ·rename_i e;rw[h]at e;exact absurd rfl e
theorem ctypes_true {t:T}{kids:List C}{l:Nat}{c:Ck}{w k:R}(h:ctypes t kids { left:=l }=((c,true),w,k)):c.fault={}:=by
 unfold ctypes at h;simp only at h;split at h
 ·cases h;rfl
 ·split at h
  ·simp only[Prod.mk.injEq]at h;exact Ck.within_true h.1
  ·split at h
   ·simp only[Prod.mk.injEq]at h;obtain⟨h1,h2⟩:=Ck.both_true h.1;have h3:(({ left:=l }:Ck).iterates t false (nth kids 0).1).1={ left:=(ambigIter (nth kids 0).1 l).1 }:=Ck.iterates_true (Prod.ext rfl h1);rw[h3]at h2;rw[Ck.iterates_true h2]
   ·split at h
    ·simp only[Prod.mk.injEq]at h;rw[Ck.apart_true h.1]
    ·simp only[Prod.mk.injEq]at h;obtain⟨h1,h2⟩:=Ck.both_true h.1;have h3:(({ left:=l }:Ck).splits t false (nth kids 0).1 (nth kids 1).1).1={ left:=(ambigCat (nth kids 0).1 (nth kids 1).1 l).1 }:=Ck.splits_true (Prod.ext rfl h1);rw[h3]at h2;rw[Ck.splits_true h2]
theorem Ck.side_some {l:Nat}{r:R}{c:Ck}{s:Side}(h:({ left:=l }:Ck).side r=(c,some s)):c.fault={}:=by
 have hq:({ left:=l }:Ck).side r=(match Pv.side r l with|(l,none)=>(({ left:=l,fault:={ e:=5 } }:Ck),none)|(l,some s)=>(({ left:=l }:Ck),some s)):=rfl;rw[hq]at h;split at h
 ·simp at h
 ·simp only[Prod.mk.injEq]at h;rw[←h.1]
theorem canonEnd_some {t:T}{kids:List C}{l:Nat}{c:Ck}{x:C}(h:canonEnd t kids { left:=l }=(c,some x)):c.fault={}:=by
 unfold canonEnd at h;split at h
 ·simp at h
 ·rename_i c1 w k hc;have h1:=Ck.eta (ctypes_true hc);rw[h1]at h;simp only at h;split at h
  ·rename_i ws cs ha hb;simp only[Prod.mk.injEq]at h;have h2:(({ left:=c1.left }:Ck).side w).1={ left:=(({ left:=c1.left }:Ck).side w).1.left }:=Ck.eta (Ck.side_some (s:=ws) (Prod.ext rfl ha));rw[h2]at hb h;rw[←h.1];exact Ck.side_some (s:=cs) (Prod.ext rfl hb)
  ·simp at h
mutual
theorem canonOf_some:∀ {t:T} {l:Nat} {c:Ck} {x:C},canonOf t { left:=l }=(c,some x)→c.fault={}
 | .mk op a n r tx bk ks,l,c,x,h=>by
   unfold canonOf at h;split at h
   ·simp at h
   ·split at h
    ·simp at h
    ·rename_i c1 kids hk;have h1:=Ck.eta (canonsOf_some hk);rw[h1]at h;exact canonEnd_some h
theorem canonsOf_some:∀ {ts:List T} {l:Nat} {c:Ck} {xs:List C},canonsOf ts { left:=l }=(c,some xs)→c.fault={}
 | [],l,c,xs,h=>by
   unfold canonsOf at h;simp only[Prod.mk.injEq]at h;rw[←h.1]
 | t::ts,l,c,xs,h=>by
   unfold canonsOf at h;split at h
   ·simp at h
   ·rename_i c1 k hk;have h1:=Ck.eta (canonOf_some hk);rw[h1]at h;split at h
    ·simp at h
    ·rename_i c2 l2 hl;simp only[Prod.mk.injEq]at h;rw[←h.1];exact canonsOf_some hl
end
end Pv
namespace Pv
variable {P:R→Prop}{K:List (List UInt8)}{L:Nat}
end Pv
