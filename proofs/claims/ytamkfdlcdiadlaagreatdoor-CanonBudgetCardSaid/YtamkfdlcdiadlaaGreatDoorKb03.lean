/- Plain laws: parts are never more than bytes. -/
import Derived.Test.YtamkfdlcdiadlaaGreatDoorKb02
import Derived.Test.YtamkfdlcdiadlaaGreatDoorKb01
set_option linter.all false
namespace Pv
def S4.cnt (s:S4):Nat:=(List.range 256).countP fun b=>s.has b
theorem countP_split (p q:Nat→Bool):∀l:List Nat,l.countP (fun b=>p b&&q b)+l.countP (fun b=>p b && !q b)=l.countP p
 | []=>rfl
 | a::l=>by have:=countP_split p q l;simp only[List.countP_cons];cases p a<;>cases q a<;>simp<;>omega
theorem cnt_split (p s:S4):(p.and s).cnt+(p.minus s).cnt=p.cnt:=by
 unfold S4.cnt;rw[←countP_split (fun b=>p.has b) (fun b=>s.has b)];congr 1
 ·exact List.countP_congr fun b _=>by rw[S4.has_and]
 ·exact List.countP_congr fun b _=>by rw[S4.has_minus]
theorem S4.ext_has {s t:S4}(h:∀b,b<256→s.has b=t.has b):s=t:=by
 have hw:∀k,k<4→s.word k=t.word k:=fun k hk=>by ext i hi;have:=h (64*k+i) (by omega);unfold S4.has at this;rw[show(64*k+i) / 64=k by omega,show(64*k+i) % 64=i by omega]at this;simpa [BitVec.getLsbD_eq_getElem hi] using this
 have h0:=hw 0 (by omega);have h1:=hw 1 (by omega);have h2:=hw 2 (by omega);have h3:=hw 3 (by omega);cases s;cases t;simp[S4.word]at h0 h1 h2 h3;subst h0;subst h1;subst h2;subst h3;rfl
theorem cnt_pos {s:S4}(h:s.isEmpty=false):1≤s.cnt:=by
 have:∃b,b<256∧s.has b=true:=by
  refine Classical.byContradiction fun hn => ?_
  have:s=S4.zero:=S4.ext_has fun b hb=>by
   rw[S4.has_zero];cases hs:s.has b with
   | false=>rfl
   | true=>exact absurd ⟨b,hb,hs⟩ hn
  rw[S4.isEmpty,this]at h;simp at h
 obtain⟨b,hb,hs⟩:=this;unfold S4.cnt;exact List.countP_pos_iff.2 ⟨b,List.mem_range.2 hb,hs⟩
theorem cnt_zero {s:S4}(h:s.isEmpty=true):s.cnt=0:=by
 have:s=S4.zero:=by simpa [S4.isEmpty] using h
 subst this;unfold S4.cnt;rw[List.countP_eq_zero];intro b _;rw[S4.has_zero];simp
def cnts (l:List S4):Nat:=(l.map S4.cnt).sum
theorem cnts_append (l m:List S4):cnts (l++m)=cnts l+cnts m:=by simp[cnts]
theorem cnts_filter:∀l:List S4,cnts (l.filter fun q => !q.isEmpty)=cnts l
 | []=>rfl
 | q::l=>by
   rw[List.filter_cons];cases h:q.isEmpty
   ·simp only[Bool.not_false,if_true];show q.cnt+cnts _=q.cnt+cnts l;rw[cnts_filter l]
   ·simp only[Bool.not_true,Bool.false_eq_true,if_false];show cnts _=q.cnt+cnts l;rw[cnts_filter l,cnt_zero h];omega
theorem cnts_step (s:S4):∀parts:List S4,cnts (refineStep parts s)=cnts parts
 | []=>rfl
 | p::parts=>by unfold refineStep;rw[List.flatMap_cons,cnts_append,cnts_filter];have:=cnts_step s parts;unfold refineStep at this;rw[this];have:=cnt_split p s;simp[cnts];omega
def NoE (l:List S4):Prop:=∀p∈l,p.isEmpty=false
theorem noE_step {parts:List S4}{s:S4}:NoE (refineStep parts s):=fun p hp=>let ⟨_,_,_,h⟩:=refineStep_sub hp;h
theorem len_cnts:∀ {l:List S4},NoE l→l.length≤cnts l
 | [],_=>Nat.zero_le _
 | p::l,h=>by
   have h1:=cnt_pos (h p (by simp));have h2:=len_cnts (l:=l) fun q hq=>h q (by simp[hq])
   show l.length+1≤p.cnt+cnts l;omega
theorem cnts_fold:∀(l parts:List S4),cnts (l.foldl refineStep parts)=cnts parts
 | [],_=>rfl
 | s::l,parts=>by rw[List.foldl_cons,cnts_fold l,cnts_step]
theorem cnt_all:S4.all.cnt=256:=by decide +kernel
theorem noE_fold:∀(l parts:List S4),NoE parts→NoE (l.foldl refineStep parts)
 | [],_,h=>h
 | s::l,parts,_=>noE_fold l _ noE_step
theorem parts_len (l:List S4):(l.foldl refineStep [S4.all]).length≤256:=by
 have h1:=len_cnts (noE_fold l [S4.all] fun p hp=>by rw[List.mem_singleton.1 hp];decide +kernel);rw[cnts_fold]at h1;have:cnts [S4.all]=256:=by simp[cnts,cnt_all]
 omega
theorem step_take_len (parts:List S4)(s:S4)(j:Nat):(refineStep (parts.take j) s).length≤(refineStep parts s).length:=by
 unfold refineStep;conv=>rhs;rw[←List.take_append_drop j parts,List.flatMap_append,List.length_append]
 omega
end Pv
namespace Pv
def WFl (l:List R):Prop:=∀r∈l,WF r
theorem wf_mk {op:Nat}{s:S4}{ks:List R}:WF (.mk op s ks)↔op≤7∧(op≠2→s=S4.zero)∧(op=3∨op=5→ks≠[])∧WFl ks:=by unfold WF;rw[WFs_iff];rfl
theorem wf_kids {r:R}(h:WF r):WFl r.kids:=by
 cases r with
 | mk op s ks=>rw[wf_mk]at h;exact h.2.2.2
theorem wfl_cons {r:R}{l:List R}:WFl (r::l)↔WF r∧WFl l:=by unfold WFl;simp
theorem wfl_nil:WFl []:=fun _ h=>by cases h
theorem wfl_append {l m:List R}(h:WFl l)(k:WFl m):WFl (l++m):=fun r hr=>by
 rcases List.mem_append.1 hr with hr|hr
 ·exact h r hr
 ·exact k r hr
theorem wfl_sub {l m:List R}(h:WFl l)(k:∀r∈m,r∈l):WFl m:=fun r hr=>h r (k r hr)
theorem wfl2 {a b:R}(ha:WF a)(hb:WF b):WFl [a,b]:=wfl_cons.2 ⟨ha,wfl_cons.2 ⟨hb,wfl_nil⟩⟩
theorem wf_nothing:WF nothing:=by unfold nothing;rw[wf_mk];exact⟨by omega,fun _=>rfl,by omega,wfl_nil⟩
theorem wf_empty:WF empty:=by unfold empty;rw[wf_mk];exact⟨by omega,fun _=>rfl,by omega,wfl_nil⟩
theorem wf_one (s:S4):WF (one s):=by
 unfold one;split
 ·exact wf_nothing
 ·rw[wf_mk];exact⟨by omega,by omega,by omega,wfl_nil⟩
theorem wfl_flat {op:Nat}{l:List R}(h:WFl l):WFl (flat op l):=by
 intro r hr;unfold flat at hr;obtain⟨x,hx,hr⟩:=List.mem_flatMap.1 hr;split at hr
 ·exact wf_kids (h x hx) r hr
 ·rw[List.mem_singleton.1 hr];exact h x hx
theorem wf_thenOf {l:List R}(h:WFl l):WF (thenOf l):=by
 unfold thenOf;split
 ·exact wf_nothing
 ·split
  ·exact wf_empty
  ·exact h _ (by simp)
  ·rename_i h0 _;rw[wf_mk];exact⟨by omega,fun _=>rfl,fun _ e=>h0 e,h⟩
theorem wf_cat {l:List R}(h:WFl l):WF (cat l):=by unfold cat;exact wf_thenOf (wfl_sub (wfl_flat h) fun r hr=>(List.mem_filter.1 hr).1)
theorem wf_word (l:List UInt8):WF (word l):=wf_cat fun r hr=>by obtain⟨b,_,rfl⟩:=List.mem_map.1 hr;exact wf_one _
theorem wf_many {r:R}(h:WF r):WF (many r):=by
 unfold many;split
 ·exact wf_empty
 ·split
  ·exact h
  ·rw[wf_mk];exact⟨by omega,fun _=>rfl,fun _=>by simp,wfl_cons.2 ⟨h,wfl_nil⟩⟩
theorem wfl_joinGo {f:S4→S4→S4}:∀ {l out:List R} {o:Option R},WFl l→WFl out→(∀x,o=some x→WF x)→WFl (joinGo f l out o)
 | [],out,o,_,ho,hx=>by
   unfold joinGo;refine wfl_sub (wfl_append ho (m:=o.toList) fun r hr => ?_) fun r hr=>mem_unique hr
   cases o with
   | none=>cases hr
   | some x=>simp at hr;subst hr;exact hx _ rfl
 | r::l,out,o,hl,ho,hx=>by
   obtain⟨hr,hl⟩:=wfl_cons.1 hl;unfold joinGo;split
   ·cases o with
    | none=>exact wfl_joinGo hl ho fun x e=>by cases e;exact hr
    | some x=>
      simp only;split
      ·exact wfl_append ho (wfl_cons.2 ⟨wf_one _,wfl_nil⟩)
      ·exact wfl_joinGo hl ho fun y e=>by cases e;exact wf_one _
   ·exact wfl_joinGo hl (wfl_append ho (wfl_cons.2 ⟨hr,wfl_nil⟩)) hx
theorem wf_any {l:List R}(h:WFl l):WF (any l):=by
 unfold any;have h1:WFl ((join 4 l S4.or).filter fun r => !(r.op==0)):=
  wfl_sub (wfl_joinGo (wfl_flat h) wfl_nil (fun _ e=>by cases e)) fun r hr=>(List.mem_filter.1 hr).1
 unfold anyOf;split
 ·exact wf_nothing
 ·rename_i e;exact h1 _ (by rw[e];simp)
 ·rw[wf_mk];exact⟨by omega,fun _=>rfl,by omega,h1⟩
end Pv
namespace Pv
theorem Dfa.run_snoc (D:Dfa)(q:Nat)(s:List UInt8)(b:UInt8):D.run q (s++[b])=D.step (D.run q s) b.toNat:=by unfold Dfa.run;rw[List.foldl_append];rfl
def Good (A B:Dfa)(l:Trail):Prop:=∀(i:Nat) (x:Spot) (s:Step),l[i]?=some (x,s)→(s.from_ = -1∧x=⟨0,0,0,false⟩) ∨
 ∃(j:Nat) (y:Spot) (t:Step),s.from_=(j:Int)∧j<i∧l[j]?=some (y,t)∧((s.free=true∧freeOf A y=some x)∨(s.free=false∧byOf A B y s.by_=some x))
theorem Good.start (A B:Dfa):Good A B [(⟨0,0,0,false⟩,⟨-1,0,false⟩)]:=fun i x s h=>by
 cases i with
 | zero=>simp at h;obtain⟨rfl,rfl⟩:=h;exact .inl ⟨rfl,rfl⟩
 | succ i=>simp at h
theorem addSpot_spec {x:Spot}{s:Step}{l l':Trail}{n n':Nat}(h:addSpot x s l n=some (l',n')):(l'=l∧n'=n)∨(l'=l++[(x,s)]∧n'+1=n):=by
 unfold addSpot at h;split at h
 ·cases h;exact .inl ⟨rfl,rfl⟩
 ·split at h
  ·cases h
  ·cases h;exact .inr ⟨rfl,by omega⟩
theorem Good.add {A B:Dfa}{l l':Trail}(hG:Good A B l){j:Nat}{y:Spot}{t:Step}(hj:l[j]?=some (y,t)){x:Spot}{b:UInt8}{fr:Bool}
  (hx:(fr=true∧freeOf A y=some x)∨(fr=false∧byOf A B y b=some x)) {n n':Nat} (h:addSpot x ⟨j,b,fr⟩ l n=some (l',n')):Good A B l':=by
 rcases addSpot_spec h with⟨rfl,_⟩|⟨rfl,_⟩
 ·exact hG
 ·intro i z s hi;have hjl:=(List.getElem?_eq_some_iff.1 hj).1;by_cases e:i<l.length
  ·rw[List.getElem?_append_left e]at hi;rcases hG i z s hi with h|⟨j',y',t',h1,h2,h3,h4⟩
   ·exact .inl h
   ·exact .inr ⟨j',y',t',h1,h2,by rw[List.getElem?_append_left (by omega)];exact h3,h4⟩
  ·rw[List.getElem?_append_right (by omega)]at hi;have e0:i-l.length=0:=by
    cases hk:i-l.length with
    | zero=>rfl
    | succ k=>rw[hk]at hi;simp at hi
   rw[e0]at hi;simp at hi;obtain⟨rfl,rfl⟩:=hi;exact .inr ⟨j,y,t,rfl,by omega,by rw[List.getElem?_append_left hjl];exact hj,hx⟩
inductive Tells (A B:Dfa)(x:Spot):List UInt8→List Nat→Prop where
 | ahead (u:List UInt8):x.phase=0→x.p=A.run 0 u→x.q=0→Tells A B x u []
 | between (u v:List UInt8):x.phase=1→A.isYes (A.run 0 u)=true→x.p=A.run 0 (u++v)→x.q=B.run 0 v→(x.moved=true→v≠[])→Tells A B x (u++v) [v.length]
 | behind (u v z:List UInt8):x.phase=2→A.isYes (A.run 0 u)=true→A.isYes (A.run 0 (u++v))=true→v≠[]→x.p=B.run 0 (v++z)→x.q=B.run 0 z →
  Tells A B x (u++(v++z)) [z.length,(v++z).length]
theorem twoGo_tells {A B:Dfa}{l:Trail}(hG:Good A B l):∀(i:Nat) (x:Spot) (s:Step),l[i]?=some (x,s)→∀(f:Nat),i<f→∃u ps,Tells A B x u ps ∧
  ∀out places,twoGo l f i out places=(out++u.reverse,places++ps.map (out.length + ·)):=by
 intro i;induction i using Nat.strongRecOn with
 | _ i ih=>
   intro x s hx f hf;obtain⟨f,rfl⟩:∃g,f=g+1:=⟨f-1,by omega⟩
   rcases hG i x s hx with⟨h1,rfl⟩|⟨j,y,t,h1,h2,h3,h4⟩
   ·refine ⟨[],[],.ahead [] rfl rfl rfl,fun out places => ?_⟩;unfold twoGo;simp only[hx,h1];simp
   ·obtain⟨u,ps,hT,hE⟩:=ih j h2 y t h3 f (by omega);have hneg:¬(s.from_<0):=by omega
    have hto:s.from_.toNat=j:=by omega
    rcases h4 with⟨hfr,hy⟩|⟨hfr,hy⟩
    ·have hgo:∀out places,twoGo l (f+1) i out places=twoGo l f j out (places++[out.length]):=fun out places=>by
      conv=>lhs;unfold twoGo
      simp only[hx,hneg,if_false,hfr,if_true,hto]
     unfold freeOf at hy;split at hy
     ·rename_i e;cases hy;cases hT with
      | ahead u e1 e2 e3=>
        refine⟨u++[],[0],.between u [] rfl (by rw[←e2];exact e.2) (by simpa using e2) rfl (fun h=>by cases h),fun out places => ?_⟩;rw[hgo,hE];simp
      | between u v e1=>omega
      | behind u v z e1=>omega
     ·split at hy
      ·rename_i e;cases hy;cases hT with
       | ahead u e1=>omega
       | between u v e1 e2 e3 e4 e5=>
         refine⟨u++(v++[]),[0,v.length],(by simpa using Tells.behind (A:=A) (B:=B) (x:=⟨2,y.q,0,false⟩) u v [] rfl e2 (by rw[←e3];exact e.2.2) (e5 e.2.1) (by simpa using e4) rfl),fun out places => ?_⟩;rw[hgo,hE];simp
       | behind u v z e1=>omega
      ·cases hy
    ·have hgo:∀out places,twoGo l (f+1) i out places=twoGo l f j (out++[s.by_]) places:=fun out places=>by
      conv=>lhs;unfold twoGo
      simp only[hx,hneg,if_false,hfr,hto];simp
     unfold byOf at hy;simp only at hy;split at hy
     ·rename_i e;split at hy
      ·cases hy;cases hT with
       | ahead u e1 e2 e3=>
         refine⟨u++[s.by_],[],.ahead _ rfl (by rw[Dfa.run_snoc,←e2]) rfl,fun out places => ?_⟩;rw[hgo,hE];simp
       | between u v e1=>omega
       | behind u v z e1=>omega
      ·cases hy
     ·rename_i e0;split at hy
      ·rename_i e;split at hy
       ·cases hy;cases hT with
        | ahead u e1=>omega
        | between u v e1 e2 e3 e4 e5=>
          refine⟨u++(v++[s.by_]),[(v++[s.by_]).length],.between u _ rfl e2 (by rw[←List.append_assoc,Dfa.run_snoc,←e3]) (by rw[Dfa.run_snoc,←e4]) (fun _=>by simp),fun out places => ?_⟩;rw[hgo,hE];simp;omega
        | behind u v z e1=>omega
       ·cases hy
      ·split at hy
       ·cases hy;cases hT with
        | ahead u e1=>omega
        | between u v e1=>omega
        | behind u v z e1 e2 e3 e4 e5 e6=>
          refine⟨u++(v++(z++[s.by_])),[(z++[s.by_]).length,(v++(z++[s.by_])).length],.behind u v _ rfl e2 e3 e4 (by rw[←List.append_assoc,Dfa.run_snoc,←e5]) (by rw[Dfa.run_snoc,←e6]),fun out places => ?_⟩;rw[hgo,hE];simp;omega
       ·cases hy
end Pv
namespace Pv
theorem nodup_lt:∀(n:Nat) (l:List Nat),l.Nodup→(∀x∈l,x<n)→l.length≤n
 | 0,l,_,h=>by
   cases l with
   | nil=>simp
   | cons x l=>have:=h x (by simp);omega
 | n+1,l,hn,h=>by
   have h1:=nodup_lt n (l.erase n) (hn.erase n) (fun x hx=>by
    have hx1:=List.mem_of_mem_erase hx;have:=h x hx1;have hne:x≠n:=fun e=>by subst e;exact absurd hx (hn.not_mem_erase)
    omega)
   by_cases hm:n∈l
   ·have:=List.length_erase_of_mem hm;omega
   ·rw[List.erase_of_not_mem hm]at h1;omega
structure CameOk (D:Dfa)(c:Came):Prop where
 first:c[0]?=some (0,-1,0)
 lt:∀x∈c,x.1<D.yes.length
 nd:(c.map (·.1)).Nodup
 pre:∀i x,c[i+1]?=some x→∃j y,j≤i∧c[j]?=some y∧x.2.1=(y.1:Int)
theorem CameOk.start {D:Dfa}(hD:D.Ok):CameOk D [(0,-1,0)]:=
 ⟨rfl,fun x hx=>by rw[List.mem_singleton.1 hx];exact hD.pos,by simp,fun i x h=>by simp at h⟩
theorem CameOk.len {D:Dfa}{c:Came}(h:CameOk D c):c.length≤D.yes.length:=by
 have:=nodup_lt D.yes.length (c.map (·.1)) h.nd (fun x hx=>by obtain⟨y,hy,rfl⟩:=List.mem_map.1 hx;exact h.lt y hy)
 simpa using this
theorem CameOk.add {D:Dfa}{c:Came}(h:CameOk D c){i:Nat}{x:Nat × Int × UInt8}(hi:c[i]?=some x){to:Nat}(hto:to<D.yes.length)(b:UInt8)(hn:¬c.any (fun y=>y.1==to)=true):CameOk D (c++[(to,(x.1:Int),b)]):=by
 have hi':=(List.getElem?_eq_some_iff.1 hi).1;refine⟨?_,?_,?_,?_⟩
 ·rw[List.getElem?_append_left (by omega)];exact h.first
 ·intro y hy;rcases List.mem_append.1 hy with hy|hy
  ·exact h.lt y hy
  ·rw[List.mem_singleton.1 hy];exact hto
 ·rw[List.map_append,List.nodup_append];refine⟨h.nd,by simp,?_⟩;intro a ha b' hb e;simp at hb;subst hb;subst e;obtain⟨y,hy,e⟩:=List.mem_map.1 ha;exact hn (List.any_eq_true.2 ⟨y,hy,by simp[e]⟩)
 ·intro k y hk;by_cases hkl:k+1<c.length
  ·rw[List.getElem?_append_left hkl]at hk;obtain⟨j,z,h1,h2,h3⟩:=h.pre k y hk;exact⟨j,z,h1,by rw[List.getElem?_append_left (by omega)];exact h2,h3⟩
  ·rw[List.getElem?_append_right (by omega)]at hk;obtain⟨e1,e2⟩:=List.getElem?_eq_some_iff.1 hk;simp at e1;have e3:k+1=c.length:=by omega
   have:y=(to,(x.1:Int),b):=by
    have h0:k+1-c.length=0:=by omega
    rw[h0]at hk;simpa using hk.symm
   subst this;exact⟨i,x,by omega,by rw[List.getElem?_append_left hi'];exact hi,rfl⟩
theorem cameOf_at {c:Came}:(c.map (·.1)).Nodup→∀ {i:Nat} {x:Nat × Int × UInt8},c[i]?=some x→cameOf c x.1=x.2:=by
 intro hn i x hi;unfold cameOf;have:c.find? (fun y=>y.1==x.1)=some x:=by
  induction c generalizing i with
  | nil=>simp at hi
  | cons y c ih=>
    rw[List.find?_cons];cases i with
    | zero=>simp at hi;subst hi;simp
    | succ i=>
      simp only[List.map_cons,List.nodup_cons]at hn;have hx:x∈c:=List.mem_of_getElem? (by simpa using hi);have hne:(y.1==x.1)=false:=by simp only[beq_eq_false_iff_ne];intro e;exact hn.1 (by rw[e];exact List.mem_map_of_mem hx)
      rw[hne];exact ih hn.2 (by simpa using hi)
 rw[this]
theorem textTo_zero {c:Came}{f:Nat}{out:List UInt8}:textTo c (f+1) 0 out=out:=by simp[textTo]
theorem textTo_step {c:Came}{f q:Nat}{out:List UInt8}(hq:q≠0):textTo c (f+1) q out=textTo c f (cameOf c q).1.toNat ((cameOf c q).2::out):=by rw[textTo,if_neg hq]
theorem nodup_idx {c:Came}(hn:(c.map (·.1)).Nodup){i j:Nat}{x y:Nat × Int × UInt8}(hi:c[i]?=some x)(hj:c[j]?=some y)(e:x.1=y.1):i=j:=by
 have h1:(c.map (·.1))[i]?=some x.1:=by rw[List.getElem?_map,hi];rfl
 have h2:(c.map (·.1))[j]?=some y.1:=by rw[List.getElem?_map,hj];rfl
 have hil:=(List.getElem?_eq_some_iff.1 h1).1;rw[e]at h1;exact(List.getElem?_inj hil hn).1 (h1.trans h2.symm)
theorem shortStep_new {D:Dfa}{q:Nat}{c:Came}{h:UInt8}(hn:c.any (fun x=>x.1==D.step q h.toNat)=false):shortStep D q c h=c++[(D.step q h.toNat,(q:Int),h)]:=by unfold shortStep;simp[hn]
theorem shortStep_old {D:Dfa}{q:Nat}{c:Came}{h:UInt8}(hn:c.any (fun x=>x.1==D.step q h.toNat)=true):shortStep D q c h=c:=by unfold shortStep;simp[hn]
theorem shortGo_yes {D:Dfa}{f i:Nat}{c:Came}{x:Nat × Int × UInt8}(hi:c[i]?=some x)(hy:D.isYes x.1=true):shortGo D (f+1) i c=some (textTo c (D.yes.length+1) x.1 []):=by rw[shortGo,hi];simp[hy]
theorem shortGo_no {D:Dfa}{f i:Nat}{c:Came}{x:Nat × Int × UInt8}(hi:c[i]?=some x)(hy:D.isYes x.1=false):shortGo D (f+1) i c=shortGo D f (i+1) (D.heads.foldl (shortStep D x.1) c):=by rw[shortGo,hi];simp[hy]
theorem shortGo_end {D:Dfa}{f i:Nat}{c:Came}(hi:c.length≤i):shortGo D f i c=none:=by
 cases f with
 | zero=>rfl
 | succ f=>rw[shortGo,List.getElem?_eq_none hi]
end Pv
namespace Pv
theorem insB_comm (a b:UInt8):∀l:List UInt8,insB a (insB b l)=insB b (insB a l)
 | []=>by
   simp only[insB];by_cases h1:b<a
   ·have h2:¬a<b:=by rw[UInt8.lt_iff_toNat_lt]at *;omega
    simp[h1,h2]
   ·by_cases h2:a<b
    ·simp[h1,h2]
    ·have:a=b:=by rw[UInt8.lt_iff_toNat_lt]at *;exact UInt8.toNat_inj.1 (by omega)
     subst this;rfl
 | x::l=>by
   have ih:=insB_comm a b l;simp only[insB];by_cases h1:x<b<;>by_cases h2:x<a
   ·simp[h1,h2,insB,ih]
   ·have h3:a<b:=by rw[UInt8.lt_iff_toNat_lt]at *;omega
    have h4:¬b<a:=by rw[UInt8.lt_iff_toNat_lt]at *;omega
    simp[h1,h2,insB,h3]
   ·have h3:b<a:=by rw[UInt8.lt_iff_toNat_lt]at *;omega
    simp[h1,h2,insB,h3]
   ·by_cases h3:b<a
    ·have h4:¬a<b:=by rw[UInt8.lt_iff_toNat_lt]at *;omega
     simp[h1,h2,insB,h3,h4]
    ·by_cases h4:a<b
     ·simp[h1,h2,insB,h3,h4]
     ·have:a=b:=by rw[UInt8.lt_iff_toNat_lt]at *;exact UInt8.toNat_inj.1 (by omega)
      subst this;rfl
theorem insB_foldl (b:UInt8):∀(l acc:List UInt8),l.foldl (fun x y=>insB y x) (insB b acc)=insB b (l.foldl (fun x y=>insB y x) acc)
 | [],_=>rfl
 | y::l,acc=>by simp only[List.foldl_cons];rw[insB_comm y b,insB_foldl b l]
theorem sortB_foldl:∀l:List UInt8,l.foldl (fun x y=>insB y x) []=sortB l
 | []=>rfl
 | b::l=>by simp only[List.foldl_cons,sortB];rw[insB_foldl b l [],sortB_foldl l]
def sortTake (l:List UInt8)(k:Nat):List UInt8:=(l.take k).foldl (fun x y=>insB y x) []
theorem sortTake_succ (l:List UInt8)(k:Nat)(h:k<l.length):sortTake l (k+1)=insB l[k] (sortTake l k):=by unfold sortTake;rw[List.take_succ_eq_append_getElem h,List.foldl_append];rfl
theorem insB_len (b:UInt8):∀l,(insB b l).length=l.length+1
 | []=>rfl
 | x::l=>by
   simp only[insB];split
   ·simp[insB_len b l]
   ·rfl
theorem sortTake_len (l:List UInt8):∀k,k≤l.length→(sortTake l k).length=k
 | 0,_=>rfl
 | k+1,h=>by rw[sortTake_succ l k (by omega),insB_len,sortTake_len l k (by omega)]
def Asc:List UInt8→Prop
 | []=>True
 | [_]=>True
 | a::b::l=>a≤b∧Asc (b::l)
theorem Asc.tail {a:UInt8}{l:List UInt8}(h:Asc (a::l)):Asc l:=by
 cases l with
 | nil=>trivial
 | cons b l=>exact h.2
theorem Asc.head {a:UInt8}:∀ {l:List UInt8},Asc (a::l)→∀x∈l,a≤x
 | [],_,x,hx=>by cases hx
 | b::l,h,x,hx=>by
   rcases List.mem_cons.1 hx with rfl|hx
   ·exact h.1
   ·have:=Asc.head h.2 x hx;have:=h.1;rw[UInt8.le_iff_toNat_le]at *;omega
theorem insB_asc (b:UInt8):∀l,Asc l→Asc (insB b l)
 | [],_=>trivial
 | [x],_=>by
   simp only[insB];split
   ·refine ⟨?_,trivial⟩;rw[UInt8.lt_iff_toNat_lt]at *;rw[UInt8.le_iff_toNat_le];omega
   ·refine ⟨?_,trivial⟩;rw[UInt8.lt_iff_toNat_lt]at *;rw[UInt8.le_iff_toNat_le];omega
 | x::y::l,h=>by
   have ih:=insB_asc b (y::l) h.2;have h1:=h.1;rw[insB];split
   ·rename_i hx;simp only[insB]at ih ⊢;split
    ·rename_i hy;rw[if_pos hy]at ih;exact⟨h1,ih⟩
    ·rename_i hy;rw[if_neg hy]at ih;refine⟨?_,ih⟩;rw[UInt8.lt_iff_toNat_lt]at *;rw[UInt8.le_iff_toNat_le];omega
   ·rename_i hx;refine⟨?_,h⟩;rw[UInt8.lt_iff_toNat_lt]at *;rw[UInt8.le_iff_toNat_le];omega
theorem sortTake_asc (l:List UInt8):∀k,k≤l.length→Asc (sortTake l k)
 | 0,_=>trivial
 | k+1,h=>by rw[sortTake_succ l k (by omega)];exact insB_asc _ _ (sortTake_asc l k (by omega))
theorem insB_lt (b:UInt8)(q:List UInt8)(hq:∀x∈q,b<x):insB b q=b::q:=by
 cases q with
 | nil=>rfl
 | cons x q=>
   have:=hq x (by simp);have h2:¬x<b:=by rw[UInt8.lt_iff_toNat_lt]at *;omega
   simp[insB,h2]
theorem cons_same (b:UInt8):∀(p q:List UInt8),(∀x∈p,x=b)→b::(p++q)=p++b::q
 | [],_,_=>rfl
 | x::p,q,h=>by have:x=b:=h x (by simp);subst this;simp only[List.cons_append];rw[cons_same x p q fun y hy=>h y (by simp[hy])]
theorem insB_place (b:UInt8):∀(p q:List UInt8),Asc p→(∀x∈p,x≤b)→(∀x∈q,b<x)→insB b (p++q)=p++b::q
 | [],q,_,_,hq=>insB_lt b q hq
 | x::p,q,ha,hp,hq=>by
   simp only[List.cons_append,insB];split
   ·rw[insB_place b p q ha.tail (fun y hy=>hp y (by simp[hy])) hq]
   ·rename_i hx;have e:x=b:=by have:=hp x (by simp);rw[UInt8.lt_iff_toNat_lt]at hx;rw[UInt8.le_iff_toNat_le]at this;exact UInt8.toNat_inj.1 (by omega)
    subst e;congr 1;refine cons_same x p q fun y hy => ?_
    have h1:=ha.head y hy;have h2:=hp y (by simp[hy]);rw[UInt8.le_iff_toNat_le]at h1 h2;exact UInt8.toNat_inj.1 (by omega)
theorem Asc.le:∀ {l:List UInt8} (_:Asc l) {i j:Nat} (_:i≤j) (hj:j<l.length),l[i]≤l[j]
 | a::l,h,0,0,_,_=>UInt8.le_refl _
 | a::l,h,0,j+1,_,hj=>h.head _ (by simp)
 | a::l,h,i+1,j+1,hij,hj=>Asc.le h.tail (by omega) (by simpa using hj)
theorem Asc.take:∀ {l:List UInt8} (_:Asc l) (k:Nat),Asc (l.take k)
 | [],_,k=>by simp[Asc]
 | a::l,_,0=>by simp[Asc]
 | [a],_,k+1=>by simp[Asc]
 | a::b::l,h,k+1=>by
   have ih:=Asc.take h.2 k;cases k with
   | zero=>simp[Asc]
   | succ k=>simp only[List.take_succ_cons]at ih ⊢;exact⟨h.1,ih⟩
def midRow (acc:List UInt8)(b:UInt8)(j:Nat)(rest:List UInt8):List UInt8:=acc.take j++b::(acc.drop j++rest)
theorem midRow_start (acc:List UInt8)(b:UInt8)(rest:List UInt8):midRow acc b acc.length rest=acc++b::rest:=by unfold midRow;simp
theorem midRow_end (acc:List UInt8)(b:UInt8)(j:Nat)(rest:List UInt8)(ha:Asc acc)(hj:j≤acc.length)(h1:∀h:0<j,acc[j-1]'(by omega)≤b)(h2:∀x∈acc.drop j,b<x):midRow acc b j rest=insB b acc++rest:=by
 have:=insB_place b (acc.take j) (acc.drop j) (ha.take j) (fun x hx=>by obtain⟨i,hi,rfl⟩:=List.getElem_of_mem hx;rw[List.length_take]at hi;have h3:=h1 (by omega);have h4:=ha.le (i:=i) (j:=j-1) (by omega) (by omega);rw[List.getElem_take];rw[UInt8.le_iff_toNat_le]at *;omega) h2
 rw[List.take_append_drop]at this;rw[this];unfold midRow;simp
theorem midRow_len (acc:List UInt8)(b:UInt8)(j:Nat)(rest:List UInt8)(hj:j≤acc.length):(midRow acc b j rest).length=acc.length+1+rest.length:=by unfold midRow;simp;omega
theorem midRow_get (acc:List UInt8)(b:UInt8)(j:Nat)(rest:List UInt8)(hj:j≤acc.length):(midRow acc b j rest)[j]?=some b:=by unfold midRow;rw[List.getElem?_append_right (by simp;omega)];simp[Nat.min_eq_left hj]
theorem midRow_prev (acc:List UInt8)(b:UInt8)(j:Nat)(rest:List UInt8)(h0:0<j)(hj:j≤acc.length):(midRow acc b j rest)[j-1]?=some (acc[j-1]'(by omega)):=by unfold midRow;rw[List.getElem?_append_left (by simp;omega),List.getElem?_take,if_pos (by omega),List.getElem?_eq_getElem]
theorem midRow_swap (acc:List UInt8)(b:UInt8)(j:Nat)(rest:List UInt8)(h0:0<j)(hj:j≤acc.length):
  ((midRow acc b j rest).set j (acc[j-1]'(by omega))).set (j-1) b=midRow acc b (j-1) rest:=by
 apply List.ext_getElem?;intro i;obtain⟨k,rfl⟩:∃k,j=k+1:=⟨j-1,by omega⟩
 simp only[Nat.add_sub_cancel];have hlen:=midRow_len acc b (k+1) rest hj;have hlen2:=midRow_len acc b k rest (by omega);by_cases h1:i=k
 ·subst h1;rw[List.getElem?_set_self (by simp[hlen];omega),midRow_get _ _ _ _ (by omega)]
 ·rw[List.getElem?_set_ne (by omega)];by_cases h2:i=k+1
  ·subst h2;rw[List.getElem?_set_self (by omega)];unfold midRow;rw[List.getElem?_append_right (by simp;omega)];simp only[List.length_take,Nat.min_eq_left (show k≤acc.length by omega),Nat.add_sub_cancel_left,List.getElem?_cons_succ];rw[List.getElem?_append_left (by simp;omega),List.getElem?_drop];simp
  ·rw[List.getElem?_set_ne (by omega)];unfold midRow;by_cases h3:i<k
   ·rw[List.getElem?_append_left (by simp;omega),List.getElem?_append_left (by simp;omega),List.getElem?_take,List.getElem?_take,if_pos (by omega),if_pos (by omega)]
   ·rw[List.getElem?_append_right (by simp;omega),List.getElem?_append_right (by simp;omega)];simp only[List.length_take,Nat.min_eq_left hj,Nat.min_eq_left (show k≤acc.length by omega)];obtain⟨d,rfl⟩:∃d,i=k+2+d:=⟨i-(k+2),by omega⟩
    rw[show k+2+d-(k+1)=d+1 by omega,show k+2+d-k=d+2 by omega];simp only[List.getElem?_cons_succ];by_cases h4:d<(acc.drop (k+1)).length
    ·rw[List.getElem?_append_left h4,List.getElem?_append_left (by simp at h4 ⊢;omega),List.getElem?_drop,List.getElem?_drop];congr 1;omega
    ·rw[List.getElem?_append_right (by omega),List.getElem?_append_right (by simp at h4 ⊢;omega)];congr 1;simp at h4 ⊢;omega
theorem drop_one (acc:List UInt8)(j:Nat)(h0:0<j)(hj:j≤acc.length):acc.drop (j-1)=acc[j-1]'(by omega)::acc.drop j:=by rw[List.drop_eq_getElem_cons (by omega)];congr 2;omega
end Pv
namespace Pv
theorem addSpot_cases {x:Spot}{st:Step}{tr tr':Trail}{l l':Nat}(h:addSpot x st tr l=some (tr',l')):(tr'=tr∧l'=l)∨(tr'=tr++[(x,st)]∧l=l'+1):=by
 unfold addSpot at h;split at h
 ·injection h with h;injection h with h1 h2;exact .inl ⟨h1.symm,h2.symm⟩
 ·split at h
  ·cases h
  ·injection h with h;injection h with h1 h2;exact .inr ⟨h1.symm,by omega⟩
theorem addSpot_sum {x:Spot}{st:Step}{tr tr':Trail}{l l':Nat}(h:addSpot x st tr l=some (tr',l')):l'+tr'.length=l+tr.length∧l'≤l∧tr.length≤tr'.length:=by
 rcases addSpot_cases h with⟨rfl,rfl⟩|⟨rfl,rfl⟩
 ·exact⟨rfl,Nat.le_refl _,Nat.le_refl _⟩
 ·simp only[List.length_append,List.length_singleton];omega
theorem addSpot_get {x:Spot}{st:Step}{tr tr':Trail}{l l':Nat}(h:addSpot x st tr l=some (tr',l')){i:Nat}(hi:i<tr.length):tr'[i]?=tr[i]?:=by
 rcases addSpot_cases h with⟨rfl,rfl⟩|⟨rfl,rfl⟩
 ·rfl
 ·rw[List.getElem?_append_left hi]
theorem addSpot_none {x:Spot}{st:Step}{tr:Trail}{l:Nat}(h:addSpot x st tr l=none):l=0:=by
 unfold addSpot at h;split at h
 ·cases h
 ·split at h
  ·assumption
  ·cases h
def catK3 (A B:Dfa)(heads:List UInt8)(f upto:Nat)(r:Nat × Option Trail):Nat × Option (Option Two):=match r with
 | (l,none)=>(l,none)
 | (l,some tr)=>catGo A B heads f upto tr l
def catK2 (A B:Dfa)(heads:List UInt8)(f from_:Nat)(tr:Trail)(l:Nat):Nat × Option (Option Two):=match catFind B tr (tr.length-from_) from_ with
 | some i=>(l,some (some (twoOf tr i)))
 | none=>catK3 A B heads f tr.length (catMore A B heads (tr.length-from_) from_ tr l)
def catK1 (A B:Dfa)(heads:List UInt8)(f from_:Nat)(r:Nat × Option Trail):Nat × Option (Option Two):=match r with
 | (l,none)=>(l,none)
 | (l,some tr)=>catK2 A B heads f from_ tr l
theorem catGo_lt {A B:Dfa}{heads:List UInt8}{f from_:Nat}{tr:Trail}{l:Nat}(h:from_<tr.length):catGo A B heads (f+1) from_ tr l=catK1 A B heads f from_ (catFree A (l+tr.length+1-from_) from_ tr l):=by
 unfold catGo catK1 catK2 catK3;rw[if_pos h];rcases catFree A (l+tr.length+1-from_) from_ tr l with⟨l',_|tr'⟩
 ·rfl
 ·simp only;cases catFind B tr' (tr'.length-from_) from_ with
  | some i=>rfl
  | none=>
    simp only;rcases catMore A B heads (tr'.length-from_) from_ tr' l' with⟨l'',_|tr''⟩<;>rfl
theorem catGo_ge {A B:Dfa}{heads:List UInt8}{f from_:Nat}{tr:Trail}{l:Nat}(h:¬from_<tr.length):catGo A B heads (f+1) from_ tr l=(l,some none):=by unfold catGo;rw[if_neg h]
theorem catFree_end {A:Dfa}{i:Nat}{tr:Trail}{l:Nat}(h:i=tr.length):catFree A (l+tr.length+1-i) i tr l=(l,some tr):=by subst h;rw[show l+tr.length+1-tr.length=l+1 by omega];unfold catFree;rw[List.getElem?_eq_none (Nat.le_refl _)]
theorem catFree_skip {A:Dfa}{i:Nat}{tr:Trail}{l:Nat}{x:Spot}{st:Step}(h:tr[i]?=some (x,st))(hf:freeOf A x=none):catFree A (l+tr.length+1-i) i tr l=catFree A (l+tr.length+1-(i+1)) (i+1) tr l:=by have hi:=(List.getElem?_eq_some_iff.1 h).1;rw[show l+tr.length+1-i=(l+tr.length+1-(i+1))+1 by omega,catFree,h];simp only[hf]
theorem catFree_none {A:Dfa}{i:Nat}{tr:Trail}{l:Nat}{x y:Spot}{st:Step}(h:tr[i]?=some (x,st))(hf:freeOf A x=some y)(ha:addSpot y ⟨i,0,true⟩ tr l=none):catFree A (l+tr.length+1-i) i tr l=(l,none):=by have hi:=(List.getElem?_eq_some_iff.1 h).1;rw[show l+tr.length+1-i=(l+tr.length+1-(i+1))+1 by omega,catFree,h];simp only[hf,ha]
theorem catFree_some {A:Dfa}{i:Nat}{tr tr':Trail}{l l':Nat}{x y:Spot}{st:Step}(h:tr[i]?=some (x,st))(hf:freeOf A x=some y)(ha:addSpot y ⟨i,0,true⟩ tr l=some (tr',l')):catFree A (l+tr.length+1-i) i tr l=catFree A (l'+tr'.length+1-(i+1)) (i+1) tr' l':=by
 have hi:=(List.getElem?_eq_some_iff.1 h).1;have hs:=(addSpot_sum ha).1;rw[show l+tr.length+1-i=(l+tr.length+1-(i+1))+1 by omega,catFree,h];simp only[hf,ha,hs]
theorem catFind_end {B:Dfa}{tr:Trail}{i:Nat}:catFind B tr 0 i=none:=rfl
theorem catFind_hit {B:Dfa}{tr:Trail}{n i:Nat}{x:Spot}{st:Step}(h:tr[i]?=some (x,st))(hn:n=tr.length-i)(ht:isTwo B x=true):catFind B tr n i=some i:=by
 have hi:=(List.getElem?_eq_some_iff.1 h).1;obtain⟨m,rfl⟩:∃m,n=m+1:=⟨n-1,by omega⟩
 rw[catFind,h];simp[ht]
theorem catFind_miss {B:Dfa}{tr:Trail}{i:Nat}{x:Spot}{st:Step}(h:tr[i]?=some (x,st))(ht:isTwo B x=false):catFind B tr (tr.length-i) i=catFind B tr (tr.length-(i+1)) (i+1):=by have hi:=(List.getElem?_eq_some_iff.1 h).1;rw[show tr.length-i=(tr.length-(i+1))+1 by omega,catFind,h];simp[ht]
def catK4 (A B:Dfa)(heads:List UInt8)(n i:Nat)(r:Nat × Option Trail):Nat × Option Trail:=match r with
 | (l,none)=>(l,none)
 | (l,some tr)=>catMore A B heads n i tr l
theorem catMore_step {A B:Dfa}{heads:List UInt8}{n i:Nat}{tr:Trail}{l:Nat}{x:Spot}{st:Step}(h:tr[i]?=some (x,st)):catMore A B heads (n+1) i tr l=catK4 A B heads n (i+1) (catBytes A B i x heads tr l):=by rw[catMore,h];simp only;unfold catK4;rcases catBytes A B i x heads tr l with⟨l',_|tr'⟩<;>rfl
theorem catMore_end {A B:Dfa}{heads:List UInt8}{i:Nat}{tr:Trail}{l:Nat}:catMore A B heads 0 i tr l=(l,some tr):=rfl
theorem catBytes_end {A B:Dfa}{i:Nat}{x:Spot}{tr:Trail}{l:Nat}:catBytes A B i x [] tr l=(l,some tr):=rfl
theorem catBytes_skip {A B:Dfa}{i:Nat}{x:Spot}{h:UInt8}{hs:List UInt8}{tr:Trail}{l:Nat}(hb:byOf A B x h=none):catBytes A B i x (h::hs) tr l=catBytes A B i x hs tr l:=by rw[catBytes];simp only[hb]
theorem catBytes_none {A B:Dfa}{i:Nat}{x y:Spot}{h:UInt8}{hs:List UInt8}{tr:Trail}{l:Nat}(hb:byOf A B x h=some y)(ha:addSpot y ⟨i,h,false⟩ tr l=none):catBytes A B i x (h::hs) tr l=(l,none):=by rw[catBytes];simp only[hb,ha]
theorem catBytes_some {A B:Dfa}{i:Nat}{x y:Spot}{h:UInt8}{hs:List UInt8}{tr tr':Trail}{l l':Nat}(hb:byOf A B x h=some y)(ha:addSpot y ⟨i,h,false⟩ tr l=some (tr',l')):catBytes A B i x (h::hs) tr l=catBytes A B i x hs tr' l':=by rw[catBytes];simp only[hb,ha]
def compStep (a:UInt8)(l:List UInt8):List UInt8:=match l with
 | []=>[a]
 | x::m=>if a=x then a::m else a::x::m
theorem compactB_cons (a:UInt8)(l:List UInt8):compactB (a::l)=compStep a (compactB l):=by rw[compactB];unfold compStep;rfl
theorem compactB_ne (a:UInt8)(l:List UInt8):compactB (a::l)≠[]:=by
 rw[compactB_cons];unfold compStep;split
 ·simp
 ·split<;>simp
theorem compStep_snoc (a b:UInt8)(l:List UInt8)(h:l≠[]):compStep a (l++[b])=compStep a l++[b]:=by
 cases l with
 | nil=>exact absurd rfl h
 | cons x m=>simp only[compStep,List.cons_append];split<;>rfl
theorem compactB_snoc (b:UInt8):∀l:List UInt8,compactB (l++[b])=if l.getLast?=some b then compactB l else compactB l++[b]
 | []=>rfl
 | [a]=>by
   have e:[a].getLast?=some a:=rfl;rw[e];by_cases h:a=b
   ·subst h;simp[compactB]
   ·have:¬(some a=some b):=by simpa using h
    rw[if_neg this];simp[compactB,h]
 | a::c::l=>by
   have ih:=compactB_snoc b (c::l);rw[List.cons_append,compactB_cons,ih,List.getLast?_cons_cons];split
   ·rw[←compactB_cons]
   ·rw[compStep_snoc _ _ _ (compactB_ne c l),←compactB_cons]
theorem compStep_len (a:UInt8)(l:List UInt8):(compStep a l).length≤l.length+1:=by
 unfold compStep;split
 ·simp
 ·split<;>simp
theorem compactB_len:∀l:List UInt8,(compactB l).length≤l.length
 | []=>Nat.le_refl _
 | a::l=>by rw[compactB_cons];have:=compStep_len a (compactB l);have:=compactB_len l;simp;omega
theorem insB_len' (b:UInt8):∀l,(insB b l).length=l.length+1
 | []=>rfl
 | x::l=>by
   simp only[insB];split
   ·simp[insB_len' b l]
   ·rfl
theorem sortB_len:∀l:List UInt8,(sortB l).length=l.length
 | []=>rfl
 | b::l=>by rw[sortB,insB_len',sortB_len l];rfl
end Pv
namespace Pv
def hR1:R:=word [120]
def hR2:R:=many (one (S4.of [97,98]))
def hRt:R:=word [97]
def hL:List R:=[hR2,nothing]
theorem hL_closed:closedL hL=true:=by decide +kernel
theorem hL_size:∀r∈hL,size r≤300000:=by decide +kernel
theorem h_size:size hR1+size hR2<1000000:=by decide +kernel
theorem h_match:matchR [97] hR2=true:=by decide +kernel
theorem some_get {α:Type}{x:Nat × Option α}(h:x.2.isSome=true){n:Nat}(h1:x.1=n):∃y,x=(n,some y):=by
 obtain⟨a,b⟩:=x;cases b with
 | none=>cases h
 | some b=>exact⟨b,by rw[←h1]⟩
theorem pair_get {α:Type}{x:Nat × α}{n:Nat}{y:α}(h1:x.1=n)(h2:x.2=y):x=(n,y):=by obtain⟨a,b⟩:=x;simp only at h1 h2;rw[h1,h2]
def hA:Option Side:=(side hR1 500).2
def hB:Option Side:=(side hR2 488).2
def hS1:Option Side:=(side (cat [hR1,hR2]) 461).2
theorem h_e1:(side hR1 500).1=494:=by decide +kernel
theorem h_f1:(side hR1 500).2.isSome=true:=by decide +kernel
theorem h_e2:(side hR1 494).1=488:=by decide +kernel
theorem h_f2:(side hR1 494).2.isSome=true:=by decide +kernel
theorem h_e3:(side hR2 488).1=484:=by decide +kernel
theorem h_f3:(side hR2 488).2.isSome=true:=by decide +kernel
theorem h_e4:(side hRt 484).1=478:=by decide +kernel
theorem h_f4:(side hRt 484).2.isSome=true:=by decide +kernel
theorem h_e5:(ambigCat hR1 hR2 478).1=470:=by decide +kernel
theorem h_f5:(ambigCat hR1 hR2 478).2=some none:=by decide +kernel
theorem h_e6:(ambigCat hR1 hRt 470).1=461:=by decide +kernel
theorem h_f6:(ambigCat hR1 hRt 470).2=some none:=by decide +kernel
theorem h_e7:(side (cat [hR1,hR2]) 461).1=455:=by decide +kernel
theorem h_f7:(side (cat [hR1,hR2]) 461).2.isSome=true:=by decide +kernel
theorem h_f8:(side (cat [hR1,hRt]) 455).2.isSome=true:=by decide +kernel
theorem h_places:((side hR1 500).2.bind fun A=>(side hR2 488).2.map fun B=>places A B [120,98,98])=some [1]:=by decide +kernel
theorem h_accepts:((side (cat [hR1,hR2]) 461).2.map fun A=>A.fore.accepts [120,98,98])=some true:=by decide +kernel
def headsSum (x y:R)(l:Nat):Bool:=match build x l with
 | (l1,some A)=>(match (build y l1).2 with
   | some B=>decide (A.parts.length+B.parts.length≤12)
   | none=>true)
 | _=>true
theorem headsSum_le {x y:R}{l:Nat}(h:headsSum x y l=true):∀A B l1,build x l=(l1,some A)→(build y l1).2=some B→A.parts.length+B.parts.length≤12:=by intro A B l1 h1 h2;unfold headsSum at h;rw[h1]at h;simp only at h;rw[h2]at h;simpa using h
theorem h_d1:headsSum hR1 hR2 478=true:=by decide +kernel
theorem h_d2:headsSum hR1 hRt 470=true:=by decide +kernel
end Pv
