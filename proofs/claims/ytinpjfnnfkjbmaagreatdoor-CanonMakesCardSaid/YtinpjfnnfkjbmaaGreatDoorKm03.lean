/- Plain laws: what holds of all sets of an expression holds of those of its derivatives; bytes that no set tells apart. -/
import Derived.Test.YtinpjfnnfkjbmaaGreatDoorKm02
set_option linter.all false
namespace Pv
structure Closed (P:S4→Prop):Prop where
 all:P S4.all
 or:∀ {s t},P s→P t→P (s.or t)
 and:∀ {s t},P s→P t→P (s.and t)
 minus:∀ {s t},P s→P t→P (s.minus t)
def AllP (P:S4→Prop)(r:R):Prop:=∀s∈allSets r,P s
def AllPs (P:S4→Prop)(l:List R):Prop:=∀r∈l,AllP P r
variable {P:S4→Prop}
theorem allSetsL_flat:∀l:List R,allSetsL l=l.flatMap allSets
 | []=>rfl
 | r::l=>by rw[allSetsL,allSetsL_flat l,List.flatMap_cons]
theorem allP_mk {op:Nat}{s:S4}{ks:List R}:AllP P (.mk op s ks)↔if op=2 then P s else AllPs P ks:=by
 unfold AllP;rw[allSets];split
 ·simp
 ·rw[allSetsL_flat];constructor
  ·intro h r hr x hx;exact h x (List.mem_flatMap.2 ⟨r,hr,hx⟩)
  ·intro h x hx;obtain⟨r,hr,hx⟩:=List.mem_flatMap.1 hx;exact h r hr x hx
theorem allP_set {r:R}(h:AllP P r)(h2:r.op=2):P r.set:=by
 cases r with
 | mk op s ks=>rw[allP_mk]at h;simp only[R.op]at h2;rw[if_pos h2]at h;exact h
theorem allP_kids {r:R}(h:AllP P r)(h2:r.op≠2):AllPs P r.kids:=by
 cases r with
 | mk op s ks=>rw[allP_mk]at h;simp only[R.op]at h2;rw[if_neg h2]at h;exact h
theorem allPs_cons {r:R}{l:List R}:AllPs P (r::l)↔AllP P r∧AllPs P l:=by unfold AllPs;simp
theorem allPs_append {l m:List R}(h:AllPs P l)(k:AllPs P m):AllPs P (l++m):=fun r hr=>by
 rcases List.mem_append.1 hr with hr|hr
 ·exact h r hr
 ·exact k r hr
theorem allPs_sub {l m:List R}(h:AllPs P l)(k:∀r∈m,r∈l):AllPs P m:=fun r hr=>h r (k r hr)
theorem allPs_nil:AllPs P []:=fun _ h=>by cases h
theorem allP_nothing:AllP P nothing:=by unfold nothing;rw[allP_mk];simp[AllPs]
theorem allP_empty:AllP P empty:=by unfold empty;rw[allP_mk];simp[AllPs]
theorem allP_one {s:S4}(h:P s):AllP P (one s):=by
 unfold one;split
 ·exact allP_nothing
 ·rw[allP_mk,if_pos rfl];exact h
theorem allPs_flat {op:Nat}(h2:op≠2){l:List R}(h:AllPs P l):AllPs P (flat op l):=by
 intro r hr;unfold flat at hr;obtain⟨x,hx,hr⟩:=List.mem_flatMap.1 hr;split at hr
 ·rename_i e;exact allP_kids (h x hx) (by omega) r hr
 ·rw[List.mem_singleton.1 hr];exact h x hx
theorem allP_thenOf {l:List R}(h:AllPs P l):AllP P (thenOf l):=by
 unfold thenOf;split
 ·exact allP_nothing
 ·split
  ·exact allP_empty
  ·exact h _ (by simp)
  ·rw[allP_mk];simpa using h
theorem allP_cat {l:List R}(h:AllPs P l):AllP P (cat l):=by unfold cat;exact allP_thenOf (allPs_sub (allPs_flat (by omega) h) fun r hr=>(List.mem_filter.1 hr).1)
theorem allP_many {r:R}(h:AllP P r):AllP P (many r):=by
 unfold many;split
 ·exact allP_empty
 ·split
  ·exact h
  ·rw[allP_mk];simp;exact allPs_cons.2 ⟨h,allPs_nil⟩
theorem allP_but (hC:Closed P){a b:R}(ha:AllP P a)(hb:AllP P b):AllP P (but a b):=by
 unfold but;split
 ·exact allP_nothing
 ·split
  ·exact ha
  ·split
   ·rename_i e;exact allP_one (hC.minus (allP_set ha e.1) (allP_set hb e.2))
   ·rw[allP_mk];simp;exact allPs_cons.2 ⟨ha,allPs_cons.2 ⟨hb,allPs_nil⟩⟩
theorem mem_ins {r x:R}:∀ {l:List R},x∈ins r l→x=r∨x∈l
 | [],h=>by simp[ins]at h;exact .inl h
 | y::l,h=>by
   unfold ins at h;split at h
   ·rcases List.mem_cons.1 h with h|h
    ·exact .inr (by simp[h])
    ·rcases mem_ins h with h|h
     ·exact .inl h
     ·exact .inr (by simp[h])
   ·rcases List.mem_cons.1 h with h|h
    ·exact .inl h
    ·exact .inr h
theorem mem_isort {x:R}:∀ {l:List R},x∈isort l→x∈l
 | [],h=>h
 | r::l,h=>by
   unfold isort at h;rcases mem_ins h with h|h
   ·simp[h]
   ·simp[mem_isort h]
theorem mem_compact {x:R}:∀ {l:List R},x∈compact l→x∈l
 | [],h=>h
 | r::l,h=>by
   unfold compact at h;split at h
   ·rename_i e;simp at h;simp[h]
   ·rename_i y m e;split at h
    ·rcases List.mem_cons.1 h with h|h
     ·simp[h]
     ·exact List.mem_cons_of_mem _ (mem_compact (by rw[e];simp[h]))
    ·rcases List.mem_cons.1 h with h|h
     ·simp[h]
     ·exact List.mem_cons_of_mem _ (mem_compact (by rw[e];exact h))
theorem mem_unique {x:R}{l:List R}(h:x∈unique l):x∈l:=mem_isort (mem_compact h)
theorem allPs_joinGo {f:S4→S4→S4}(hf:∀ {s t},P s→P t→P (f s t)):∀ {l out:List R} {o:Option R},AllPs P l→AllPs P out→(∀x,o=some x→AllP P x∧x.op=2)→AllPs P (joinGo f l out o)
 | [],out,o,_,ho,hx=>by
   unfold joinGo;refine allPs_sub (allPs_append ho (m:=o.toList) fun r hr => ?_) fun r hr=>mem_unique hr
   cases o with
   | none=>cases hr
   | some x=>simp at hr;subst hr;exact(hx _ rfl).1
 | r::l,out,o,hl,ho,hx=>by
   obtain⟨hr,hl⟩:=allPs_cons.1 hl;unfold joinGo;split
   ·rename_i h2;cases o with
    | none=>exact allPs_joinGo hf hl ho fun x e=>by cases e;exact⟨hr,h2⟩
    | some x=>
      have hp:=hf (allP_set (hx x rfl).1 (hx x rfl).2) (allP_set hr h2);simp only;split
      ·exact allPs_append ho (allPs_cons.2 ⟨allP_one hp,allPs_nil⟩)
      ·rename_i e0;refine allPs_joinGo hf hl ho fun y e => ?_
       cases e;refine⟨allP_one hp,?_⟩;revert e0;unfold one;split
       ·intro e0;exact absurd rfl e0
       ·intro _;rfl
   ·exact allPs_joinGo hf hl (allPs_append ho (allPs_cons.2 ⟨hr,allPs_nil⟩)) hx
theorem allP_any (hC:Closed P){l:List R}(h:AllPs P l):AllP P (any l):=by
 unfold any;have h1:AllPs P ((join 4 l S4.or).filter fun r => !(r.op==0)):=
  allPs_sub (allPs_joinGo (fun a b=>hC.or a b) (allPs_flat (by omega) h) allPs_nil (fun _ e=>by cases e)) fun r hr=>(List.mem_filter.1 hr).1
 unfold anyOf;split
 ·exact allP_nothing
 ·rename_i e;exact h1 _ (by rw[e];simp)
 ·rw[allP_mk];simpa using h1
theorem allP_both (hC:Closed P){l:List R}(h:AllPs P l):AllP P (both l):=by
 unfold both;have h1:AllPs P (join 6 l S4.and):=allPs_joinGo (fun a b=>hC.and a b) (allPs_flat (by omega) h) allPs_nil (fun _ e=>by cases e);unfold bothOf;split
 ·exact allP_nothing
 ·split
  ·exact allP_many (allP_one hC.all)
  ·rename_i e;exact h1 _ (by rw[e];simp)
  ·rw[allP_mk];simpa using h1
theorem allP_with (hC:Closed P){r:R}{ks:List R}(hr:AllP P r)(h:AllPs P ks):AllP P (withKids r ks):=by
 unfold withKids;split
 ·exact allP_cat h
 split
 ·exact allP_any hC h
 split
 ·exact allP_both hC h
 split
 ·split
  ·exact allP_many (h _ (by simp))
  ·exact hr
 split
 ·split
  ·exact allP_but hC (h _ (by simp)) (h _ (by simp))
  ·exact hr
 ·exact hr
theorem allPs_list2 {a b:R}(ha:AllP P a)(hb:AllP P b):AllPs P [a,b]:=allPs_cons.2 ⟨ha,allPs_cons.2 ⟨hb,allPs_nil⟩⟩
theorem allP_byF (hC:Closed P)(c:UInt8):∀(n:Nat) {r:R},AllP P r→AllP P (byF n c r)
 | 0,_,_=>allP_nothing
 | n+1,r,h=>by
   unfold byF;split
   ·split
    ·exact allP_empty
    ·exact allP_nothing
   rename_i e2;have hk:=allP_kids h e2;split
   ·split
    ·exact allP_nothing
    ·rename_i k rest e;rw[e]at hk;obtain⟨h1,h2⟩:=allPs_cons.1 hk;have hc:=allP_cat h2;have h3:AllP P (cat [byF n c k,cat rest]):=allP_cat (allPs_list2 (allP_byF hC c n h1) hc);split
     ·exact allP_any hC (allPs_list2 h3 (allP_byF hC c n hc))
     ·exact h3
   split
   ·split
    ·exact allP_nothing
    ·rename_i k rest e;rw[e]at hk;exact allP_cat (allPs_list2 (allP_byF hC c n (allPs_cons.1 hk).1) h)
   split
   ·exact allP_with hC h fun x hx=>by obtain⟨k,hk',rfl⟩:=List.mem_map.1 hx;exact allP_byF hC c n (hk k hk')
   ·exact allP_nothing
theorem allP_by (hC:Closed P)(c:UInt8){r:R}(h:AllP P r):AllP P (by_ c r):=allP_byF hC c _ h
theorem allP_reach (hC:Closed P){r x:R}(h:AllP P r)(hx:Reach r x):AllP P x:=by
 induction hx with
 | refl=>exact h
 | step c _ ih=>exact allP_by hC c ih
theorem closed_alike (b c:Nat):Closed fun s=>s.alike b c where
 all:=by unfold S4.alike;rw[S4.has_all,S4.has_all]
 or:=fun h k=>by unfold S4.alike at *;rw[S4.has_or,S4.has_or,h,k]
 and:=fun h k=>by unfold S4.alike at *;rw[S4.has_and,S4.has_and,h,k]
 minus:=fun h k=>by unfold S4.alike at *;rw[S4.has_minus,S4.has_minus,h,k]
theorem byF_alike {b c:UInt8}:∀(n:Nat) {r:R},AllP (fun s=>s.alike b.toNat c.toNat) r→byF n b r=byF n c r
 | 0,_,_=>rfl
 | n+1,r,h=>by
   have hC:=closed_alike b.toNat c.toNat;unfold byF;split
   ·rename_i e;rw[show r.set.has b.toNat=r.set.has c.toNat from allP_set h e]
   rename_i e2;have hk:=allP_kids h e2;split
   ·split
    ·rfl
    ·rename_i k rest e;rw[e]at hk;obtain⟨h1,h2⟩:=allPs_cons.1 hk;rw[byF_alike n h1,byF_alike n (allP_cat h2)]
   split
   ·split
    ·rfl
    ·rename_i k rest e;rw[e]at hk;rw[byF_alike n (allPs_cons.1 hk).1]
   split
   ·congr 1;exact List.map_congr_left fun k hk'=>byF_alike n (hk k hk')
   ·rfl
theorem by_alike {b c:UInt8}{r:R}(h:AllP (fun s=>s.alike b.toNat c.toNat) r):by_ b r=by_ c r:=byF_alike _ h
theorem by_head {r x:R}(hx:Reach r x)(b:UInt8):∃h:indexOf (refine (allSets r)) b.toNat<(refine (allSets r)).length,
  by_ b x=by_ (Dfa.head ((refine (allSets r))[indexOf (refine (allSets r)) b.toNat])) x:=by
 obtain⟨h1,h2⟩:=indexOf_spec (allSets r) b.toNat b.toNat_lt;refine⟨h1,by_alike (allP_reach (closed_alike _ _) ?_ hx)⟩;obtain⟨m,e1,e2,e3,_⟩:=least_spec ⟨b.toNat,b.toNat_lt,h2⟩;have:(Dfa.head (refine (allSets r))[indexOf (refine (allSets r)) b.toNat]).toNat=m:=by unfold Dfa.head;rw[e1];simp;omega
 rw[this];exact fun s hs=>refine_alike (List.getElem_mem h1) h2 e3 s hs
end Pv
namespace Pv
def S4.cnt (s:S4):Nat:=(List.range 256).countP fun b=>s.has b
theorem countP_split (p q:Nat→Bool):∀l:List Nat,l.countP (fun b=>p b&&q b)+l.countP (fun b=>p b && !q b)=l.countP p
 | []=>rfl
 | a::l=>by have:=countP_split p q l;simp only[List.countP_cons];cases p a<;>cases q a<;>simp<;>omega
theorem cnt_split (p s:S4):(p.and s).cnt+(p.minus s).cnt=p.cnt:=by
 unfold S4.cnt;rw[←countP_split (fun b=>p.has b) (fun b=>s.has b)];congr 1
 ·exact List.countP_congr fun b _=>by rw[S4.has_and]
 ·exact List.countP_congr fun b _=>by rw[S4.has_minus]
theorem S4.ext_has {s t:S4}(h:∀b,b<256→s.has b=t.has b):s=t:=by
 have hw:∀k,k<4→s.word k=t.word k:=fun k hk=>by ext i hi;have:=h (64*k+i) (by omega);unfold S4.has at this;rw[show(64*k+i) / 64=k by omega,show(64*k+i) % 64=i by omega]at this;simpa [BitVec.getLsbD_eq_getElem hi] using this
 have h0:=hw 0 (by omega);have h1:=hw 1 (by omega);have h2:=hw 2 (by omega);have h3:=hw 3 (by omega);cases s;cases t;simp[S4.word]at h0 h1 h2 h3;subst h0;subst h1;subst h2;subst h3;rfl
theorem cnt_pos {s:S4}(h:s.isEmpty=false):1≤s.cnt:=by
 have:∃b,b<256∧s.has b=true:=by
  refine Classical.byContradiction fun hn => ?_
  have:s=S4.zero:=S4.ext_has fun b hb=>by
   rw[S4.has_zero];cases hs:s.has b with
   | false=>rfl
   | true=>exact absurd ⟨b,hb,hs⟩ hn
  rw[S4.isEmpty,this]at h;simp at h
 obtain⟨b,hb,hs⟩:=this;unfold S4.cnt;exact List.countP_pos_iff.2 ⟨b,List.mem_range.2 hb,hs⟩
theorem cnt_zero {s:S4}(h:s.isEmpty=true):s.cnt=0:=by
 have:s=S4.zero:=by simpa [S4.isEmpty] using h
 subst this;unfold S4.cnt;rw[List.countP_eq_zero];intro b _;rw[S4.has_zero];simp
def cnts (l:List S4):Nat:=(l.map S4.cnt).sum
theorem cnts_append (l m:List S4):cnts (l++m)=cnts l+cnts m:=by simp[cnts]
theorem cnts_filter:∀l:List S4,cnts (l.filter fun q => !q.isEmpty)=cnts l
 | []=>rfl
 | q::l=>by
   rw[List.filter_cons];cases h:q.isEmpty
   ·simp only[Bool.not_false,if_true];show q.cnt+cnts _=q.cnt+cnts l;rw[cnts_filter l]
   ·simp only[Bool.not_true,Bool.false_eq_true,if_false];show cnts _=q.cnt+cnts l;rw[cnts_filter l,cnt_zero h];omega
theorem cnts_step (s:S4):∀parts:List S4,cnts (refineStep parts s)=cnts parts
 | []=>rfl
 | p::parts=>by unfold refineStep;rw[List.flatMap_cons,cnts_append,cnts_filter];have:=cnts_step s parts;unfold refineStep at this;rw[this];have:=cnt_split p s;simp[cnts];omega
def NoE (l:List S4):Prop:=∀p∈l,p.isEmpty=false
theorem noE_step {parts:List S4}{s:S4}:NoE (refineStep parts s):=fun p hp=>let ⟨_,_,_,h⟩:=refineStep_sub hp;h
theorem len_cnts:∀ {l:List S4},NoE l→l.length≤cnts l
 | [],_=>Nat.zero_le _
 | p::l,h=>by
   have h1:=cnt_pos (h p (by simp));have h2:=len_cnts (l:=l) fun q hq=>h q (by simp[hq])
   show l.length+1≤p.cnt+cnts l;omega
theorem cnts_fold:∀(l parts:List S4),cnts (l.foldl refineStep parts)=cnts parts
 | [],_=>rfl
 | s::l,parts=>by rw[List.foldl_cons,cnts_fold l,cnts_step]
theorem cnt_all:S4.all.cnt=256:=by decide +kernel
theorem noE_fold:∀(l parts:List S4),NoE parts→NoE (l.foldl refineStep parts)
 | [],_,h=>h
 | s::l,parts,_=>noE_fold l _ noE_step
theorem parts_len (l:List S4):(l.foldl refineStep [S4.all]).length≤256:=by
 have h1:=len_cnts (noE_fold l [S4.all] fun p hp=>by rw[List.mem_singleton.1 hp];decide +kernel);rw[cnts_fold]at h1;have:cnts [S4.all]=256:=by simp[cnts,cnt_all]
 omega
theorem step_take_len (parts:List S4)(s:S4)(j:Nat):(refineStep (parts.take j) s).length≤(refineStep parts s).length:=by
 unfold refineStep;conv=>rhs;rw[←List.take_append_drop j parts,List.flatMap_append,List.length_append]
 omega
end Pv
namespace Pv
def WFl (l:List R):Prop:=∀r∈l,WF r
theorem wf_mk {op:Nat}{s:S4}{ks:List R}:WF (.mk op s ks)↔op≤7∧(op≠2→s=S4.zero)∧(op=3∨op=5→ks≠[])∧WFl ks:=by unfold WF;rw[WFs_iff];rfl
theorem wf_kids {r:R}(h:WF r):WFl r.kids:=by
 cases r with
 | mk op s ks=>rw[wf_mk]at h;exact h.2.2.2
theorem wfl_cons {r:R}{l:List R}:WFl (r::l)↔WF r∧WFl l:=by unfold WFl;simp
theorem wfl_nil:WFl []:=fun _ h=>by cases h
theorem wfl_append {l m:List R}(h:WFl l)(k:WFl m):WFl (l++m):=fun r hr=>by
 rcases List.mem_append.1 hr with hr|hr
 ·exact h r hr
 ·exact k r hr
theorem wfl_sub {l m:List R}(h:WFl l)(k:∀r∈m,r∈l):WFl m:=fun r hr=>h r (k r hr)
theorem wfl2 {a b:R}(ha:WF a)(hb:WF b):WFl [a,b]:=wfl_cons.2 ⟨ha,wfl_cons.2 ⟨hb,wfl_nil⟩⟩
theorem wf_nothing:WF nothing:=by unfold nothing;rw[wf_mk];exact⟨by omega,fun _=>rfl,by omega,wfl_nil⟩
theorem wf_empty:WF empty:=by unfold empty;rw[wf_mk];exact⟨by omega,fun _=>rfl,by omega,wfl_nil⟩
theorem wf_one (s:S4):WF (one s):=by
 unfold one;split
 ·exact wf_nothing
 ·rw[wf_mk];exact⟨by omega,by omega,by omega,wfl_nil⟩
theorem wfl_flat {op:Nat}{l:List R}(h:WFl l):WFl (flat op l):=by
 intro r hr;unfold flat at hr;obtain⟨x,hx,hr⟩:=List.mem_flatMap.1 hr;split at hr
 ·exact wf_kids (h x hx) r hr
 ·rw[List.mem_singleton.1 hr];exact h x hx
theorem wf_thenOf {l:List R}(h:WFl l):WF (thenOf l):=by
 unfold thenOf;split
 ·exact wf_nothing
 ·split
  ·exact wf_empty
  ·exact h _ (by simp)
  ·rename_i h0 _;rw[wf_mk];exact⟨by omega,fun _=>rfl,fun _ e=>h0 e,h⟩
theorem wf_cat {l:List R}(h:WFl l):WF (cat l):=by unfold cat;exact wf_thenOf (wfl_sub (wfl_flat h) fun r hr=>(List.mem_filter.1 hr).1)
theorem wf_word (l:List UInt8):WF (word l):=wf_cat fun r hr=>by obtain⟨b,_,rfl⟩:=List.mem_map.1 hr;exact wf_one _
theorem wf_many {r:R}(h:WF r):WF (many r):=by
 unfold many;split
 ·exact wf_empty
 ·split
  ·exact h
  ·rw[wf_mk];exact⟨by omega,fun _=>rfl,fun _=>by simp,wfl_cons.2 ⟨h,wfl_nil⟩⟩
theorem wf_but {a b:R}(ha:WF a)(hb:WF b):WF (but a b):=by
 unfold but;split
 ·exact wf_nothing
 ·split
  ·exact ha
  ·split
   ·exact wf_one _
   ·rw[wf_mk];exact⟨by omega,fun _=>rfl,by omega,wfl2 ha hb⟩
theorem wfl_joinGo {f:S4→S4→S4}:∀ {l out:List R} {o:Option R},WFl l→WFl out→(∀x,o=some x→WF x)→WFl (joinGo f l out o)
 | [],out,o,_,ho,hx=>by
   unfold joinGo;refine wfl_sub (wfl_append ho (m:=o.toList) fun r hr => ?_) fun r hr=>mem_unique hr
   cases o with
   | none=>cases hr
   | some x=>simp at hr;subst hr;exact hx _ rfl
 | r::l,out,o,hl,ho,hx=>by
   obtain⟨hr,hl⟩:=wfl_cons.1 hl;unfold joinGo;split
   ·cases o with
    | none=>exact wfl_joinGo hl ho fun x e=>by cases e;exact hr
    | some x=>
      simp only;split
      ·exact wfl_append ho (wfl_cons.2 ⟨wf_one _,wfl_nil⟩)
      ·exact wfl_joinGo hl ho fun y e=>by cases e;exact wf_one _
   ·exact wfl_joinGo hl (wfl_append ho (wfl_cons.2 ⟨hr,wfl_nil⟩)) hx
theorem wf_any {l:List R}(h:WFl l):WF (any l):=by
 unfold any;have h1:WFl ((join 4 l S4.or).filter fun r => !(r.op==0)):=
  wfl_sub (wfl_joinGo (wfl_flat h) wfl_nil (fun _ e=>by cases e)) fun r hr=>(List.mem_filter.1 hr).1
 unfold anyOf;split
 ·exact wf_nothing
 ·rename_i e;exact h1 _ (by rw[e];simp)
 ·rw[wf_mk];exact⟨by omega,fun _=>rfl,by omega,h1⟩
theorem wf_both {l:List R}(h:WFl l):WF (both l):=by
 unfold both;have h1:WFl (join 6 l S4.and):=wfl_joinGo (wfl_flat h) wfl_nil (fun _ e=>by cases e);unfold bothOf;split
 ·exact wf_nothing
 ·split
  ·exact wf_many (wf_one _)
  ·rename_i e;exact h1 _ (by rw[e];simp)
  ·rw[wf_mk];exact⟨by omega,fun _=>rfl,by omega,h1⟩
theorem wf_with {r:R}{ks:List R}(hr:WF r)(h:WFl ks):WF (withKids r ks):=by
 unfold withKids;split
 ·exact wf_cat h
 split
 ·exact wf_any h
 split
 ·exact wf_both h
 split
 ·split
  ·exact wf_many (h _ (by simp))
  ·exact hr
 split
 ·split
  ·exact wf_but (h _ (by simp)) (h _ (by simp))
  ·exact hr
 ·exact hr
theorem wf_byF (c:UInt8):∀(n:Nat) {r:R},WF r→WF (byF n c r)
 | 0,_,_=>wf_nothing
 | n+1,r,h=>by
   have hk:=wf_kids h;unfold byF;split
   ·split
    ·exact wf_empty
    ·exact wf_nothing
   split
   ·split
    ·exact wf_nothing
    ·rename_i k rest e;rw[e]at hk;obtain⟨h1,h2⟩:=wfl_cons.1 hk;have hc:=wf_cat h2;have h3:WF (cat [byF n c k,cat rest]):=wf_cat (wfl2 (wf_byF c n h1) hc);split
     ·exact wf_any (wfl2 h3 (wf_byF c n hc))
     ·exact h3
   split
   ·split
    ·exact wf_nothing
    ·rename_i k rest e;rw[e]at hk;exact wf_cat (wfl2 (wf_byF c n (wfl_cons.1 hk).1) h)
   split
   ·exact wf_with h fun x hx=>by obtain⟨k,hk',rfl⟩:=List.mem_map.1 hx;exact wf_byF c n (hk k hk')
   ·exact wf_nothing
theorem wf_by (c:UInt8){r:R}(h:WF r):WF (by_ c r):=wf_byF c _ h
theorem wf_reach {r x:R}(h:WF r)(hx:Reach r x):WF x:=by
 induction hx with
 | refl=>exact h
 | step c _ ih=>exact wf_by c ih
def bys (r:R)(s:List UInt8):R:=s.foldl (fun x b=>by_ b x) r
theorem bys_cons (r:R)(b:UInt8)(s:List UInt8):bys r (b::s)=bys (by_ b r) s:=rfl
theorem bys_append (r:R)(s t:List UInt8):bys r (s++t)=bys (bys r s) t:=List.foldl_append
theorem reach_bys {r x:R}(hx:Reach r x):∀s:List UInt8,Reach r (bys x s)
 | []=>hx
 | b::s=>reach_bys (.step b hx) s
theorem byF_none (c:UInt8):∀(n:Nat) {r:R},r.op=0→byF n c r=nothing
 | 0,_,_=>rfl
 | n+1,r,h=>by unfold byF;rw[if_neg (by omega),if_neg (by omega),if_neg (by omega),if_neg (by omega)]
theorem bys_none {r:R}(h:r.op=0):∀s:List UInt8,(bys r s).op=0
 | []=>h
 | b::s=>by have e:by_ b r=nothing:=byF_none b _ h;rw[bys_cons,e];exact bys_none rfl s
theorem null_none {r:R}(h:r.op=0):null r=false:=by
 cases r with
 | mk op s ks=>
   simp only[R.op]at h;subst h;unfold null nullOf;simp
theorem matchR_bys:∀(s:List UInt8) (r:R),matchR s r=null (bys r s)
 | [],r=>by unfold matchR;rfl
 | b::s,r=>by
   unfold matchR;simp only;split
   ·rename_i h;rw[bys_cons,null_none (bys_none h s)]
   ·rw[matchR_bys s,bys_cons]
theorem GoOk.step {r:R}{D:Dfa}{all:List R}(hp:D.parts=refine (allSets r))(hG:GoOk r D.heads all.length all D.next)(hw:WF r){q:Nat}(hq:q<all.length)(b:UInt8):
  ∃h:D.step q b.toNat<all.length,all[D.step q b.toNat]=by_ b all[q]:=by
 have hqn:q<D.next.length:=by rw[hG.len];exact hq
 have hR:=hG.row q hqn hq;have hreach:=hG.reach all[q] (List.getElem_mem hq);obtain⟨hi,he⟩:=by_head hreach b;have hat:D.at_ b.toNat=indexOf (refine (allSets r)) b.toNat:=by unfold Dfa.at_;rw[hp]
 have hheads:D.heads=(refine (allSets r)).map Dfa.head:=by unfold Dfa.heads;rw[hp]
 have hil:D.at_ b.toNat<D.heads.length:=by rw[hheads,List.length_map,hat];exact hi
 have hir:D.at_ b.toNat<(D.next[q]).length:=by rw[hR.1];exact hil
 have hst:D.step q b.toNat=D.next[q][D.at_ b.toNat]:=by
  unfold Dfa.step;have e1:D.next.getD q []=D.next[q]:=by rw[List.getD_eq_getElem?_getD,List.getElem?_eq_getElem hqn];rfl
  rw[e1,List.getD_eq_getElem?_getD,List.getElem?_eq_getElem hir];rfl
 obtain⟨h1,h2⟩:=hR.2 _ hir hil;have h3:D.heads[D.at_ b.toNat]=Dfa.head ((refine (allSets r))[indexOf (refine (allSets r)) b.toNat]):=by simp only[hheads,hat,List.getElem_map]
 rw[h3,←he]at h2;simp only[hst];exact⟨h1,key_inj (wf_reach hw (hG.reach _ (List.getElem_mem _))) (wf_by b (wf_reach hw hreach)) h2⟩
theorem GoOk.run {r:R}{D:Dfa}{all:List R}(hp:D.parts=refine (allSets r))(hG:GoOk r D.heads all.length all D.next)(hw:WF r):∀(s:List UInt8) {q:Nat} (hq:q<all.length),
  ∃h:D.run q s<all.length,all[D.run q s]=bys all[q] s
 | [],q,hq=>⟨hq,rfl⟩
 | b::s,q,hq=>by obtain⟨h1,h2⟩:=GoOk.step hp hG hw hq b;obtain⟨h3,h4⟩:=GoOk.run hp hG hw s h1;exact⟨h3,by rw[bys_cons,←h2];exact h4⟩
theorem build_accepts {r:R}{l l':Nat}{D:Dfa}(h:build r l=(l',some D))(hw:WF r)(s:List UInt8):D.accepts s=matchR s r:=by
 obtain⟨all,hp,hy,hG,_⟩:=build_spec h;obtain⟨t,ht⟩:=hG.first;obtain⟨h1,h2⟩:=GoOk.run hp hG hw s (q:=0) (by rw[ht];simp);have h0:all[0]'(by rw[ht];simp)=r:=by simp[ht]
 rw[matchR_bys,←h0,←h2];unfold Dfa.accepts Dfa.isYes;rw[hy,List.getD_eq_getElem?_getD,List.getElem?_map,List.getElem?_eq_getElem h1];rfl
theorem build_small {r:R}{l l':Nat}{D:Dfa}(h:build r l=(l',some D))(hw:WF r)(s:List UInt8):size (bys r s)≤most:=by
 obtain⟨all,hp,hy,hG,_⟩:=build_spec h;obtain⟨t,ht⟩:=hG.first;obtain⟨h1,h2⟩:=GoOk.run hp hG hw s (q:=0) (by rw[ht];simp);have h0:all[0]'(by rw[ht];simp)=r:=by simp[ht]
 rw[←h0,←h2];exact hG.st.size _ (List.getElem_mem _)
end Pv
namespace Pv
theorem Dfa.run_snoc (D:Dfa)(q:Nat)(s:List UInt8)(b:UInt8):D.run q (s++[b])=D.step (D.run q s) b.toNat:=by unfold Dfa.run;rw[List.foldl_append];rfl
def Good (A B:Dfa)(l:Trail):Prop:=∀(i:Nat) (x:Spot) (s:Step),l[i]?=some (x,s)→(s.from_ = -1∧x=⟨0,0,0,false⟩) ∨
 ∃(j:Nat) (y:Spot) (t:Step),s.from_=(j:Int)∧j<i∧l[j]?=some (y,t)∧((s.free=true∧freeOf A y=some x)∨(s.free=false∧byOf A B y s.by_=some x))
theorem Good.start (A B:Dfa):Good A B [(⟨0,0,0,false⟩,⟨-1,0,false⟩)]:=fun i x s h=>by
 cases i with
 | zero=>simp at h;obtain⟨rfl,rfl⟩:=h;exact .inl ⟨rfl,rfl⟩
 | succ i=>simp at h
theorem addSpot_spec {x:Spot}{s:Step}{l l':Trail}{n n':Nat}(h:addSpot x s l n=some (l',n')):(l'=l∧n'=n)∨(l'=l++[(x,s)]∧n'+1=n):=by
 unfold addSpot at h;split at h
 ·cases h;exact .inl ⟨rfl,rfl⟩
 ·split at h
  ·cases h
  ·cases h;exact .inr ⟨rfl,by omega⟩
theorem Good.add {A B:Dfa}{l l':Trail}(hG:Good A B l){j:Nat}{y:Spot}{t:Step}(hj:l[j]?=some (y,t)){x:Spot}{b:UInt8}{fr:Bool}
  (hx:(fr=true∧freeOf A y=some x)∨(fr=false∧byOf A B y b=some x)) {n n':Nat} (h:addSpot x ⟨j,b,fr⟩ l n=some (l',n')):Good A B l':=by
 rcases addSpot_spec h with⟨rfl,_⟩|⟨rfl,_⟩
 ·exact hG
 ·intro i z s hi;have hjl:=(List.getElem?_eq_some_iff.1 hj).1;by_cases e:i<l.length
  ·rw[List.getElem?_append_left e]at hi;rcases hG i z s hi with h|⟨j',y',t',h1,h2,h3,h4⟩
   ·exact .inl h
   ·exact .inr ⟨j',y',t',h1,h2,by rw[List.getElem?_append_left (by omega)];exact h3,h4⟩
  ·rw[List.getElem?_append_right (by omega)]at hi;have e0:i-l.length=0:=by
    cases hk:i-l.length with
    | zero=>rfl
    | succ k=>rw[hk]at hi;simp at hi
   rw[e0]at hi;simp at hi;obtain⟨rfl,rfl⟩:=hi;exact .inr ⟨j,y,t,rfl,by omega,by rw[List.getElem?_append_left hjl];exact hj,hx⟩
theorem catFree_good {A B:Dfa}:∀ {f i:Nat} {l l':Trail} {n n':Nat},catFree A f i l n=(n',some l')→Good A B l→Good A B l'∧(∃m,l'=l++m)∧l'.length+n'=l.length+n
 | 0,_,_,_,_,_,h,_=>by cases h
 | f+1,i,l,l',n,n',h,hG=>by
   unfold catFree at h;split at h
   ·cases h;exact⟨hG,⟨[],by simp⟩,rfl⟩
   ·rename_i x s hx;split at h
    ·exact catFree_good h hG
    ·rename_i y hy;split at h
     ·cases h
     ·rename_i l1 n1 ha;obtain⟨h1,⟨m,h2⟩,h3⟩:=catFree_good h (hG.add hx (.inl ⟨rfl,hy⟩) ha);rcases addSpot_spec ha with⟨rfl,rfl⟩|⟨rfl,e⟩
      ·exact⟨h1,⟨m,h2⟩,h3⟩
      ·exact⟨h1,⟨_,by rw[h2,List.append_assoc]⟩,by simp at h3;omega⟩
theorem catBytes_good {A B:Dfa}{i:Nat}{x:Spot}{s:Step}:∀ {hs:List UInt8} {l l':Trail} {n n':Nat},catBytes A B i x hs l n=(n',some l')→l[i]?=some (x,s)→Good A B l→Good A B l'∧(∃m,l'=l++m)∧l'.length+n'=l.length+n
 | [],l,l',n,n',h,_,hG=>by unfold catBytes at h;cases h;exact⟨hG,⟨[],by simp⟩,rfl⟩
 | b::hs,l,l',n,n',h,hx,hG=>by
   unfold catBytes at h;split at h
   ·exact catBytes_good h hx hG
   ·rename_i y hy;split at h
    ·cases h
    ·rename_i l1 n1 ha;rcases addSpot_spec ha with⟨rfl,rfl⟩|⟨rfl,e⟩
     ·exact catBytes_good h hx hG
     ·have hg:=hG.add hx (.inr ⟨rfl,hy⟩) ha;have hil:=(List.getElem?_eq_some_iff.1 hx).1;obtain⟨h1,⟨m,h2⟩,h3⟩:=catBytes_good h (by rw[List.getElem?_append_left hil];exact hx) hg;exact⟨h1,⟨_,by rw[h2,List.append_assoc]⟩,by simp at h3;omega⟩
theorem catMore_good {A B:Dfa}{heads:List UInt8}:∀ {k i:Nat} {l l':Trail} {n n':Nat},catMore A B heads k i l n=(n',some l')→Good A B l→Good A B l'∧(∃m,l'=l++m)∧l'.length+n'=l.length+n
 | 0,_,_,_,_,_,h,hG=>by unfold catMore at h;cases h;exact⟨hG,⟨[],by simp⟩,rfl⟩
 | k+1,i,l,l',n,n',h,hG=>by
   unfold catMore at h;split at h
   ·cases h;exact⟨hG,⟨[],by simp⟩,rfl⟩
   ·rename_i x s hx;split at h
    ·cases h
    ·rename_i n1 l1 hb;obtain⟨h1,⟨m1,h2⟩,h3⟩:=catBytes_good hb hx hG;obtain⟨h4,⟨m2,h5⟩,h6⟩:=catMore_good h h1;exact⟨h4,⟨m1++m2,by rw[h5,h2,List.append_assoc]⟩,by omega⟩
inductive Tells (A B:Dfa)(x:Spot):List UInt8→List Nat→Prop where
 | ahead (u:List UInt8):x.phase=0→x.p=A.run 0 u→x.q=0→Tells A B x u []
 | between (u v:List UInt8):x.phase=1→A.isYes (A.run 0 u)=true→x.p=A.run 0 (u++v)→x.q=B.run 0 v→(x.moved=true→v≠[])→Tells A B x (u++v) [v.length]
 | behind (u v z:List UInt8):x.phase=2→A.isYes (A.run 0 u)=true→A.isYes (A.run 0 (u++v))=true→v≠[]→x.p=B.run 0 (v++z)→x.q=B.run 0 z →
  Tells A B x (u++(v++z)) [z.length,(v++z).length]
theorem twoGo_tells {A B:Dfa}{l:Trail}(hG:Good A B l):∀(i:Nat) (x:Spot) (s:Step),l[i]?=some (x,s)→∀(f:Nat),i<f→∃u ps,Tells A B x u ps ∧
  ∀out places,twoGo l f i out places=(out++u.reverse,places++ps.map (out.length + ·)):=by
 intro i;induction i using Nat.strongRecOn with
 | _ i ih=>
   intro x s hx f hf;obtain⟨f,rfl⟩:∃g,f=g+1:=⟨f-1,by omega⟩
   rcases hG i x s hx with⟨h1,rfl⟩|⟨j,y,t,h1,h2,h3,h4⟩
   ·refine ⟨[],[],.ahead [] rfl rfl rfl,fun out places => ?_⟩;unfold twoGo;simp only[hx,h1];simp
   ·obtain⟨u,ps,hT,hE⟩:=ih j h2 y t h3 f (by omega);have hneg:¬(s.from_<0):=by omega
    have hto:s.from_.toNat=j:=by omega
    rcases h4 with⟨hfr,hy⟩|⟨hfr,hy⟩
    ·have hgo:∀out places,twoGo l (f+1) i out places=twoGo l f j out (places++[out.length]):=fun out places=>by
      conv=>lhs;unfold twoGo
      simp only[hx,hneg,if_false,hfr,if_true,hto]
     unfold freeOf at hy;split at hy
     ·rename_i e;cases hy;cases hT with
      | ahead u e1 e2 e3=>
        refine⟨u++[],[0],.between u [] rfl (by rw[←e2];exact e.2) (by simpa using e2) rfl (fun h=>by cases h),fun out places => ?_⟩;rw[hgo,hE];simp
      | between u v e1=>omega
      | behind u v z e1=>omega
     ·split at hy
      ·rename_i e;cases hy;cases hT with
       | ahead u e1=>omega
       | between u v e1 e2 e3 e4 e5=>
         refine⟨u++(v++[]),[0,v.length],(by simpa using Tells.behind (A:=A) (B:=B) (x:=⟨2,y.q,0,false⟩) u v [] rfl e2 (by rw[←e3];exact e.2.2) (e5 e.2.1) (by simpa using e4) rfl),fun out places => ?_⟩;rw[hgo,hE];simp
       | behind u v z e1=>omega
      ·cases hy
    ·have hgo:∀out places,twoGo l (f+1) i out places=twoGo l f j (out++[s.by_]) places:=fun out places=>by
      conv=>lhs;unfold twoGo
      simp only[hx,hneg,if_false,hfr,hto];simp
     unfold byOf at hy;simp only at hy;split at hy
     ·rename_i e;split at hy
      ·cases hy;cases hT with
       | ahead u e1 e2 e3=>
         refine⟨u++[s.by_],[],.ahead _ rfl (by rw[Dfa.run_snoc,←e2]) rfl,fun out places => ?_⟩;rw[hgo,hE];simp
       | between u v e1=>omega
       | behind u v z e1=>omega
      ·cases hy
     ·rename_i e0;split at hy
      ·rename_i e;split at hy
       ·cases hy;cases hT with
        | ahead u e1=>omega
        | between u v e1 e2 e3 e4 e5=>
          refine⟨u++(v++[s.by_]),[(v++[s.by_]).length],.between u _ rfl e2 (by rw[←List.append_assoc,Dfa.run_snoc,←e3]) (by rw[Dfa.run_snoc,←e4]) (fun _=>by simp),fun out places => ?_⟩;rw[hgo,hE];simp;omega
        | behind u v z e1=>omega
       ·cases hy
      ·split at hy
       ·cases hy;cases hT with
        | ahead u e1=>omega
        | between u v e1=>omega
        | behind u v z e1 e2 e3 e4 e5 e6=>
          refine⟨u++(v++(z++[s.by_])),[(z++[s.by_]).length,(v++(z++[s.by_])).length],.behind u v _ rfl e2 e3 e4 (by rw[←List.append_assoc,Dfa.run_snoc,←e5]) (by rw[Dfa.run_snoc,←e6]),fun out places => ?_⟩;rw[hgo,hE];simp;omega
       ·cases hy
end Pv
namespace Pv
theorem nodup_lt:∀(n:Nat) (l:List Nat),l.Nodup→(∀x∈l,x<n)→l.length≤n
 | 0,l,_,h=>by
   cases l with
   | nil=>simp
   | cons x l=>have:=h x (by simp);omega
 | n+1,l,hn,h=>by
   have h1:=nodup_lt n (l.erase n) (hn.erase n) (fun x hx=>by
    have hx1:=List.mem_of_mem_erase hx;have:=h x hx1;have hne:x≠n:=fun e=>by subst e;exact absurd hx (hn.not_mem_erase)
    omega)
   by_cases hm:n∈l
   ·have:=List.length_erase_of_mem hm;omega
   ·rw[List.erase_of_not_mem hm]at h1;omega
structure CameOk (D:Dfa)(c:Came):Prop where
 first:c[0]?=some (0,-1,0)
 lt:∀x∈c,x.1<D.yes.length
 nd:(c.map (·.1)).Nodup
 pre:∀i x,c[i+1]?=some x→∃j y,j≤i∧c[j]?=some y∧x.2.1=(y.1:Int)
theorem CameOk.start {D:Dfa}(hD:D.Ok):CameOk D [(0,-1,0)]:=
 ⟨rfl,fun x hx=>by rw[List.mem_singleton.1 hx];exact hD.pos,by simp,fun i x h=>by simp at h⟩
theorem CameOk.len {D:Dfa}{c:Came}(h:CameOk D c):c.length≤D.yes.length:=by
 have:=nodup_lt D.yes.length (c.map (·.1)) h.nd (fun x hx=>by obtain⟨y,hy,rfl⟩:=List.mem_map.1 hx;exact h.lt y hy)
 simpa using this
theorem CameOk.add {D:Dfa}{c:Came}(h:CameOk D c){i:Nat}{x:Nat × Int × UInt8}(hi:c[i]?=some x){to:Nat}(hto:to<D.yes.length)(b:UInt8)(hn:¬c.any (fun y=>y.1==to)=true):CameOk D (c++[(to,(x.1:Int),b)]):=by
 have hi':=(List.getElem?_eq_some_iff.1 hi).1;refine⟨?_,?_,?_,?_⟩
 ·rw[List.getElem?_append_left (by omega)];exact h.first
 ·intro y hy;rcases List.mem_append.1 hy with hy|hy
  ·exact h.lt y hy
  ·rw[List.mem_singleton.1 hy];exact hto
 ·rw[List.map_append,List.nodup_append];refine⟨h.nd,by simp,?_⟩;intro a ha b' hb e;simp at hb;subst hb;subst e;obtain⟨y,hy,e⟩:=List.mem_map.1 ha;exact hn (List.any_eq_true.2 ⟨y,hy,by simp[e]⟩)
 ·intro k y hk;by_cases hkl:k+1<c.length
  ·rw[List.getElem?_append_left hkl]at hk;obtain⟨j,z,h1,h2,h3⟩:=h.pre k y hk;exact⟨j,z,h1,by rw[List.getElem?_append_left (by omega)];exact h2,h3⟩
  ·rw[List.getElem?_append_right (by omega)]at hk;obtain⟨e1,e2⟩:=List.getElem?_eq_some_iff.1 hk;simp at e1;have e3:k+1=c.length:=by omega
   have:y=(to,(x.1:Int),b):=by
    have h0:k+1-c.length=0:=by omega
    rw[h0]at hk;simpa using hk.symm
   subst this;exact⟨i,x,by omega,by rw[List.getElem?_append_left hi'];exact hi,rfl⟩
theorem cameOf_at {c:Came}:(c.map (·.1)).Nodup→∀ {i:Nat} {x:Nat × Int × UInt8},c[i]?=some x→cameOf c x.1=x.2:=by
 intro hn i x hi;unfold cameOf;have:c.find? (fun y=>y.1==x.1)=some x:=by
  induction c generalizing i with
  | nil=>simp at hi
  | cons y c ih=>
    rw[List.find?_cons];cases i with
    | zero=>simp at hi;subst hi;simp
    | succ i=>
      simp only[List.map_cons,List.nodup_cons]at hn;have hx:x∈c:=List.mem_of_getElem? (by simpa using hi);have hne:(y.1==x.1)=false:=by simp only[beq_eq_false_iff_ne];intro e;exact hn.1 (by rw[e];exact List.mem_map_of_mem hx)
      rw[hne];exact ih hn.2 (by simpa using hi)
 rw[this]
theorem textTo_zero {c:Came}{f:Nat}{out:List UInt8}:textTo c (f+1) 0 out=out:=by simp[textTo]
theorem textTo_step {c:Came}{f q:Nat}{out:List UInt8}(hq:q≠0):textTo c (f+1) q out=textTo c f (cameOf c q).1.toNat ((cameOf c q).2::out):=by rw[textTo,if_neg hq]
theorem nodup_idx {c:Came}(hn:(c.map (·.1)).Nodup){i j:Nat}{x y:Nat × Int × UInt8}(hi:c[i]?=some x)(hj:c[j]?=some y)(e:x.1=y.1):i=j:=by
 have h1:(c.map (·.1))[i]?=some x.1:=by rw[List.getElem?_map,hi];rfl
 have h2:(c.map (·.1))[j]?=some y.1:=by rw[List.getElem?_map,hj];rfl
 have hil:=(List.getElem?_eq_some_iff.1 h1).1;rw[e]at h1;exact(List.getElem?_inj hil hn).1 (h1.trans h2.symm)
theorem shortStep_new {D:Dfa}{q:Nat}{c:Came}{h:UInt8}(hn:c.any (fun x=>x.1==D.step q h.toNat)=false):shortStep D q c h=c++[(D.step q h.toNat,(q:Int),h)]:=by unfold shortStep;simp[hn]
theorem shortStep_old {D:Dfa}{q:Nat}{c:Came}{h:UInt8}(hn:c.any (fun x=>x.1==D.step q h.toNat)=true):shortStep D q c h=c:=by unfold shortStep;simp[hn]
theorem shortGo_yes {D:Dfa}{f i:Nat}{c:Came}{x:Nat × Int × UInt8}(hi:c[i]?=some x)(hy:D.isYes x.1=true):shortGo D (f+1) i c=some (textTo c (D.yes.length+1) x.1 []):=by rw[shortGo,hi];simp[hy]
theorem shortGo_no {D:Dfa}{f i:Nat}{c:Came}{x:Nat × Int × UInt8}(hi:c[i]?=some x)(hy:D.isYes x.1=false):shortGo D (f+1) i c=shortGo D f (i+1) (D.heads.foldl (shortStep D x.1) c):=by rw[shortGo,hi];simp[hy]
theorem shortGo_end {D:Dfa}{f i:Nat}{c:Came}(hi:c.length≤i):shortGo D f i c=none:=by
 cases f with
 | zero=>rfl
 | succ f=>rw[shortGo,List.getElem?_eq_none hi]
end Pv
