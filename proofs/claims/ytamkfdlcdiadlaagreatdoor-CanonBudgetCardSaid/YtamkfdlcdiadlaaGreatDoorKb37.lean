/- Plain: the expressions of law 17 tell few bytes apart; sizes of types. -/
import Derived.Test.YtamkfdlcdiadlaaGreatDoorKb02
import Derived.Test.YtamkfdlcdiadlaaGreatDoorKb03
import Derived.Test.YtamkfdlcdiadlaaGreatDoorKb04
import Derived.Test.YtamkfdlcdiadlaaGreatDoorKb11
set_option linter.all false
namespace Pv
def rep (b:Nat):Nat:=if b=59∨b=97∨b=98∨b=99 then b else 0
def Fr (s:S4):Prop:=∀b,b<256→s.has b=s.has (rep b)
theorem fr_closed:Closed Fr where
 all:=fun b _=>by rw[S4.has_all,S4.has_all]
 or:=fun hs ht b hb=>by rw[S4.has_or,S4.has_or,hs b hb,ht b hb]
 and:=fun hs ht b hb=>by rw[S4.has_and,S4.has_and,hs b hb,ht b hb]
 minus:=fun hs ht b hb=>by rw[S4.has_minus,S4.has_minus,hs b hb,ht b hb]
def frB (s:S4):Bool:=(List.range 256).all fun b=>s.has b==s.has (rep b)
theorem frB_fr {s:S4}(h:frB s=true):Fr s:=fun b hb=>by unfold frB at h;have:=List.all_eq_true.1 h b (List.mem_range.2 hb);simpa using this
theorem fr_exL:∀r∈exL,AllP Fr r:=fun r hr s hs=>by
 have h:(exL.all fun r=>(allSets r).all frB)=true:=by decide +kernel
 exact frB_fr (List.all_eq_true.1 (List.all_eq_true.1 h r hr) s hs)
theorem fr_txL:∀t∈txL,AllP Fr (word t):=fun t ht s hs=>by
 have h:(txL.all fun t=>(allSets (word t)).all frB)=true:=by decide +kernel
 exact frB_fr (List.all_eq_true.1 (List.all_eq_true.1 h t ht) s hs)
def lacks (s:S4):Nat:=[0,59,97,98,99].countP fun b => !s.has b
theorem lacks_or {s p:S4}(b:Nat)(hs:s.has (rep b)=false)(hp:p.has (rep b)=true):lacks (s.or p)+1≤lacks s:=by
 have h0:∀c:Nat,(if(!(s.or p).has c)=true then 1 else 0)≤(if(!s.has c)=true then 1 else 0):=fun c=>by rw[S4.has_or];cases s.has c<;>cases p.has c<;>simp
 have h1:(if(!(s.or p).has (rep b))=true then 1 else 0)+1≤(if(!s.has (rep b))=true then 1 else 0):=by rw[S4.has_or,hs,hp];simp
 have a0:=h0 0;have a1:=h0 59;have a2:=h0 97;have a3:=h0 98;have a4:=h0 99;unfold lacks;simp only[List.countP_cons,List.countP_nil];have hr:rep b=0∨rep b=59∨rep b=97∨rep b=98∨rep b=99:=by unfold rep;split<;>omega
 rcases hr with e|e|e|e|e<;>rw[e]at h1<;>omega
theorem sortedGo_few {parts:List S4}(hP:∀p∈parts,Fr p):∀(n b:Nat) (out:List S4) (seen:S4),Fr seen→b+n≤256→(sortedGo parts n b out seen).length≤out.length+lacks seen
 | 0,b,out,seen,_,_=>by unfold sortedGo;omega
 | n+1,b,out,seen,hs,hb=>by
   unfold sortedGo;split
   ·exact sortedGo_few hP n (b+1) out seen hs (by omega)
   ·rename_i hsb;split
    ·rename_i p hp;have hpm:=List.mem_of_find?_eq_some hp;have hpb:p.has b=true:=by simpa using List.find?_some hp
     have hf:=hP p hpm;have:=sortedGo_few hP n (b+1) (out++[p]) (seen.or p) (fr_closed.or hs hf) (by omega);have hl:=lacks_or (s:=seen) (p:=p) b (by rw[←hs b (by omega)];simpa using hsb) (by rw[←hf b (by omega)];exact hpb);rw[List.length_append,List.length_singleton]at this;omega
    ·exact sortedGo_few hP n (b+1) out seen hs (by omega)
theorem fr_step {parts:List S4}{s:S4}(hP:∀p∈parts,Fr p)(hs:Fr s):∀p∈refineStep parts s,Fr p:=fun p hp=>by
 obtain⟨p0,h0,h|h,_⟩:=refineStep_sub hp
 ·rw[h];exact fr_closed.and (hP p0 h0) hs
 ·rw[h];exact fr_closed.minus (hP p0 h0) hs
theorem fr_fold:∀(l parts:List S4),(∀s∈l,Fr s)→(∀p∈parts,Fr p)→∀p∈l.foldl refineStep parts,Fr p
 | [],_,_,h=>h
 | s::l,parts,hl,h=>fr_fold l _ (fun x hx=>hl x (by simp[hx])) (fr_step h (hl s (by simp)))
theorem refine_few {l:List S4}(h:∀s∈l,Fr s):(refine l).length≤5:=by
 unfold refine sortedParts;have h1:=sortedGo_few (fr_fold l [S4.all] h (fun p hp=>by rw[List.mem_singleton.1 hp];exact fr_closed.all)) 256 0 [] S4.zero (fun b _=>by rw[S4.has_zero,S4.has_zero]) (by omega);have h2:lacks S4.zero=5:=by decide +kernel
 rw[h2]at h1;simpa using h1
theorem size_exL:∀r∈exL,size r≤10:=fun r hr=>by
 have h:(exL.all fun r=>decide (size r≤10))=true:=by decide +kernel
 simpa using List.all_eq_true.1 h r hr
theorem size_txL:∀t∈txL,size (word t)≤10:=fun t ht=>by
 have h:(txL.all fun t=>decide (size (word t)≤10))=true:=by decide +kernel
 simpa using List.all_eq_true.1 h t ht
theorem len_txL:∀t∈txL,t.length≤3:=fun t ht=>by
 have h:(txL.all fun t=>decide (t.length≤3))=true:=by decide +kernel
 simpa using List.all_eq_true.1 h t ht
theorem wf_exL:∀r∈exL,WF r:=by
 intro r hr;simp only[exL,List.mem_cons,List.not_mem_nil,or_false]at hr;rcases hr with rfl|rfl|rfl|rfl|rfl|rfl|rfl|rfl|rfl|rfl|rfl|rfl
 ·exact wf_word _
 ·exact wf_word _
 ·exact wf_word _
 ·exact wf_word _
 ·exact wf_one _
 ·exact wf_many (wf_word _)
 ·exact wf_many (wf_one _)
 ·exact wf_cat (wfl2 (wf_word _) (wf_many (wf_word _)))
 ·exact wf_cat (wfl2 (wf_one _) (wf_many (wf_one _)))
 ·exact wf_any (wfl2 (wf_word _) (wf_word _))
 ·exact wf_empty
 ·exact wf_cat (wfl2 (wf_many (wf_one _)) (wf_word _))
structure TyG (n:Nat)(x:R × R):Prop where
 s1:size x.1≤n
 s2:size x.2≤n
 f1:AllP Fr x.1
 f2:AllP Fr x.2
 w1:WF x.1
 w2:WF x.2
theorem size_two (x y:R):size (any [x,y])≤1+(size x+size y)∧size (cat [x,y])≤1+(size x+size y):=by have h1:=Go.Proofs.YtamkfdlcdiadlaaGreatDoor.size_anyl [x,y];have h2:=Go.Proofs.YtamkfdlcdiadlaaGreatDoor.size_cat [x,y];simp only[sizes]at h1 h2;omega
theorem types_good:∀(m:Nat) (t:T),tsize t≤m→CG t→TyG (11*tsize t) (typesOf t)
 | 0,t,hm,_=>by cases t;unfold tsize at hm;omega
 | m+1,t,hm,hg=>by
   have hts:tsize t=1+tsizes t.kids:=by cases t;rfl
   rw[typesOf_eq];have ho:=hg.open_;rcases hg.op5 with e|e|e|e|e
   ·obtain⟨r,hr,hx,hk⟩:=hg.leaf (.inl e);have hq:tyEnd t (nthR (typesL t.kids) 0) (nthR (typesL t.kids) 1)=(r,r):=by unfold tyEnd;rw[if_pos e,hr];rfl
    rw[hq];have:=size_exL r hx;exact⟨by simp only;omega,by simp only;omega,fr_exL r hx,fr_exL r hx,wf_exL r hx,wf_exL r hx⟩
   ·obtain⟨r,hr,hx,hk⟩:=hg.leaf (.inr e);have hq:tyEnd t (nthR (typesL t.kids) 0) (nthR (typesL t.kids) 1)=(r,word t.text):=by unfold tyEnd;rw[if_neg (by omega),if_pos e,hr];rfl
    rw[hq];have:=size_exL r hx;have:=size_txL _ ho.2.2.2.1;exact⟨by simp only;omega,by simp only;omega,fr_exL r hx,fr_txL _ ho.2.2.2.1,wf_exL r hx,wf_word _⟩
   ·obtain⟨x,y,hk,hx,hy⟩:=hg.two (.inl e);rw[hk]at hts ⊢;simp only[tsizes]at hts;have h1:=types_good m x (by omega) hx;have h2:=types_good m y (by omega) hy;have hq:tyEnd t (nthR (typesL [x,y]) 0) (nthR (typesL [x,y]) 1)=(any [(typesOf x).1,(typesOf y).1],any [(typesOf x).2,(typesOf y).2]):=by unfold tyEnd;rw[if_neg (by omega),if_neg (by omega),if_neg (by omega),if_pos e];rfl
    rw[hq];have z1:=(size_two (typesOf x).1 (typesOf y).1).1;have z2:=(size_two (typesOf x).2 (typesOf y).2).1;have:=h1.s1;have:=h1.s2;have:=h2.s1;have:=h2.s2
    exact⟨by simp only;omega,by simp only;omega,allP_any fr_closed (allPs_list2 h1.f1 h2.f1),allP_any fr_closed (allPs_list2 h1.f2 h2.f2),wf_any (wfl2 h1.w1 h2.w1),wf_any (wfl2 h1.w2 h2.w2)⟩
   ·obtain⟨x,y,hk,hx,hy⟩:=hg.two (.inr e);rw[hk]at hts ⊢;simp only[tsizes]at hts;have h1:=types_good m x (by omega) hx;have h2:=types_good m y (by omega) hy;have hq:tyEnd t (nthR (typesL [x,y]) 0) (nthR (typesL [x,y]) 1)=(cat [(typesOf x).1,(typesOf y).1],cat [(typesOf x).2,(typesOf y).2]):=by unfold tyEnd;rw[if_neg (by omega),if_neg (by omega),if_neg (by omega),if_neg (by omega)];rfl
    rw[hq];have z1:=(size_two (typesOf x).1 (typesOf y).1).2;have z2:=(size_two (typesOf x).2 (typesOf y).2).2;have:=h1.s1;have:=h1.s2;have:=h2.s1;have:=h2.s2
    exact⟨by simp only;omega,by simp only;omega,allP_cat (allPs_list2 h1.f1 h2.f1),allP_cat (allPs_list2 h1.f2 h2.f2),wf_cat (wfl2 h1.w1 h2.w1),wf_cat (wfl2 h1.w2 h2.w2)⟩
   ·obtain⟨x,hk,hx⟩:=hg.one e;rw[hk]at hts ⊢;simp only[tsizes]at hts;have h1:=types_good m x (by omega) hx;have hq:tyEnd t (nthR (typesL [x]) 0) (nthR (typesL [x]) 1)=(many (typesOf x).1,many (typesOf x).2):=by unfold tyEnd;rw[if_neg (by omega),if_neg (by omega),if_pos e];rfl
    rw[hq];have z1:=Go.Proofs.YtamkfdlcdiadlaaGreatDoor.size_many (typesOf x).1;have z2:=Go.Proofs.YtamkfdlcdiadlaaGreatDoor.size_many (typesOf x).2;have:=h1.s1;have:=h1.s2
    exact⟨by simp only;omega,by simp only;omega,allP_many h1.f1,allP_many h1.f2,wf_many h1.w1,wf_many h1.w2⟩
mutual
theorem canonOf_types:∀ {t:T} {l:Nat} {c:Ck} {x:C},canonOf t { left:=l }=(c,some x)→(x.whole,x.core)=typesOf t∧x.term=t∧x.kids.length=t.kids.length
 | .mk op a n r tx bk ks,l,c,x,h=>by
   unfold canonOf at h;split at h
   ·simp at h
   ·split at h
    ·simp at h
    ·rename_i c1 kids hk;obtain⟨h1,h2⟩:=canonsOf_types hk;have h3:=Ck.eta (canonsOf_some hk);unfold canonEnd at h;rw[ctypes_eq,h2 0,h2 1]at h;split at h
     ·simp at h
     ·rename_i c2 w k hc;simp only at h;split at h
      ·simp only[Prod.mk.injEq,Option.some.injEq]at h;simp only[Prod.mk.injEq]at hc;rw[←h.2,typesOf_eq];exact⟨by simp only[C.whole,C.core,T.kids];rw[hc.2],rfl,h1⟩
      ·simp at h
theorem canonsOf_types:∀ {ts:List T} {l:Nat} {c:Ck} {xs:List C},canonsOf ts { left:=l }=(c,some xs)→xs.length=ts.length∧∀i,nth xs i=nthR (typesL ts) i
 | [],l,c,xs,h=>by
   unfold canonsOf at h;simp only[Prod.mk.injEq,Option.some.injEq]at h;rw[←h.2];exact⟨rfl,fun i=>by simp[nth,nthR,typesL]⟩
 | t::ts,l,c,xs,h=>by
   unfold canonsOf at h;split at h
   ·simp at h
   ·rename_i c1 k hk;have h1:=Ck.eta (canonOf_some hk);rw[h1]at h;split at h
    ·simp at h
    ·rename_i c2 l2 hl;simp only[Prod.mk.injEq,Option.some.injEq]at h;rw[←h.2];obtain⟨h2,h3⟩:=canonsOf_types hl;have h4:=(canonOf_types hk).1;refine⟨by simp[h2],fun i => ?_⟩;cases i with
     | zero=>simpa [nth,nthR,typesL] using h4
     | succ i=>simpa [nth,nthR,typesL] using h3 i
end
end Pv
namespace Pv
structure Same2 (a b:Ck × Bool):Prop where
 ans:a.2=b.2
 fault:a.1.fault=b.1.fault
theorem two_same {F:Nat→Nat × Option (Option Two)}(hF:∀ {l l':Nat} {a:Option Two} (m:Nat),F l=(l',some a)→F (l+m)=(l'+m,some a)){e:Nat}{t:T}{v:Bool}{L m:Nat}
  (h1:(({ left:=L }:Ck).two e t v (F L)).1.fault.e≠5) (h2:(({ left:=m }:Ck).two e t v (F m)).1.fault.e≠5):Same2 (({ left:=L }:Ck).two e t v (F L)) (({ left:=m }:Ck).two e t v (F m)):=by
 rcases hL:F L with⟨L',_|a⟩
 ·rw[hL]at h1;exact absurd rfl h1
 ·rcases hm:F m with⟨m',_|b⟩
  ·rw[hm]at h2;exact absurd rfl h2
  ·obtain⟨rfl,_⟩:=told_same hF hL hm;cases a with
   | none=>exact⟨rfl,rfl⟩
   | some w=>exact⟨rfl,rfl⟩
theorem told_same2 {F:Nat→Nat × Option (Option (List UInt8))}(hF:∀ {l l':Nat} {a:Option (List UInt8)} (m:Nat),F l=(l',some a)→F (l+m)=(l'+m,some a)){e:Nat}{t:T}{v:Bool}{L m:Nat}
  (h1:(({ left:=L }:Ck).told e t v (F L)).1.fault.e≠5) (h2:(({ left:=m }:Ck).told e t v (F m)).1.fault.e≠5):Same2 (({ left:=L }:Ck).told e t v (F L)) (({ left:=m }:Ck).told e t v (F m)):=by
 rcases hL:F L with⟨L',_|a⟩
 ·rw[hL]at h1;exact absurd rfl h1
 ·rcases hm:F m with⟨m',_|b⟩
  ·rw[hm]at h2;exact absurd rfl h2
  ·obtain⟨rfl,_⟩:=told_same hF hL hm;cases a with
   | none=>exact⟨rfl,rfl⟩
   | some w=>exact⟨rfl,rfl⟩
theorem both_same {a b:Ck × Bool}{f:Ck→Ck × Bool}(ha:a.2=true→a.1.fault={})(hb:b.2=true→b.1.fault={})(h1:(Ck.both a f).1.fault.e≠5)(h2:(Ck.both b f).1.fault.e≠5)
  (hs:a.1.fault.e≠5→b.1.fault.e≠5→Same2 a b) (hf:∀L m,(f { left:=L }).1.fault.e≠5→(f { left:=m }).1.fault.e≠5→Same2 (f { left:=L }) (f { left:=m })):Same2 (Ck.both a f) (Ck.both b f):=by
 have a5:a.1.fault.e≠5:=by
  unfold Ck.both at h1;split at h1
  ·rename_i e;rw[ha e];decide
  ·exact h1
 have b5:b.1.fault.e≠5:=by
  unfold Ck.both at h2;split at h2
  ·rename_i e;rw[hb e];decide
  ·exact h2
 have h:=hs a5 b5;unfold Ck.both at h1 h2 ⊢;cases e:a.2 with
 | true=>
   have e2:b.2=true:=by rw[←h.ans];exact e
   rw[e]at h1;rw[e2]at h2 ⊢;simp only[if_true]at h1 h2 ⊢;rw[Ck.eta (ha e)]at h1 ⊢;rw[Ck.eta (hb e2)]at h2 ⊢;exact hf _ _ h1 h2
 | false=>
   have e2:b.2=false:=by rw[←h.ans];exact e
   rw[e2];simp only[Bool.false_eq_true,if_false];exact h
theorem two_ok {l e:Nat}{t:T}{v:Bool}{r:Nat × Option (Option Two)}(h:(({ left:=l }:Ck).two e t v r).2=true):(({ left:=l }:Ck).two e t v r).1.fault={}:=by rw[Ck.two_true (c:=(({ left:=l }:Ck).two e t v r).1) (Prod.ext rfl h)]
theorem conds_ok {t:T}{k l:R × R}{L:Nat}(h:(conds t k l { left:=L }).2=true):(conds t k l { left:=L }).1.fault={}:=by
 have h2:ctypes t [] { left:=L }=ctypes t [] { left:=L }:=rfl;unfold conds at h ⊢;split
 ·rfl
 ·rename_i e1;rw[if_neg e1]at h;split
  ·rename_i e2;rw[if_pos e2]at h;exact Ck.within_true (c:=(({ left:=L }:Ck).within t t.text (t.re.getD nothing)).1) (Prod.ext rfl h)
  ·rename_i e2;rw[if_neg e2]at h;split
   ·rename_i e3;rw[if_pos e3]at h;obtain⟨h1,h3⟩:=Ck.both_true (c:=(Ck.both (({ left:=L }:Ck).iterates t false k.1) (·.iterates t true k.2)).1) (Prod.ext rfl h);have h4:(({ left:=L }:Ck).iterates t false k.1).1={ left:=(ambigIter k.1 L).1 }:=Ck.iterates_true (Prod.ext rfl h1);rw[h4]at h3;rw[Ck.iterates_true h3]
   ·rename_i e3;rw[if_neg e3]at h;split
    ·rename_i e4;rw[if_pos e4]at h;rw[Ck.apart_true (c:=(({ left:=L }:Ck).apart t false k.1 l.1).1) (Prod.ext rfl h)]
    ·rename_i e4;rw[if_neg e4]at h;obtain⟨h1,h3⟩:=Ck.both_true (c:=(Ck.both (({ left:=L }:Ck).splits t false k.1 l.1) (·.splits t true k.2 l.2)).1) (Prod.ext rfl h);have h4:(({ left:=L }:Ck).splits t false k.1 l.1).1={ left:=(ambigCat k.1 l.1 L).1 }:=Ck.splits_true (Prod.ext rfl h1);rw[h4]at h3;rw[Ck.splits_true h3]
theorem conds_same {t:T}{k l:R × R}{L m:Nat}(h1:(conds t k l { left:=L }).1.fault.e≠5)(h2:(conds t k l { left:=m }).1.fault.e≠5):Same2 (conds t k l { left:=L }) (conds t k l { left:=m }):=by
 unfold conds at h1 h2 ⊢;split
 ·exact⟨rfl,rfl⟩
 ·rename_i e1;rw[if_neg e1]at h1 h2;split
  ·cases hm:matchR t.text (t.re.getD nothing) with
   | true=>exact⟨by simp[Ck.within,Ck.ok,hm],by simp[Ck.within,Ck.ok,hm]⟩
   | false=>exact⟨by simp[Ck.within,Ck.ok,hm],by simp[Ck.within,Ck.ok,hm,Ck.fail]⟩
  ·rename_i e2;rw[if_neg e2]at h1 h2;split
   ·rename_i e3;rw[if_pos e3]at h1 h2;exact both_same (fun h=>two_ok (r:=ambigIter k.1 L) h) (fun h=>two_ok (r:=ambigIter k.1 m) h) h1 h2 (fun a b=>two_same (F:=ambigIter k.1) (fun m h=>ambigIter_mono m h) a b) (fun L m a b=>two_same (F:=ambigIter k.2) (fun m h=>ambigIter_mono m h) a b)
   ·rename_i e3;rw[if_neg e3]at h1 h2;split
    ·rename_i e4;rw[if_pos e4]at h1 h2;exact told_same2 (F:=shared k.1 l.1) (fun m h=>witness_mono m h) h1 h2
    ·rename_i e4;rw[if_neg e4]at h1 h2;exact both_same (fun h=>two_ok (r:=ambigCat k.1 l.1 L) h) (fun h=>two_ok (r:=ambigCat k.1 l.1 m) h) h1 h2 (fun a b=>two_same (F:=ambigCat k.1 l.1) (fun m h=>ambigCat_mono m h) a b) (fun L m a b=>two_same (F:=ambigCat k.2 l.2) (fun m h=>ambigCat_mono m h) a b)
theorem canonEnd_fault {t:T}{kids:List C}{l:Nat}(h:(conds t (nth kids 0) (nth kids 1) { left:=l }).2=true)(h5:(canonEnd t kids { left:=l }).1.fault.e≠5):(canonEnd t kids { left:=l }).1.fault={}:=by
 have hs:∀(l:Nat) (r:R),(({ left:=l }:Ck).side r).2=none→(({ left:=l }:Ck).side r).1.fault.e=5:=fun l r h=>by
  have hq:({ left:=l }:Ck).side r=(match Pv.side r l with|(l,none)=>(({ left:=l,fault:={ e:=5 } }:Ck),none)|(l,some s)=>(({ left:=l }:Ck),some s)):=rfl;rw[hq]at h ⊢;generalize Pv.side r l=q at h ⊢;obtain⟨l',_|o⟩:=q
  ·rfl
  ·exact absurd h (by simp)
 have h0:=Ck.eta (conds_ok h);unfold canonEnd at h5 ⊢;rw[ctypes_eq]at h5 ⊢;generalize hc:conds t (nth kids 0) (nth kids 1) { left:=l }=q at h h0 h5 ⊢;obtain⟨c,b⟩:=q;simp only at h h0;subst h;rw[h0]at h5 ⊢;simp only at h5 ⊢;generalize hw:(tyEnd t (nth kids 0) (nth kids 1)).1=w at h5 ⊢;generalize hk:(tyEnd t (nth kids 0) (nth kids 1)).2=k at h5 ⊢;generalize c.left=L at h5 ⊢
 cases ha:(({ left:=L }:Ck).side w).2 with
 | none=>
   have h1:=hs L w ha;have h2:(({ left:=L }:Ck).side w).1.side k=((({ left:=L }:Ck).side w).1,none):=by generalize ({ left:=L }:Ck).side w=q at h1 ⊢;unfold Ck.side;rw[if_neg];unfold Ck.ok;rw[h1];decide
   rw[ha]at h5;simp only[h2]at h5;exact absurd h1 h5
 | some ws=>
   have h1:=Ck.eta (Ck.side_some (s:=ws) (c:=(({ left:=L }:Ck).side w).1) (l:=L) (r:=w) (Prod.ext rfl ha));rw[ha]at h5;try simp only at h5 ⊢
   rw[h1]at h5 ⊢;generalize (({ left:=L }:Ck).side w).1.left=M at h5 ⊢;cases hb:(({ left:=M }:Ck).side k).2 with
   | none=>
     have h2:=hs M k hb;rw[hb]at h5;exact absurd h2 h5
   | some cs=>exact Ck.side_some (s:=cs) (l:=M) (r:=k) (Prod.ext rfl hb)
theorem canonEnd_false {t:T}{kids:List C}{l:Nat}(h:(conds t (nth kids 0) (nth kids 1) { left:=l }).2=false):canonEnd t kids { left:=l }=((conds t (nth kids 0) (nth kids 1) { left:=l }).1,none):=by unfold canonEnd;rw[ctypes_eq];generalize conds t (nth kids 0) (nth kids 1) { left:=l }=q at h ⊢;obtain⟨c,b⟩:=q;simp only at h;subst h;rfl
theorem two_bad {l e:Nat}(he:e≠0){t:T}{v:Bool}{r:Nat × Option (Option Two)}(h:(({ left:=l }:Ck).two e t v r).2=false):(({ left:=l }:Ck).two e t v r).1.fault.e≠0:=by
 obtain⟨l',_|_|w⟩:=r
 ·exact(by decide:(5:Nat)≠0)
 ·exact absurd h (by simp[Ck.two])
 ·exact he
theorem told_bad {l e:Nat}(he:e≠0){t:T}{v:Bool}{r:Nat × Option (Option (List UInt8))}(h:(({ left:=l }:Ck).told e t v r).2=false):(({ left:=l }:Ck).told e t v r).1.fault.e≠0:=by
 obtain⟨l',_|_|w⟩:=r
 ·exact(by decide:(5:Nat)≠0)
 ·exact absurd h (by simp[Ck.told])
 ·exact he
theorem both_bad {a:Ck × Bool}{f:Ck→Ck × Bool}(ha:a.2=true→a.1.fault={})(ha2:a.2=false→a.1.fault.e≠0)(hf:∀L,(f { left:=L }).2=false→(f { left:=L }).1.fault.e≠0)(h:(Ck.both a f).2=false):(Ck.both a f).1.fault.e≠0:=by
 unfold Ck.both at h ⊢;cases e:a.2 with
 | true=>
   rw[e]at h;simp only[if_true]at h ⊢;rw[Ck.eta (ha e)]at h ⊢;exact hf _ h
 | false=>exact ha2 e
theorem conds_bad {t:T}{k l:R × R}{L:Nat}(h:(conds t k l { left:=L }).2=false):(conds t k l { left:=L }).1.fault.e≠0:=by
 unfold conds at h ⊢;split
 ·rename_i e1;rw[if_pos e1]at h;exact absurd h (by simp)
 ·rename_i e1;rw[if_neg e1]at h;split
  ·rename_i e2;rw[if_pos e2]at h;cases hm:matchR t.text (t.re.getD nothing) with
   | true=>simp[Ck.within,Ck.ok,hm]at h
   | false=>simp[Ck.within,Ck.ok,hm,Ck.fail]
  ·rename_i e2;rw[if_neg e2]at h;split
   ·rename_i e3;rw[if_pos e3]at h;exact both_bad (fun h=>two_ok (r:=ambigIter k.1 L) h) (fun h=>two_bad (r:=ambigIter k.1 L) (by decide) h) (fun M h=>two_bad (r:=ambigIter k.2 M) (by decide) h) h
   ·rename_i e3;rw[if_neg e3]at h;split
    ·rename_i e4;rw[if_pos e4]at h;exact told_bad (r:=shared k.1 l.1 L) (by decide) h
    ·rename_i e4;rw[if_neg e4]at h;exact both_bad (fun h=>two_ok (r:=ambigCat k.1 l.1 L) h) (fun h=>two_bad (r:=ambigCat k.1 l.1 L) (by decide) h) (fun M h=>two_bad (r:=ambigCat k.2 l.2 M) (by decide) h) h
theorem canonEnd_some2 {t:T}{kids:List C}{l:Nat}(h:(canonEnd t kids { left:=l }).2=none):(canonEnd t kids { left:=l }).1.fault.e≠0:=by
 cases hb:(conds t (nth kids 0) (nth kids 1) { left:=l }).2 with
 | false=>rw[canonEnd_false hb];exact conds_bad hb
 | true=>
   have hs:∀(l:Nat) (r:R),(({ left:=l }:Ck).side r).2=none→(({ left:=l }:Ck).side r).1.fault.e=5:=fun l r h=>by
    have hq:({ left:=l }:Ck).side r=(match Pv.side r l with|(l,none)=>(({ left:=l,fault:={ e:=5 } }:Ck),none)|(l,some s)=>(({ left:=l }:Ck),some s)):=rfl;rw[hq]at h ⊢;generalize Pv.side r l=q at h ⊢;obtain⟨l',_|o⟩:=q
    ·rfl
    ·exact absurd h (by simp)
   have h0:=Ck.eta (conds_ok hb);unfold canonEnd at h ⊢;rw[ctypes_eq]at h ⊢;generalize conds t (nth kids 0) (nth kids 1) { left:=l }=q at h h0 hb ⊢;obtain⟨c,b⟩:=q;simp only at hb h0;subst hb;rw[h0]at h ⊢;simp only at h ⊢;generalize (tyEnd t (nth kids 0) (nth kids 1)).1=w at h ⊢;generalize (tyEnd t (nth kids 0) (nth kids 1)).2=k at h ⊢;generalize c.left=L at h ⊢
   cases ha:(({ left:=L }:Ck).side w).2 with
   | none=>
     have h1:=hs L w ha;have h2:(({ left:=L }:Ck).side w).1.side k=((({ left:=L }:Ck).side w).1,none):=by generalize ({ left:=L }:Ck).side w=q at h1 ⊢;unfold Ck.side;rw[if_neg];unfold Ck.ok;rw[h1];decide
     simp only[h2];rw[h1];decide
   | some ws=>
     have h1:=Ck.eta (Ck.side_some (s:=ws) (c:=(({ left:=L }:Ck).side w).1) (l:=L) (r:=w) (Prod.ext rfl ha));rw[ha]at h;try simp only at h ⊢
     rw[h1]at h ⊢;generalize (({ left:=L }:Ck).side w).1.left=M at h ⊢;cases hb:(({ left:=M }:Ck).side k).2 with
     | none=>
       simp only;rw[hs M k hb];decide
     | some cs=>rw[hb]at h;simp at h
theorem judge_conds {t:T}{c:Ck}(h:(judge t c).fault.e≠5):(judgeL t.kids c).fault.e≠5:=by
 rw[judge_eq]at h;unfold judgeE at h;split at h
 ·rename_i e;simp only[Ck.ok,beq_iff_eq]at e;omega
 ·exact h
mutual
theorem judge_canon:∀ {t:T} {L m:Nat},CG t→(canonOf t { left:=L }).1.fault.e≠5→(judge t { left:=m }).fault.e≠5→(canonOf t { left:=L }).1.fault=(judge t { left:=m }).fault
 | .mk op a n r tx bk ks,L,m,hg,h1,h2=>by
   have ho:=hg.open_;have hk:CGs ks:=ho.2.2.2.2.2.2;have j1:=judge_conds h2;have hcs:=judgeL_canon (ts:=ks) (L:=L) (m:=m) hk;rw[judge_eq]at h2 ⊢;have hsh:shapedOf op r.isSome ks.length=true:=ho.2.1;have hco:isCanonOp op=true:=ho.1;have hq:canonOf (.mk op a n r tx bk ks) { left:=L }=(match canonsOf ks { left:=L } with
    | (c,none)=>(c,none)
    | (c,some kids)=>canonEnd (.mk op a n r tx bk ks) kids c):=by
    rw[canonOf,hsh,hco];rfl
   rw[hq]at h1 ⊢;change (judgeL ks { left:=m }).fault.e≠5 at j1;change (judgeE _ (nthR (typesL ks) 0) (nthR (typesL ks) 1) (judgeL ks { left:=m })).fault.e≠5 at h2;change _=(judgeE _ (nthR (typesL ks) 0) (nthR (typesL ks) 1) (judgeL ks { left:=m })).fault;rcases hc:canonsOf ks { left:=L } with⟨c,_|kids⟩
   ·rw[hc]at h1 hcs;simp only at h1 hcs ⊢;have h3:=hcs h1 j1;have h4:=canonsOf_bad (L:=L) (ts:=ks) hk (by rw[hc]);rw[hc]at h4;simp only at h4;unfold judgeE;rw[if_neg (by rw[Ck.ok,←h3];simpa using h4)];exact h3
   ·rw[hc]at h1 hcs;simp only at h1 hcs ⊢;have hcf:=canonsOf_some hc;have h3:=hcs (by rw[hcf];decide) j1;rw[hcf]at h3;have hj:=Ck.eta h3.symm;obtain⟨hl,ht⟩:=canonsOf_types hc;rw[Ck.eta hcf]at h1 ⊢;rw[hj]at h2 ⊢;unfold judgeE at h2 ⊢;have hok:({ left:=(judgeL ks { left:=m }).left }:Ck).ok=true:=rfl;rw[if_pos hok]at h2 ⊢;rw[←ht 0,←ht 1]at h2 ⊢;generalize (judgeL ks { left:=m }).left=m' at h2 ⊢
    generalize c.left=L' at h1 ⊢;cases hb:(conds (.mk op a n r tx bk ks) (nth kids 0) (nth kids 1) { left:=L' }).2 with
    | false=>
      rw[canonEnd_false hb]at h1 ⊢;exact(conds_same h1 h2).fault
    | true=>
      have h4:=conds_ok hb;have h5:=conds_same (by rw[h4];decide) h2;rw[canonEnd_fault hb h1,←h5.fault,h4]
theorem judgeL_canon:∀ {ts:List T} {L m:Nat},CGs ts→(canonsOf ts { left:=L }).1.fault.e≠5→(judgeL ts { left:=m }).fault.e≠5→(canonsOf ts { left:=L }).1.fault=(judgeL ts { left:=m }).fault
 | [],L,m,_,_,_=>rfl
 | t::ts,L,m,hg,h1,h2=>by
   unfold CGs at hg;have d5:(judge t { left:=m }).fault.e≠5:=by
    unfold judgeL at h2;simp only at h2;split at h2
    ·rename_i e;simp only[Ck.ok,beq_iff_eq]at e;omega
    ·exact h2
   have hc:=judge_canon (L:=L) (m:=m) hg.1;have hn:=canonOf_bad (L:=L) hg.1;unfold canonsOf at h1 ⊢;unfold judgeL at h2 ⊢;rcases hq:canonOf t { left:=L } with⟨c,_|k⟩
   ·rw[hq]at hc h1 hn;simp only at hc h1 h2 hn ⊢;have h3:=hc h1 d5;have h4:=hn trivial;rw[if_neg (by rw[Ck.ok,←h3];simpa using h4)];exact h3
   ·have hcf:=canonOf_some hq;rw[hq]at hc h1;simp only at hc h1 h2 ⊢;have h3:=hc (by rw[hcf];decide) d5;rw[hcf]at h3;have hj:=Ck.eta h3.symm;rw[hj]at h2 ⊢;have hok:({ left:=(judge t { left:=m }).left }:Ck).ok=true:=rfl;rw[if_pos hok]at h2 ⊢;rw[Ck.eta hcf]at h1 ⊢;have h4:=judgeL_canon (ts:=ts) (L:=c.left) (m:=(judge t { left:=m }).left) hg.2;rcases hq2:canonsOf ts { left:=c.left } with⟨c2,_|l⟩
    ·rw[hq2]at h1 h4;exact h4 h1 h2
    ·rw[hq2]at h1 h4;exact h4 h1 h2
theorem canonOf_bad:∀ {t:T} {L:Nat},CG t→(canonOf t { left:=L }).2=none→(canonOf t { left:=L }).1.fault.e≠0
 | .mk op a n r tx bk ks,L,hg,h=>by
   have ho:=hg.open_;have hk:CGs ks:=ho.2.2.2.2.2.2;have hsh:shapedOf op r.isSome ks.length=true:=ho.2.1;have hco:isCanonOp op=true:=ho.1;have hq:canonOf (.mk op a n r tx bk ks) { left:=L }=(match canonsOf ks { left:=L } with
    | (c,none)=>(c,none)
    | (c,some kids)=>canonEnd (.mk op a n r tx bk ks) kids c):=by
    rw[canonOf,hsh,hco];rfl
   have hn:=canonsOf_bad (ts:=ks) (L:=L) hk;rw[hq]at h ⊢;rcases hc:canonsOf ks { left:=L } with⟨c,_|kids⟩
   ·rw[hc]at hn;exact hn (by first|rfl|trivial)
   ·rw[hc]at h;simp only at h ⊢;rw[Ck.eta (canonsOf_some hc)]at h ⊢;exact canonEnd_some2 h
theorem canonsOf_bad:∀ {ts:List T} {L:Nat},CGs ts→(canonsOf ts { left:=L }).2=none→(canonsOf ts { left:=L }).1.fault.e≠0
 | [],L,_,h=>by simp[canonsOf]at h
 | t::ts,L,hg,h=>by
   unfold CGs at hg;have hn:=canonOf_bad (L:=L) hg.1;unfold canonsOf at h ⊢;rcases hq:canonOf t { left:=L } with⟨c,_|k⟩
   ·rw[hq]at hn;exact hn rfl
   ·have hcf:=canonOf_some hq;rw[hq]at h;simp only at h ⊢;rw[Ck.eta hcf]at h ⊢;have h4:=canonsOf_bad (ts:=ts) (L:=c.left) hg.2;rcases hq2:canonsOf ts { left:=c.left } with⟨c2,_|l⟩
    ·rw[hq2]at h4;exact h4 rfl
    ·rw[hq2]at h;simp at h
end
end Pv
namespace Pv
mutual
theorem judge_ok:∀ {t:T} {l:Nat},(judge t { left:=l }).fault.e=0→(judge t { left:=l }).fault={}
 | .mk op a n r tx bk ks,l,h=>by
   rw[judge_eq]at h ⊢;change (judgeE _ (nthR (typesL ks) 0) (nthR (typesL ks) 1) (judgeL ks { left:=l })).fault.e=0 at h;change (judgeE _ (nthR (typesL ks) 0) (nthR (typesL ks) 1) (judgeL ks { left:=l })).fault={};have hl:=judgeL_ok (ts:=ks) (l:=l);unfold judgeE at h ⊢;split at h
   ·rename_i e;rw[if_pos e];have e2:(judgeL ks { left:=l }).fault={}:=hl (by simpa [Ck.ok] using e);rw[Ck.eta e2]at h ⊢;cases hb:(conds (.mk op a n r tx bk ks) (nthR (typesL ks) 0) (nthR (typesL ks) 1) { left:=(judgeL ks { left:=l }).left }).2 with
    | true=>exact conds_ok hb
    | false=>exact absurd h (conds_bad hb)
   ·rename_i e;rw[if_neg e];exact hl h
theorem judgeL_ok:∀ {ts:List T} {l:Nat},(judgeL ts { left:=l }).fault.e=0→(judgeL ts { left:=l }).fault={}
 | [],l,_=>rfl
 | t::ts,l,h=>by
   have ht:=judge_ok (t:=t) (l:=l);unfold judgeL at h ⊢;simp only at h ⊢;split at h
   ·rename_i e;rw[if_pos e];have e2:=ht (by simpa [Ck.ok] using e);rw[Ck.eta e2]at h ⊢;exact judgeL_ok h
   ·rename_i e;rw[if_neg e];exact ht h
end
end Pv
