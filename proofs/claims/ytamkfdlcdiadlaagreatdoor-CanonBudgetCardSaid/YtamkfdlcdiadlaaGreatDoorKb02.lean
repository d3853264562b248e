/- Plain: plans of canonizers' terms (law 17): how many parts they have; terms of such plans, their types, what is wrong with them by the page. -/
import Derived.Test.YtamkfdlcdiadlaaGreatDoorKb01
set_option linter.all false
namespace Pv
namespace P10
mutual
def cntK:P10→Nat→Nat
 | .mk _ _ _ ks,d=>if 6<d then 1000 else cntKGo ks (d+1) 1
def cntKGo:List P10→Nat→Nat→Nat
 | [],_,m=>m
 | k::ks,d,m=>if 1000<m+cntK k d then m+cntK k d else cntKGo ks d (m+cntK k d)
end
mutual
theorem cntK_le:∀(p:P10) (d:Nat),d≤7→cntK p d+1000*d≤8000
 | .mk _ _ _ ks,d,h=>by
   unfold cntK;split
   ·omega
   ·have:=cntKGo_le ks (d+1) 1 (by omega) (by omega);omega
theorem cntKGo_le:∀(ks:List P10) (d m:Nat),d≤7→m≤1000→cntKGo ks d m+1000*d≤9000
 | [],d,m,h,hm=>by unfold cntKGo;omega
 | k::ks,d,m,h,hm=>by
   have h1:=cntK_le k d h;unfold cntKGo;split
   ·omega
   ·exact cntKGo_le ks d _ h (by omega)
end
theorem cntKGo_ge:∀(ks:List P10) (d m:Nat),m≤cntKGo ks d m
 | [],d,m=>by unfold cntKGo;exact Nat.le_refl _
 | k::ks,d,m=>by
   unfold cntKGo;split
   ·omega
   ·have:=cntKGo_ge ks d (m+cntK k d);omega
mutual
theorem nodesK_le:∀(p:P10) (d:Nat),cntK p d<1000→nodes p≤cntK p d
 | .mk _ _ _ ks,d,h=>by
   unfold cntK at h ⊢;unfold nodes;split at h
   ·omega
   ·rename_i hd;rw[if_neg hd];exact nodesKL_le ks (d+1) 1 h
theorem nodesKL_le:∀(ks:List P10) (d m:Nat),cntKGo ks d m<1000→m+nodesL ks≤cntKGo ks d m
 | [],d,m,h=>by unfold cntKGo nodesL;omega
 | k::ks,d,m,h=>by
   unfold cntKGo at h ⊢;unfold nodesL;split at h
   ·omega
   ·rename_i hd;rw[if_neg hd];have h1:=cntKGo_ge ks d (m+cntK k d);have h2:=nodesK_le k d (by omega);have h3:=nodesKL_le ks d (m+cntK k d) h;omega
end
def kind (p:P10):Nat:=((p.op % 18446744073709551616) % 5).toNat
theorem kind_lt (p:P10):kind p<5:=by unfold kind;omega
end P10
def txL:List (List UInt8):=[[97],[98],[],[97,98],[59],[99],[97,97,59],[99,99]]
mutual
def CG:T→Prop
 | .mk op _ nm re tx bk ks=>isCanonOp op=true∧shapedOf op re.isSome ks.length=true∧(∀r,re=some r→r∈exL)∧tx∈txL∧bk=[]∧nm=[]∧CGs ks
def CGs:List T→Prop
 | []=>True
 | t::ts=>CG t∧CGs ts
end
theorem CG.open_ {t:T}(h:CG t):isCanonOp t.op=true∧shapedOf t.op t.re.isSome t.kids.length=true∧(∀r,t.re=some r→r∈exL)∧t.text∈txL∧t.back=[]∧t.name=[]∧CGs t.kids:=by cases t;unfold CG at h;exact⟨h.1,h.2.1,h.2.2.1,h.2.2.2.1,h.2.2.2.2.1,h.2.2.2.2.2.1,h.2.2.2.2.2.2⟩
theorem CGs.mem:∀ {ts:List T},CGs ts→∀t∈ts,CG t
 | [],_,_,h=>by cases h
 | t::ts,h,u,hu=>by
   unfold CGs at h;rcases List.mem_cons.1 hu with rfl|hu
   ·exact h.1
   ·exact CGs.mem h.2 u hu
theorem CG.op5 {t:T}(h:CG t):t.op=16∨t.op=17∨t.op=7∨t.op=8∨t.op=9:=by have:=h.open_.1;unfold isCanonOp at this;simp only[Bool.or_eq_true,beq_iff_eq]at this;omega
theorem CG.leaf {t:T}(h:CG t)(e:t.op=16∨t.op=17):∃r,t.re=some r∧r∈exL∧t.kids=[]:=by
 have h2:=h.open_.2.1;have h3:(t.re.isSome&&t.kids.length==0)=true:=by rcases e with e|e <;> · rw[e]at h2;exact h2
 simp only[Bool.and_eq_true,beq_iff_eq,List.length_eq_zero_iff]at h3;obtain⟨r,hr⟩:=Option.isSome_iff_exists.1 h3.1;exact⟨r,hr,h.open_.2.2.1 r hr,h3.2⟩
theorem CG.two {t:T}(h:CG t)(e:t.op=7∨t.op=8):∃x y,t.kids=[x,y]∧CG x∧CG y:=by
 have h2:=h.open_.2.1;have h3:(t.kids.length==2)=true:=by rcases e with e|e <;> · rw[e]at h2;exact h2
 simp only[beq_iff_eq]at h3;have hk:=h.open_.2.2.2.2.2.2
 match hq:t.kids,h3 with
 | [x,y],_=>
   rw[hq]at hk;exact⟨x,y,rfl,hk.mem x (by simp),hk.mem y (by simp)⟩
theorem CG.one {t:T}(h:CG t)(e:t.op=9):∃x,t.kids=[x]∧CG x:=by
 have h2:=h.open_.2.1;have h3:(t.kids.length==1)=true:=by rw[e]at h2;exact h2
 simp only[beq_iff_eq]at h3;have hk:=h.open_.2.2.2.2.2.2
 match hq:t.kids,h3 with
 | [x],_=>
   rw[hq]at hk;exact⟨x,rfl,hk.mem x (by simp)⟩
mutual
def Ats:T→Nat→Nat→Prop
 | .mk _ a _ _ _ _ ks,lo,hi=>a=((lo+1:Nat):Int)∧AtsL ks (lo+1) hi
def AtsL:List T→Nat→Nat→Prop
 | [],lo,hi=>lo=hi
 | t::ts,lo,hi=>∃m,Ats t lo m∧AtsL ts m hi
end
mutual
theorem ats_size:∀ {t:T} {lo hi:Nat},Ats t lo hi→hi=lo+tsize t
 | .mk _ _ _ _ _ _ ks,lo,hi,h=>by unfold Ats at h;have:=atsL_size h.2;unfold tsize;omega
theorem atsL_size:∀ {ts:List T} {lo hi:Nat},AtsL ts lo hi→hi=lo+tsizes ts
 | [],lo,hi,h=>by unfold AtsL at h;unfold tsizes;omega
 | t::ts,lo,hi,h=>by unfold AtsL at h;obtain⟨m,h1,h2⟩:=h;have a1:=ats_size h1;have a2:=atsL_size h2;unfold tsizes;omega
end
def tyEnd (t:T)(k l:R × R):R × R:=
 if t.op=16 then(t.re.getD nothing,t.re.getD nothing) else if t.op=17 then(t.re.getD nothing,word t.text)
 else if t.op=9 then(many k.1,many k.2) else if t.op=7 then(any [k.1,l.1],any [k.2,l.2]) else(cat [k.1,l.1],cat [k.2,l.2])
def nthR (l:List (R × R))(i:Nat):R × R:=l[i]?.getD (nothing,nothing)
mutual
def typesOf:T→R × R
 | .mk op a n r tx bk ks=>let l:=typesL ks;tyEnd (.mk op a n r tx bk ks) (nthR l 0) (nthR l 1)
def typesL:List T→List (R × R)
 | []=>[]
 | t::ts=>typesOf t::typesL ts
end
theorem typesOf_eq (t:T):typesOf t=tyEnd t (nthR (typesL t.kids) 0) (nthR (typesL t.kids) 1):=by cases t;rw[typesOf];rfl
def conds (t:T)(k l:R × R)(c:Ck):Ck × Bool:=
 if t.op=16 then(c,true)
 else if t.op=17 then c.within t t.text (t.re.getD nothing)
 else if t.op=9 then Ck.both (c.iterates t false k.1) (·.iterates t true k.2)
 else if t.op=7 then c.apart t false k.1 l.1
 else Ck.both (c.splits t false k.1 l.1) (·.splits t true k.2 l.2)
theorem ctypes_eq (t:T)(ks:List C)(c:Ck):ctypes t ks c=(conds t (nth ks 0) (nth ks 1) c,tyEnd t (nth ks 0) (nth ks 1)):=by
 unfold ctypes conds tyEnd;simp only;split
 ·rfl
 ·split
  ·rfl
  ·split
   ·rfl
   ·split<;>rfl
def judgeE (t:T)(k l:R × R)(c:Ck):Ck:=if c.ok then(conds t k l c).1 else c
mutual
def judge:T→Ck→Ck
 | .mk op a n r tx bk ks,c=>let l:=typesL ks;judgeE (.mk op a n r tx bk ks) (nthR l 0) (nthR l 1) (judgeL ks c)
def judgeL:List T→Ck→Ck
 | [],c=>c
 | t::ts,c=>let d:=judge t c;if d.ok then judgeL ts d else d
end
theorem judge_eq (t:T)(c:Ck):judge t c=judgeE t (nthR (typesL t.kids) 0) (nthR (typesL t.kids) 1) (judgeL t.kids c):=by cases t;rw[judge];rfl
end Pv
namespace Pv
def revd:Nat→Nat→List UInt8
 | 0,_=>[]
 | f+1,u=>if 36≤u then revd f (u / 36)++[dig36 (u % 36)] else [dig36 u]
theorem dg36Go_revd:∀(f u:Nat) (acc:List UInt8),dg36Go f u acc=revd f u++acc
 | 0,_,_=>rfl
 | f+1,u,acc=>by
   unfold dg36Go revd;split
   ·rw[dg36Go_revd f];simp
   ·rfl
def undig (c:UInt8):Nat:=if c.toNat<58 then c.toNat-48 else c.toNat-87
theorem undig_dig (k:Nat)(h:k<36):undig (dig36 k)=k:=by
 have:∀k:Fin 36,undig (dig36 k.val)=k.val:=by decide +kernel
 exact this ⟨k,h⟩
theorem dig_ge (k:Nat)(h:k<36):48≤dig36 k:=by
 have:∀k:Fin 36,48≤dig36 k.val:=by decide +kernel
 exact this ⟨k,h⟩
def val (l:List UInt8):Nat:=l.foldl (fun a c=>36*a+undig c) 0
theorem val_snoc (l:List UInt8)(c:UInt8):val (l++[c])=36*val l+undig c:=by simp[val]
theorem val_revd:∀(f u:Nat),u<36 ^ f→val (revd f u)=u
 | 0,u,h=>by have:u=0:=by simpa using h
             subst this;rfl
 | f+1,u,h=>by
   unfold revd;split
   ·rw[val_snoc,val_revd f (u / 36) (by rw[Nat.pow_succ]at h;omega),undig_dig _ (Nat.mod_lt _ (by omega))];omega
   ·rw[show [dig36 u]=[]++[dig36 u] from rfl,val_snoc,undig_dig _ (by omega)];simp[val]
theorem revd_ge:∀(f u:Nat),∀c∈revd f u,48≤c
 | 0,_,_,h=>by cases h
 | f+1,u,c,h=>by
   unfold revd at h;split at h
   ·rcases List.mem_append.1 h with h|h
    ·exact revd_ge f _ c h
    ·rw[List.mem_singleton.1 h];exact dig_ge _ (Nat.mod_lt _ (by omega))
   ·rw[List.mem_singleton.1 h];exact dig_ge _ (by omega)
theorem digits_ge (u:Nat):∀c∈digits36 u,48≤c:=by unfold digits36;rw[dg36Go_revd,List.append_nil];exact revd_ge _ _
theorem digits_inj (u v:BitVec 64)(h:digits36 u.toNat=digits36 v.toNat):u=v:=by unfold digits36 at h;rw[dg36Go_revd,dg36Go_revd,List.append_nil,List.append_nil]at h;have h1:=congrArg val h;have hu:=u.isLt;have hv:=v.isLt;rw[val_revd _ _ (Nat.lt_of_lt_of_le hu (by decide)),val_revd _ _ (Nat.lt_of_lt_of_le hv (by decide))]at h1;exact BitVec.eq_of_toNat_eq h1
theorem sep_inj:∀(l m:List UInt8) (c d:UInt8) (x y:List UInt8),(∀a∈l,48≤a)→(∀a∈m,48≤a)→c<48→d<48→l++c::x=m++d::y→l=m∧c=d∧x=y
 | [],[],c,d,x,y,_,_,_,_,h=>by simp at h;exact⟨rfl,h⟩
 | [],b::m,c,d,x,y,_,hm,hc,_,h=>by
   simp at h;have:=hm b (by simp);rw[←h.1]at this;exact absurd hc (UInt8.not_lt.2 this)
 | a::l,[],c,d,x,y,hl,_,_,hd,h=>by
   simp at h;have:=hl a (by simp);rw[h.1]at this;exact absurd hd (UInt8.not_lt.2 this)
 | a::l,b::m,c,d,x,y,hl,hm,hc,hd,h=>by simp at h;obtain⟨e,h2⟩:=sep_inj l m c d x y (fun a h=>hl a (by simp[h])) (fun a h=>hm a (by simp[h])) hc hd h.2;exact⟨by rw[h.1,e],h2⟩
def wt (op:Nat)(s:S4):List UInt8:=((wordParts op s).map (32 :: ·)).flatten
def kt (ks:List R):List UInt8:=((keys ks).map (32 :: ·)).flatten
theorem key_eq (op:Nat)(s:S4)(ks:List R):key (.mk op s ks)=40::UInt8.ofNat (48+op)::(wt op s++(kt ks++[41])):=by unfold key joined wt kt;simp
theorem kt_cons (r:R)(ks:List R):kt (r::ks)=32::(key r++kt ks):=by unfold kt;rw[keys];simp
theorem kt_head (ks:List R)(x:List UInt8):∃c y,c<48∧kt ks++41::x=c::y:=by
 cases ks with
 | nil=>exact⟨41,x,by decide,rfl⟩
 | cons r ks=>rw[kt_cons];exact⟨32,_,by decide,rfl⟩
theorem op_inj (a b:Nat)(ha:a≤7)(hb:b≤7)(h:UInt8.ofNat (48+a)=UInt8.ofNat (48+b)):a=b:=by have:=congrArg UInt8.toNat h;simp at this;omega
theorem wt_inj (s t:S4)(c d:UInt8)(x y:List UInt8)(hc:c<48)(hd:d<48)(h:wt 2 s++c::x=wt 2 t++d::y):s=t∧c::x=d::y:=by
 unfold wt wordParts at h;simp at h;obtain⟨h1,_,h⟩:=sep_inj _ _ 32 32 _ _ (digits_ge _) (digits_ge _) (by decide) (by decide) h;obtain⟨h2,_,h⟩:=sep_inj _ _ 32 32 _ _ (digits_ge _) (digits_ge _) (by decide) (by decide) h;obtain⟨h3,_,h⟩:=sep_inj _ _ 32 32 _ _ (digits_ge _) (digits_ge _) (by decide) (by decide) h;obtain⟨h4,h5,h6⟩:=sep_inj _ _ c d _ _ (digits_ge _) (digits_ge _) hc hd h
 refine⟨?_,by rw[h5,h6]⟩;cases s;cases t;simp only[S4.mk.injEq];exact⟨digits_inj _ _ h1,digits_inj _ _ h2,digits_inj _ _ h3,digits_inj _ _ h4⟩
mutual
theorem key_inj_go:∀(r q:R) (x y:List UInt8),WF r→WF q→key r++x=key q++y→r=q∧x=y
 | .mk op s ks,.mk op2 s2 ks2,x,y,h1,h2,h=>by
   unfold WF at h1 h2;rw[key_eq,key_eq]at h;simp only[List.cons_append,List.cons.injEq,true_and,List.append_assoc,List.nil_append]at h;obtain⟨ho,h⟩:=h;have e:=op_inj op op2 h1.1 h2.1 ho;subst e;have hx:s=s2∧kt ks++41::x=kt ks2++41::y:=by
    by_cases hop:op=2
    ·subst hop;obtain⟨c,x',hc,ex⟩:=kt_head ks x;obtain⟨d,y',hd,ey⟩:=kt_head ks2 y;rw[ex,ey]at h ⊢;exact wt_inj s s2 c d x' y' hc hd h
    ·rw[h1.2.1 hop,h2.2.1 hop];rw[show wt op s=[] by unfold wt wordParts;rw[if_neg hop];rfl,show wt op s2=[] by unfold wt wordParts;rw[if_neg hop];rfl]at h;exact⟨rfl,h⟩
   obtain⟨e1,e2⟩:=keys_inj_go ks ks2 x y h1.2.2.2 h2.2.2.2 hx.2;exact⟨by rw[hx.1,e1],e2⟩
theorem keys_inj_go:∀(ks qs:List R) (x y:List UInt8),WFs ks→WFs qs→kt ks++41::x=kt qs++41::y→ks=qs∧x=y
 | [],[],x,y,_,_,h=>by simp[kt,keys]at h;exact⟨rfl,h⟩
 | [],q::qs,x,y,_,_,h=>by rw[kt_cons]at h;simp[kt,keys]at h
 | r::rs,[],x,y,_,_,h=>by rw[kt_cons]at h;simp[kt,keys]at h
 | r::rs,q::qs,x,y,h1,h2,h=>by unfold WFs at h1 h2;rw[kt_cons,kt_cons]at h;simp only[List.cons_append,List.cons.injEq,true_and,List.append_assoc]at h;obtain⟨e1,h⟩:=key_inj_go r q _ _ h1.1 h2.1 h;obtain⟨e2,h⟩:=keys_inj_go rs qs x y h1.2 h2.2 h;exact⟨by rw[e1,e2],h⟩
end
theorem key_inj {r q:R}(h1:WF r)(h2:WF q)(h:key r=key q):r=q:=(key_inj_go r q [] [] h1 h2 (by rw[h])).1
theorem WFs_iff:∀l:List R,WFs l↔∀x∈l,WF x
 | []=>by simp[WFs]
 | r::l=>by unfold WFs;rw[WFs_iff l];simp
theorem keyLt_iff:∀x y:List UInt8,keyLt x y=decide (x<y)
 | [],[]=>by simp[keyLt]
 | [],_::_=>by simp[keyLt]
 | _::_,[]=>by simp[keyLt]
 | a::x,b::y=>by
   rw[keyLt,keyLt_iff x y];by_cases h1:a<b
   ·rw[if_pos h1];symm;simp[List.cons_lt_cons_iff,h1]
   ·rw[if_neg h1];by_cases h2:b<a
    ·rw[if_pos h2];symm;have:a≠b:=fun e=>by subst e;exact h1 h2
     simp[List.cons_lt_cons_iff,h1,this]
    ·rw[if_neg h2];have e:a=b:=UInt8.le_antisymm (UInt8.not_lt.1 h2) (UInt8.not_lt.1 h1);subst e;simp[List.cons_lt_cons_iff]
theorem ins_perm (r:R):∀l:List R,(ins r l).Perm (r::l)
 | []=>List.Perm.refl _
 | x::l=>by
   unfold ins;split
   ·exact((ins_perm r l).cons x).trans (List.Perm.swap r x l)
   ·exact List.Perm.refl _
theorem isort_perm:∀l:List R,(isort l).Perm l
 | []=>List.Perm.refl _
 | r::l=>(ins_perm r _).trans ((isort_perm l).cons r)
theorem ins_sorted (r:R):∀l:List R,l.Pairwise (fun x y=>key x≤key y)→(ins r l).Pairwise (fun x y=>key x≤key y)
 | [],_=>by unfold ins;simp
 | x::l,h=>by
   unfold ins;rw[keyLt_iff];obtain⟨h1,h2⟩:=List.pairwise_cons.1 h;split
   ·rename_i hlt;refine List.pairwise_cons.2 ⟨fun y hy => ?_,ins_sorted r l h2⟩;rcases List.mem_cons.1 ((ins_perm r l).mem_iff.1 hy) with rfl|hy
    ·exact List.le_of_lt (by simpa using hlt)
    ·exact h1 y hy
   ·rename_i hlt;have hle:key r≤key x:=List.not_lt.1 (by simpa using hlt);refine List.pairwise_cons.2 ⟨fun y hy => ?_,h⟩;rcases List.mem_cons.1 hy with rfl|hy
    ·exact hle
    ·exact List.le_trans hle (h1 y hy)
theorem isort_sorted:∀l:List R,(isort l).Pairwise (fun x y=>key x≤key y)
 | []=>List.Pairwise.nil
 | r::l=>ins_sorted r _ (isort_sorted l)
theorem sorted_eq {l m:List R}(hp:l.Perm m)(hl:l.Pairwise (fun x y=>key x≤key y))(hm:m.Pairwise (fun x y=>key x≤key y))(hw:∀x∈m,WF x):l=m:=
 hp.eq_of_pairwise (fun a b ha hb h1 h2=>key_inj (hw a (hp.mem_iff.1 ha)) (hw b hb) (List.le_antisymm h1 h2)) hl hm
end Pv
namespace Pv
theorem S4.word_map2 (F:BitVec 64→BitVec 64→BitVec 64)(s t:S4)(k:Nat):(S4.map2 F s t).word k=F (s.word k) (t.word k):=by unfold S4.map2 S4.word;split;rfl;split;rfl;split;rfl;rfl
theorem S4.has_and (s t:S4)(b:Nat):(s.and t).has b=(s.has b&&t.has b):=by unfold S4.has S4.and;rw[S4.word_map2,BitVec.getLsbD_and]
theorem S4.has_or (s t:S4)(b:Nat):(s.or t).has b=(s.has b||t.has b):=by unfold S4.has S4.or;rw[S4.word_map2,BitVec.getLsbD_or]
theorem S4.has_minus (s t:S4)(b:Nat):(s.minus t).has b=(s.has b && !t.has b):=by unfold S4.has S4.minus;rw[S4.word_map2];unfold nand;rw[BitVec.getLsbD_and,BitVec.getLsbD_not,decide_eq_true (Nat.mod_lt _ (by omega:64>0)),Bool.true_and]
theorem S4.has_all (b:Nat):S4.all.has b=true:=by
 unfold S4.has S4.all S4.not;rw[S4.word_map2];unfold inv;rw[BitVec.getLsbD_not,decide_eq_true (Nat.mod_lt _ (by omega:64>0))];have:S4.zero.word (b / 64)=0:=by unfold S4.zero S4.word;split;rfl;split;rfl;split;rfl;rfl
 rw[this];simp
theorem S4.has_zero (b:Nat):S4.zero.has b=false:=by
 unfold S4.has;have:S4.zero.word (b / 64)=0:=by unfold S4.zero S4.word;split;rfl;split;rfl;split;rfl;rfl
 rw[this];simp
theorem S4.not_empty {s:S4}{b:Nat}(h:s.has b=true):s.isEmpty=false:=by
 cases hs:s.isEmpty with
 | false=>rfl
 | true=>
   have:s=S4.zero:=by simpa [S4.isEmpty] using hs
   rw[this,S4.has_zero]at h;cases h
theorem refineStep_cover {parts:List S4}{s:S4}{b:Nat}(h:∃p∈parts,p.has b=true):∃p∈refineStep parts s,p.has b=true:=by
 obtain⟨p,hp,hb⟩:=h;by_cases hs:s.has b=true
 ·have h1:(p.and s).has b=true:=by rw[S4.has_and,hb,hs];rfl
  exact⟨p.and s,List.mem_flatMap.2 ⟨p,hp,by simp[S4.not_empty h1]⟩,h1⟩
 ·have h1:(p.minus s).has b=true:=by rw[S4.has_minus,hb];simpa using hs
  exact⟨p.minus s,List.mem_flatMap.2 ⟨p,hp,by simp[S4.not_empty h1]⟩,h1⟩
theorem refineAll_cover (b:Nat):∀(l:List S4) (parts:List S4),(∃p∈parts,p.has b=true)→∃p∈l.foldl refineStep parts,p.has b=true
 | [],_,h=>h
 | s::l,parts,h=>refineAll_cover b l _ (refineStep_cover h)
theorem refineStep_sub {parts:List S4}{s p:S4}(h:p∈refineStep parts s):∃p0∈parts,(p=p0.and s∨p=p0.minus s)∧p.isEmpty=false:=by obtain⟨p0,h0,h⟩:=List.mem_flatMap.1 h;simp only[List.mem_filter,List.mem_cons,List.not_mem_nil,or_false]at h;exact⟨p0,h0,h.1,by simpa using h.2⟩
theorem sortedGo_len (parts:List S4):∀(n b:Nat) (out:List S4) (seen:S4),(sortedGo parts n b out seen).length≤out.length+n
 | 0,_,_,_=>Nat.le_refl _
 | n+1,b,out,seen=>by
   unfold sortedGo;split
   ·have:=sortedGo_len parts n (b+1) out seen;omega
   ·split
    ·rename_i p _;have:=sortedGo_len parts n (b+1) (out++[p]) (seen.or p);simp at this;omega
    ·have:=sortedGo_len parts n (b+1) out seen;omega
theorem sortedGo_cover {parts:List S4}(hc:∀b,b<256→∃p∈parts,p.has b=true):∀(n b:Nat) (out:List S4) (seen:S4),b+n=256 →
  (∀c,seen.has c=true→∃p∈out,p.has c=true)→(∀c,c<b→∃p∈out,p.has c=true)→∀c,c<256→∃p∈sortedGo parts n b out seen,p.has c=true
 | 0,b,out,seen,hb,_,h2,c,hcc=>h2 c (by omega)
 | n+1,b,out,seen,hb,h1,h2,c,hcc=>by
   unfold sortedGo;split
   ·rename_i hs;refine sortedGo_cover hc n (b+1) out seen (by omega) h1 (fun c hc' => ?_) c hcc;by_cases e:c=b
    ·subst e;exact h1 c hs
    ·exact h2 c (by omega)
   ·split
    ·rename_i p hp;refine sortedGo_cover hc n (b+1) _ _ (by omega) (fun c hs => ?_) (fun c hc' => ?_) c hcc
     ·rw[S4.has_or,Bool.or_eq_true]at hs;rcases hs with hs|hs
      ·obtain⟨q,hq,h⟩:=h1 c hs;exact⟨q,List.mem_append_left _ hq,h⟩
      ·exact⟨p,by simp,hs⟩
     ·by_cases e:c=b
      ·subst e;exact⟨p,by simp,by simpa using List.find?_some hp⟩
      ·obtain⟨q,hq,h⟩:=h2 c (by omega);exact⟨q,List.mem_append_left _ hq,h⟩
    ·rename_i hp;obtain⟨q,hq,h⟩:=hc b (by omega);have:=List.find?_eq_none.1 hp q hq;simp[h]at this
theorem refine_cover (l:List S4)(c:Nat)(hc:c<256):∃p∈refine l,p.has c=true:=
 sortedGo_cover (fun b _=>refineAll_cover b l [S4.all] ⟨S4.all,by simp,S4.has_all b⟩) 256 0 [] S4.zero rfl (fun c h=>by rw[S4.has_zero]at h;cases h) (fun c h=>by omega) c hc
theorem refine_len (l:List S4):(refine l).length≤256:=by have:=sortedGo_len (l.foldl refineStep [S4.all]) 256 0 [] S4.zero;simpa [refine,sortedParts] using this
theorem refine_pos (l:List S4):0<(refine l).length:=by obtain⟨p,hp,_⟩:=refine_cover l 0 (by omega);exact List.length_pos_of_mem hp
theorem leastFrom_spec (s:S4):∀(n b:Nat),(∃c,b≤c∧c<b+n∧s.has c=true)→∃m,s.leastFrom n b=some m∧b≤m∧m<b+n∧s.has m=true∧∀c,b≤c→c<m→s.has c=false
 | 0,b,⟨c,h1,h2,_⟩=>by omega
 | n+1,b,⟨c,h1,h2,h3⟩=>by
   unfold S4.leastFrom;by_cases hb:s.has b=true
   ·rw[if_pos hb];exact⟨b,rfl,by omega,by omega,hb,fun c h1 h2=>by omega⟩
   ·rw[if_neg hb];obtain⟨m,e1,e2,e3,e4,e5⟩:=leastFrom_spec s n (b+1) ⟨c,by
     by_cases e:c=b
     ·subst e;exact absurd h3 hb
     ·omega,by omega,h3⟩
    refine⟨m,e1,by omega,by omega,e4,fun c h1 h2 => ?_⟩;by_cases e:c=b
    ·subst e;simpa using hb
    ·exact e5 c (by omega) h2
theorem least_spec {s:S4}(h:∃c,c<256∧s.has c=true):∃m,s.least=some m∧m<256∧s.has m=true∧∀c,c<m→s.has c=false:=by obtain⟨c,h1,h2⟩:=h;obtain⟨m,e1,_,e3,e4,e5⟩:=leastFrom_spec s 256 0 ⟨c,by omega,by omega,h2⟩;exact⟨m,e1,by omega,e4,fun c h=>e5 c (by omega) h⟩
theorem findKey_spec {k:List UInt8}:∀ {l:List R} {i q:Nat},findKey k l i=some q→i≤q∧∃h:q-i<l.length,key l[q-i]=k
 | r::l,i,q,h=>by
   unfold findKey at h;split at h
   ·cases h;exact⟨Nat.le_refl _,by simp,by simpa⟩
   ·obtain⟨h1,h2,h3⟩:=findKey_spec h;refine⟨by omega,by simp;omega,?_⟩;have e:q-i=(q-(i+1))+1:=by omega
    simp only[e,List.getElem_cons_succ];exact h3
theorem findKey_none {k:List UInt8}:∀ {l:List R} {i:Nat},findKey k l i=none→∀x∈l,key x≠k
 | [],_,_,x,hx=>by cases hx
 | r::l,i,h,x,hx=>by
   unfold findKey at h;split at h
   ·cases h
   ·rcases List.mem_cons.1 hx with rfl|hx
    ·assumption
    ·exact findKey_none h x hx
theorem findKey_some {k:List UInt8}:∀ {l:List R} {i:Nat},(∃x∈l,key x=k)→∃q,findKey k l i=some q
 | [],_,⟨x,hx,_⟩=>by cases hx
 | r::l,i,⟨x,hx,hk⟩=>by
   unfold findKey;split
   ·exact⟨_,rfl⟩
   ·rcases List.mem_cons.1 hx with rfl|hx
    ·contradiction
    ·exact findKey_some ⟨x,hx,hk⟩
structure States (all:List R):Prop where
 size:∀x∈all,Pv.size x≤most
 nodup:(all.map key).Nodup
theorem States.nil:States []:=⟨by simp,by simp⟩
theorem stateOf_spec {x:R}{all all':List R}{l l' q:Nat}(h:stateOf x all l=some (all',l',q))(hS:States all):
  States all'∧(∃ys,all'=all++ys∧∀y∈ys,y=x)∧all'.length+l'=all.length+l∧∃hq:q<all'.length,key all'[q]=key x:=by
 unfold stateOf at h;split at h
 ·rename_i q' hf;cases h;obtain⟨_,h2,h3⟩:=findKey_spec hf;exact⟨hS,⟨[],by simp,by simp⟩,rfl,by simpa using h2,by simpa using h3⟩
 ·rename_i hf;split at h
  ·cases h
  ·split at h
   ·cases h
   ·cases h;refine⟨⟨fun y hy => ?_,?_⟩,⟨[x],rfl,by simp⟩,by simp;omega,by simp,by simp⟩
    ·rcases List.mem_append.1 hy with hy|hy
     ·exact hS.size y hy
     ·rw[List.mem_singleton.1 hy];omega
    ·rw[List.map_append,List.nodup_append];refine⟨hS.nodup,by simp,fun a ha b hb => ?_⟩;obtain⟨y,hy,rfl⟩:=List.mem_map.1 ha;simp at hb;subst hb;exact findKey_none hf y hy
theorem buildRow_spec {x:R}:∀ {hs:List UInt8} {all all':List R} {l l':Nat} {row row':List Nat},buildRow x hs all l row=(l',some (all',row'))→States all →
  States all'∧(∃ys,all'=all++ys∧∀y∈ys,∃h∈hs,y=by_ h x)∧all'.length+l'=all.length+l ∧
  ∃ext,row'=row++ext∧ext.length=hs.length∧∀i (h1:i<ext.length) (h2:i<hs.length),∃hq:ext[i]<all'.length,key all'[ext[i]]=key (by_ hs[i] x)
 | [],all,all',l,l',row,row',h,hS=>by
   unfold buildRow at h;cases h;exact⟨hS,⟨[],by simp,by simp⟩,rfl,[],by simp,rfl,fun i h _=>by cases h⟩
 | b::hs,all,all',l,l',row,row',h,hS=>by
   unfold buildRow at h;split at h
   ·cases h
   ·rename_i all1 l1 q hst;obtain⟨s1,⟨ys1,e1,y1⟩,n1,q1,k1⟩:=stateOf_spec hst hS;obtain⟨s2,⟨ys2,e2,y2⟩,n2,ext,e3,e4,e5⟩:=buildRow_spec h s1;refine⟨s2,⟨ys1++ys2,by rw[e2,e1,List.append_assoc],fun y hy => ?_⟩,by omega,q::ext,by rw[e3];simp,by simp[e4],fun i h1 h2 => ?_⟩
    ·rcases List.mem_append.1 hy with hy|hy
     ·exact⟨b,by simp,y1 y hy⟩
     ·obtain⟨h,hh,e⟩:=y2 y hy;exact⟨h,by simp[hh],e⟩
    ·cases i with
     | zero=>
       simp only[List.getElem_cons_zero];refine⟨by rw[e2];simp;omega,?_⟩;simp only[e2,List.getElem_append_left q1];exact k1
     | succ i=>simpa using e5 i (by simpa using h1) (by simpa using h2)
theorem buildRow_left {x:R}:∀ {hs:List UInt8} {all:List R} {l:Nat} {row:List Nat},(buildRow x hs all l row).1≤l
 | [],_,_,_=>Nat.le_refl _
 | b::hs,all,l,row=>by
   unfold buildRow;split
   ·exact Nat.le_refl _
   ·rename_i all1 l1 q hst;have:=buildRow_left (x:=x) (hs:=hs) (all:=all1) (l:=l1) (row:=row++[q]);have:l1≤l:=by
     unfold stateOf at hst;split at hst
     ·cases hst;omega
     ·split at hst
      ·cases hst
      ·split at hst
       ·cases hst
       ·cases hst;omega
    omega
def RowOk (heads:List UInt8)(all:List R)(x:R)(row:List Nat):Prop:=
 row.length=heads.length∧∀i (h1:i<row.length) (h2:i<heads.length),∃hq:row[i]<all.length,key all[row[i]]=key (by_ heads[i] x)
theorem RowOk.more {heads:List UInt8}{all:List R}{x:R}{row:List Nat}(h:RowOk heads all x row)(ys:List R):RowOk heads (all++ys) x row:=
 ⟨h.1,fun i h1 h2=>let ⟨hq,hk⟩:=h.2 i h1 h2;⟨by simp;omega,by rw[List.getElem_append_left hq];exact hk⟩⟩
inductive Reach (r:R):R→Prop where
 | refl:Reach r r
 | step {x:R} (h:UInt8):Reach r x→Reach r (by_ h x)
structure GoOk (r:R)(heads:List UInt8)(q:Nat)(all:List R)(next:List (List Nat)):Prop where
 st:States all
 first:∃t,all=r::t
 le:q≤all.length
 len:next.length=q
 row:∀k (h1:k<next.length) (h2:k<all.length),RowOk heads all all[k] next[k]
 reach:∀x∈all,Reach r x
theorem buildGo_spec {r:R}{heads:List UInt8}:∀ {f q:Nat} {all all':List R} {l l':Nat} {next next':List (List Nat)},buildGo heads f q all l next=(l',some (all',next'))→GoOk r heads q all next →
  GoOk r heads all'.length all' next'∧all'.length+l'=all.length+l
 | 0,_,_,_,_,_,_,_,h,_=>by cases h
 | f+1,q,all,all',l,l',next,next',h,hG=>by
   unfold buildGo at h;split at h
   ·rename_i hq;cases h;have hq':all.length≤q:=by simpa using hq
    have:=hG.le;have e:q=all.length:=by omega
    subst e;exact⟨hG,rfl⟩
   ·rename_i x hx;obtain⟨hxl,hxe⟩:=List.getElem?_eq_some_iff.1 hx;split at h
    ·cases h
    ·rename_i l1 all1 row1 hb;obtain⟨s1,⟨ys,e1,y1⟩,n1,ext,e2,e3,e4⟩:=buildRow_spec hb hG.st;rw[List.nil_append]at e2;subst e2;subst e1;obtain⟨t,ht⟩:=hG.first;have hlen:=hG.len;obtain⟨h1,h2⟩:=buildGo_spec (r:=r) h {
      st:=s1
      first:=⟨t++ys,by rw[ht];rfl⟩
      le:=by simp;omega
      len:=by simp[hlen]
      row:=fun k k1 k2=>by
       by_cases e:k=q
       ·subst e;rw[List.getElem_append_left hxl,List.getElem_append_right (by omega),hxe];simp only[hlen,Nat.sub_self,List.getElem_cons_zero];exact⟨e3,e4⟩
       ·simp at k1;rw[List.getElem_append_left (by omega),List.getElem_append_left (by omega)];exact(hG.row k (by omega) (by omega)).more ys
      reach:=fun y hy=>by
       rcases List.mem_append.1 hy with hy|hy
       ·exact hG.reach y hy
       ·obtain⟨b,_,rfl⟩:=y1 y hy;exact .step b (hG.reach x (List.mem_of_getElem? hx)) }
     exact⟨h1,by omega⟩
theorem build_spec {r:R}{l l':Nat}{D:Dfa}(h:build r l=(l',some D)):∃all,D.parts=refine (allSets r)∧D.yes=all.map null∧GoOk r D.heads all.length all D.next∧all.length+l'=l:=by
 unfold build at h;simp only at h;split at h
 ·cases h
 ·rename_i all0 l0 q0 hst;obtain⟨s1,⟨ys,e1,y1⟩,n1,q1,k1⟩:=stateOf_spec hst States.nil;split at h
  ·cases h
  ·rename_i l1 all1 next1 hg;cases h;have hall:all0=[r]:=by
    unfold stateOf at hst;simp only[findKey]at hst;split at hst
    ·cases hst
    ·split at hst
     ·cases hst
     ·cases hst;rfl
   subst hall;obtain⟨h1,h2⟩:=buildGo_spec (r:=r) hg { st:=s1,first:=⟨[],rfl⟩,le:=Nat.zero_le _,len:=rfl,row:=(fun k h _=>by cases h),reach:=fun x hx=>by rw[List.mem_singleton.1 hx];exact .refl };refine⟨all1,rfl,rfl,h1,?_⟩;simp at n1;simp at h2;omega
theorem build_ok {r:R}{l l':Nat}{D:Dfa}(h:build r l=(l',some D)):D.Ok∧D.yes.length+l'=l:=by
 obtain⟨all,hp,hy,hG,hl⟩:=build_spec h;have hlen:D.yes.length=all.length:=by rw[hy];simp
 obtain⟨t,ht⟩:=hG.first;refine⟨⟨by rw[hG.len,hlen],by rw[hlen,ht];simp,fun row hrow => ?_,by rw[hp];exact refine_pos _,by rw[hp];exact refine_len _⟩,by omega⟩;obtain⟨k,hk,rfl⟩:=List.getElem_of_mem hrow;have hR:=hG.row k hk (by have:=hG.len;omega);refine⟨by rw[hR.1];simp[Dfa.heads],fun to hto => ?_⟩;obtain⟨i,hi,rfl⟩:=List.getElem_of_mem hto;obtain⟨hq,_⟩:=hR.2 i hi (by rw[←hR.1];exact hi);omega
theorem Dfa.Ok.at_lt {D:Dfa}(h:D.Ok)(b:Nat):D.at_ b<D.parts.length:=by
 have h1:=h.pp;have h2:=h.p256;unfold Dfa.at_ indexOf;have:∀(l:List (S4 × Nat)) (k m:Nat),k<m→(∀x∈l,x.2<m)→l.foldl (fun k x=>if x.1.has b then x.2 else k) k<m:=by
  intro l;induction l with
  | nil=>intro k m hk _;exact hk
  | cons a l ih=>
    intro k m hk hl;rw[List.foldl_cons];refine ih _ m ?_ fun x hx=>hl x (by simp[hx])
    split
    ·exact hl a (by simp)
    ·exact hk
 have h3:=this D.parts.zipIdx 0 D.parts.length h1 (fun x hx=>by have:=List.snd_lt_of_mem_zipIdx hx;omega);omega
theorem Dfa.Ok.step_lt {D:Dfa}(h:D.Ok){q:Nat}(hq:q<D.yes.length)(b:Nat):D.step q b<D.yes.length:=by
 have hq':q<D.next.length:=by rw[h.len];exact hq
 have hr:=h.row D.next[q] (List.getElem_mem hq');have ha:=h.at_lt b;unfold Dfa.step;have e1:D.next.getD q []=D.next[q]:=by rw[List.getD_eq_getElem?_getD,List.getElem?_eq_getElem hq'];rfl
 rw[e1,List.getD_eq_getElem?_getD,List.getElem?_eq_getElem (by rw[hr.1];exact ha),Option.getD_some];exact hr.2 _ (List.getElem_mem _)
theorem Dfa.Ok.run_lt {D:Dfa}(h:D.Ok):∀(s:List UInt8) {q:Nat},q<D.yes.length→D.run q s<D.yes.length
 | [],_,hq=>hq
 | b::s,_,hq=>Dfa.Ok.run_lt h s (h.step_lt hq b.toNat)
end Pv
namespace Pv
structure Closed (P:S4→Prop):Prop where
 all:P S4.all
 or:∀ {s t},P s→P t→P (s.or t)
 and:∀ {s t},P s→P t→P (s.and t)
 minus:∀ {s t},P s→P t→P (s.minus t)
def AllP (P:S4→Prop)(r:R):Prop:=∀s∈allSets r,P s
def AllPs (P:S4→Prop)(l:List R):Prop:=∀r∈l,AllP P r
variable {P:S4→Prop}
theorem allSetsL_flat:∀l:List R,allSetsL l=l.flatMap allSets
 | []=>rfl
 | r::l=>by rw[allSetsL,allSetsL_flat l,List.flatMap_cons]
theorem allP_mk {op:Nat}{s:S4}{ks:List R}:AllP P (.mk op s ks)↔if op=2 then P s else AllPs P ks:=by
 unfold AllP;rw[allSets];split
 ·simp
 ·rw[allSetsL_flat];constructor
  ·intro h r hr x hx;exact h x (List.mem_flatMap.2 ⟨r,hr,hx⟩)
  ·intro h x hx;obtain⟨r,hr,hx⟩:=List.mem_flatMap.1 hx;exact h r hr x hx
theorem allP_set {r:R}(h:AllP P r)(h2:r.op=2):P r.set:=by
 cases r with
 | mk op s ks=>rw[allP_mk]at h;simp only[R.op]at h2;rw[if_pos h2]at h;exact h
theorem allP_kids {r:R}(h:AllP P r)(h2:r.op≠2):AllPs P r.kids:=by
 cases r with
 | mk op s ks=>rw[allP_mk]at h;simp only[R.op]at h2;rw[if_neg h2]at h;exact h
theorem allPs_cons {r:R}{l:List R}:AllPs P (r::l)↔AllP P r∧AllPs P l:=by unfold AllPs;simp
theorem allPs_append {l m:List R}(h:AllPs P l)(k:AllPs P m):AllPs P (l++m):=fun r hr=>by
 rcases List.mem_append.1 hr with hr|hr
 ·exact h r hr
 ·exact k r hr
theorem allPs_sub {l m:List R}(h:AllPs P l)(k:∀r∈m,r∈l):AllPs P m:=fun r hr=>h r (k r hr)
theorem allPs_nil:AllPs P []:=fun _ h=>by cases h
theorem allP_nothing:AllP P nothing:=by unfold nothing;rw[allP_mk];simp[AllPs]
theorem allP_empty:AllP P empty:=by unfold empty;rw[allP_mk];simp[AllPs]
theorem allP_one {s:S4}(h:P s):AllP P (one s):=by
 unfold one;split
 ·exact allP_nothing
 ·rw[allP_mk,if_pos rfl];exact h
theorem allPs_flat {op:Nat}(h2:op≠2){l:List R}(h:AllPs P l):AllPs P (flat op l):=by
 intro r hr;unfold flat at hr;obtain⟨x,hx,hr⟩:=List.mem_flatMap.1 hr;split at hr
 ·rename_i e;exact allP_kids (h x hx) (by omega) r hr
 ·rw[List.mem_singleton.1 hr];exact h x hx
theorem allP_thenOf {l:List R}(h:AllPs P l):AllP P (thenOf l):=by
 unfold thenOf;split
 ·exact allP_nothing
 ·split
  ·exact allP_empty
  ·exact h _ (by simp)
  ·rw[allP_mk];simpa using h
theorem allP_cat {l:List R}(h:AllPs P l):AllP P (cat l):=by unfold cat;exact allP_thenOf (allPs_sub (allPs_flat (by omega) h) fun r hr=>(List.mem_filter.1 hr).1)
theorem allP_many {r:R}(h:AllP P r):AllP P (many r):=by
 unfold many;split
 ·exact allP_empty
 ·split
  ·exact h
  ·rw[allP_mk];simp;exact allPs_cons.2 ⟨h,allPs_nil⟩
theorem mem_ins {r x:R}:∀ {l:List R},x∈ins r l→x=r∨x∈l
 | [],h=>by simp[ins]at h;exact .inl h
 | y::l,h=>by
   unfold ins at h;split at h
   ·rcases List.mem_cons.1 h with h|h
    ·exact .inr (by simp[h])
    ·rcases mem_ins h with h|h
     ·exact .inl h
     ·exact .inr (by simp[h])
   ·rcases List.mem_cons.1 h with h|h
    ·exact .inl h
    ·exact .inr h
theorem mem_isort {x:R}:∀ {l:List R},x∈isort l→x∈l
 | [],h=>h
 | r::l,h=>by
   unfold isort at h;rcases mem_ins h with h|h
   ·simp[h]
   ·simp[mem_isort h]
theorem mem_compact {x:R}:∀ {l:List R},x∈compact l→x∈l
 | [],h=>h
 | r::l,h=>by
   unfold compact at h;split at h
   ·rename_i e;simp at h;simp[h]
   ·rename_i y m e;split at h
    ·rcases List.mem_cons.1 h with h|h
     ·simp[h]
     ·exact List.mem_cons_of_mem _ (mem_compact (by rw[e];simp[h]))
    ·rcases List.mem_cons.1 h with h|h
     ·simp[h]
     ·exact List.mem_cons_of_mem _ (mem_compact (by rw[e];exact h))
theorem mem_unique {x:R}{l:List R}(h:x∈unique l):x∈l:=mem_isort (mem_compact h)
theorem allPs_joinGo {f:S4→S4→S4}(hf:∀ {s t},P s→P t→P (f s t)):∀ {l out:List R} {o:Option R},AllPs P l→AllPs P out→(∀x,o=some x→AllP P x∧x.op=2)→AllPs P (joinGo f l out o)
 | [],out,o,_,ho,hx=>by
   unfold joinGo;refine allPs_sub (allPs_append ho (m:=o.toList) fun r hr => ?_) fun r hr=>mem_unique hr
   cases o with
   | none=>cases hr
   | some x=>simp at hr;subst hr;exact(hx _ rfl).1
 | r::l,out,o,hl,ho,hx=>by
   obtain⟨hr,hl⟩:=allPs_cons.1 hl;unfold joinGo;split
   ·rename_i h2;cases o with
    | none=>exact allPs_joinGo hf hl ho fun x e=>by cases e;exact⟨hr,h2⟩
    | some x=>
      have hp:=hf (allP_set (hx x rfl).1 (hx x rfl).2) (allP_set hr h2);simp only;split
      ·exact allPs_append ho (allPs_cons.2 ⟨allP_one hp,allPs_nil⟩)
      ·rename_i e0;refine allPs_joinGo hf hl ho fun y e => ?_
       cases e;refine⟨allP_one hp,?_⟩;revert e0;unfold one;split
       ·intro e0;exact absurd rfl e0
       ·intro _;rfl
   ·exact allPs_joinGo hf hl (allPs_append ho (allPs_cons.2 ⟨hr,allPs_nil⟩)) hx
theorem allP_any (hC:Closed P){l:List R}(h:AllPs P l):AllP P (any l):=by
 unfold any;have h1:AllPs P ((join 4 l S4.or).filter fun r => !(r.op==0)):=
  allPs_sub (allPs_joinGo (fun a b=>hC.or a b) (allPs_flat (by omega) h) allPs_nil (fun _ e=>by cases e)) fun r hr=>(List.mem_filter.1 hr).1
 unfold anyOf;split
 ·exact allP_nothing
 ·rename_i e;exact h1 _ (by rw[e];simp)
 ·rw[allP_mk];simpa using h1
theorem allPs_list2 {a b:R}(ha:AllP P a)(hb:AllP P b):AllPs P [a,b]:=allPs_cons.2 ⟨ha,allPs_cons.2 ⟨hb,allPs_nil⟩⟩
end Pv
