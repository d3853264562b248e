/- CanonMakes returns true. -/
import Derived.Test.YtinpjfnnfkjbmaaGreatDoorKm05
import Derived.Test.YtinpjfnnfkjbmaaGreatDoorKm36
import Derived.Test.YtinpjfnnfkjbmaaGreatDoorKm46
import Derived.Test.YtinpjfnnfkjbmaaGreatDoorKm49
import Derived.Test.YtinpjfnnfkjbmaaGreatDoorKm51
import Derived.Test.YtinpjfnnfkjbmaaGreatDoorKm34
import Derived.Deep.DeepCutAuto
import Derived.ChangeArms
import Derived.DataReads
import Derived.Test.YtinpjfnnfkjbmaaGreatDoorKm17
import Derived.Test.YtinpjfnnfkjbmaaGreatDoorRows
import Derived.ProofKit
import Derived.LaidMore
import Derived.ChangeMaps5
import Derived.OpenShut
import Derived.Stop.Joined
set_option linter.all false
namespace Pv
theorem conds_five {t:T}{k l:R × R}{L:Nat}(h:(conds t k l { left:=L }).1.fault.e=5):(conds t k l { left:=L }).1.fault={ e:=5 }:=by
 have h2:∀ {e:Nat} (_:e≠5) {v:Bool} {r:Nat × Option (Option Two)} {M:Nat},(({ left:=M }:Ck).two e t v r).1.fault.e=5→(({ left:=M }:Ck).two e t v r).1.fault={ e:=5 }:=by
  intro e he v r M h;obtain⟨l',_|_|w⟩:=r
  ·rfl
  ·cases h
  ·exact absurd h he
 have hb:∀ {a:Ck × Bool} {g:Ck→Ck × Bool},(a.2=true→a.1.fault={})→(a.1.fault.e=5→a.1.fault={ e:=5 })→(∀M,(g { left:=M }).1.fault.e=5→(g { left:=M }).1.fault={ e:=5 })→(Ck.both a g).1.fault.e=5→(Ck.both a g).1.fault={ e:=5 }:=by
  intro a g ha ha5 hg h;unfold Ck.both at h ⊢;split
  ·rename_i e;rw[if_pos e]at h;rw[Ck.eta (ha e)]at h ⊢;exact hg _ h
  ·rename_i e;rw[if_neg e]at h;exact ha5 h
 unfold conds at h ⊢;split
 ·rename_i e1;rw[if_pos e1]at h;cases h
 ·rename_i e1;rw[if_neg e1]at h;split
  ·rename_i e2;rw[if_pos e2]at h;cases hm:matchR t.text (t.re.getD nothing) with
   | true=>simp[Ck.within,Ck.ok,hm]at h
   | false=>simp[Ck.within,Ck.ok,hm,Ck.fail]at h
  ·rename_i e2;rw[if_neg e2]at h;split
   ·rename_i e3;rw[if_pos e3]at h;exact hb (fun h=>two_ok (r:=ambigIter k.1 L) h) (fun h=>h2 (by decide) (r:=ambigIter k.1 L) h) (fun M h=>h2 (by decide) (r:=ambigIter k.2 M) h) h
   ·rename_i e3;rw[if_neg e3]at h;split
    ·rename_i e4;rw[if_pos e4]at h;change (({ left:=L }:Ck).told 22 t false (shared k.1 l.1 L)).1.fault.e=5 at h;change (({ left:=L }:Ck).told 22 t false (shared k.1 l.1 L)).1.fault={ e:=5 };generalize shared k.1 l.1 L=r at h ⊢;obtain⟨l',_|_|w⟩:=r
     ·rfl
     ·cases h
     ·cases h
    ·rename_i e4;rw[if_neg e4]at h;exact hb (fun h=>two_ok (r:=ambigCat k.1 l.1 L) h) (fun h=>h2 (by decide) (r:=ambigCat k.1 l.1 L) h) (fun M h=>h2 (by decide) (r:=ambigCat k.2 l.2 M) h) h
theorem canonEnd_five {t:T}{kids:List C}{l:Nat}(h:(canonEnd t kids { left:=l }).1.fault.e=5):(canonEnd t kids { left:=l }).1.fault={ e:=5 }:=by
 cases hb:(conds t (nth kids 0) (nth kids 1) { left:=l }).2 with
 | false=>
   rw[canonEnd_false hb]at h ⊢;exact conds_five h
 | true=>
   have hs:∀(l:Nat) (r:R),(({ left:=l }:Ck).side r).1.fault={}∨(({ left:=l }:Ck).side r).1.fault={ e:=5 }:=fun l r=>by
    have hq:({ left:=l }:Ck).side r=(match Pv.side r l with|(l,none)=>(({ left:=l,fault:={ e:=5 } }:Ck),none)|(l,some s)=>(({ left:=l }:Ck),some s)):=rfl;rw[hq];generalize Pv.side r l=q;obtain⟨l',_|o⟩:=q
    ·exact .inr rfl
    ·exact .inl rfl
   have h0:=Ck.eta (conds_ok hb);unfold canonEnd at h ⊢;rw[ctypes_eq]at h ⊢;generalize conds t (nth kids 0) (nth kids 1) { left:=l }=q at h h0 hb ⊢;obtain⟨c,b⟩:=q;simp only at hb h0;subst hb;rw[h0]at h ⊢;simp only at h ⊢;generalize (tyEnd t (nth kids 0) (nth kids 1)).1=w at h ⊢;generalize (tyEnd t (nth kids 0) (nth kids 1)).2=k at h ⊢;generalize c.left=L at h ⊢
   have hk:((({ left:=L }:Ck).side w).1.side k).1.fault={}∨((({ left:=L }:Ck).side w).1.side k).1.fault={ e:=5 }:=by
    rcases hs L w with e|e
    ·rw[Ck.eta e];exact hs _ k
    ·right;generalize ({ left:=L }:Ck).side w=q at e ⊢;unfold Ck.side;rw[if_neg (by unfold Ck.ok;rw[e];decide)];exact e
   split at h <;>
   ·simp only at h;rcases hk with e|e
    ·rw[e]at h;cases h
    ·first|exact e|(split<;>exact e)
mutual
theorem canonOf_five:∀ {t:T} {L:Nat},CG t→(canonOf t { left:=L }).1.fault.e=5→(canonOf t { left:=L }).1.fault={ e:=5 }
 | .mk op a n r tx bk ks,L,hg,h=>by
   have ho:=hg.open_;have hk:CGs ks:=ho.2.2.2.2.2.2;have hsh:shapedOf op r.isSome ks.length=true:=ho.2.1;have hco:isCanonOp op=true:=ho.1;have hq:canonOf (.mk op a n r tx bk ks) { left:=L }=(match canonsOf ks { left:=L } with
    | (c,none)=>(c,none)
    | (c,some kids)=>canonEnd (.mk op a n r tx bk ks) kids c):=by
    rw[canonOf,hsh,hco];rfl
   have hn:=canonsOf_five (ts:=ks) (L:=L) hk;rw[hq]at h ⊢;rcases hc:canonsOf ks { left:=L } with⟨c,_|kids⟩
   ·rw[hc]at hn h;exact hn h
   ·rw[hc]at h;simp only at h ⊢;rw[Ck.eta (canonsOf_some hc)]at h ⊢;exact canonEnd_five h
theorem canonsOf_five:∀ {ts:List T} {L:Nat},CGs ts→(canonsOf ts { left:=L }).1.fault.e=5→(canonsOf ts { left:=L }).1.fault={ e:=5 }
 | [],L,_,h=>by cases h
 | t::ts,L,hg,h=>by
   unfold CGs at hg;have hn:=canonOf_five (L:=L) hg.1;unfold canonsOf at h ⊢;rcases hq:canonOf t { left:=L } with⟨c,_|k⟩
   ·rw[hq]at hn h;exact hn h
   ·have hcf:=canonOf_some hq;rw[hq]at h;simp only at h ⊢;rw[Ck.eta hcf]at h ⊢;have h4:=canonsOf_five (ts:=ts) (L:=c.left) hg.2;rcases hq2:canonsOf ts { left:=c.left } with⟨c2,_|l⟩
    ·rw[hq2]at h4 h;exact h4 h
    ·rw[hq2]at h4 h;exact h4 h
end
end Pv
namespace Go.Proofs.YtinpjfnnfkjbmaaGreatDoor
open Go.RowKit Go.Maps
open _root_.Pv (P10)
theorem mkc_any (H:Nat→Prop)(t:Pv.T)(tb bb l u:Nat)(w:World)(hg:Pv.CG t)(hz:Pv.tsize t<100000)(hat:TAt H w t tb)(hT:Tab w)(hbud:BudAt w bb l u)(hbb:H bb)(hH:∀h,H h→h<w.heap.size)(hlu:l+u<274877906944):
  Calls Tryz.prog 17 #[Ptr tb,Ptr bb] w (MkW H (Pv.canonOf t { left:=l }) (l+u) bb w):=
 make_all (· ∈ exC) (fun r c hr=>Pv.closedL_by exC_closed c hr) (fun r hr=>by have:=exC_size r hr;omega) (fun t=>Pv.CG t∧Pv.tsize t<100000)
  (fun t h=>by have ho:=h.1.open_;have h5:=h.1.op5;have h6:=Pv.len_txL _ ho.2.2.2.1;have h7:=tsize_eq t;refine⟨by omega,by omega,fun r hr=>exL_sub r (ho.2.2.1 r hr),by omega,fun x hx=>⟨ho.2.2.2.2.2.2.mem x hx,?_⟩⟩;obtain⟨i,hi,rfl⟩:=List.getElem_of_mem hx;have:=Pv.tsizes_get hi;have:=h.2;omega)
  (fun t l c C h hc=>kid_of h.1 h.2 hc) (fun t done l c x y h hd hc=>size_ctypes h.1 hd hc) (fun t l h hn=>Pv.canonOf_bad h.1 hn) H t tb bb l u w ⟨hg,hz⟩ hat hT hbud hbb hH hlu
theorem judg_any (H:Nat→Prop)(t:Pv.T)(tb bb l u:Nat)(w:World)(hg:Pv.CG t)(hz:Pv.tsize t<100000)(hat:TAt H w t tb)(hT:Tab w)(hbud:BudAt w bb l u)(hbb:H bb)(hH:∀h,H h→h<w.heap.size)(hlu:l+u<274877906944):
  Calls Tryz.prog 25 #[Ptr tb,Ptr bb] w (JudW bb (l+u) (Pv.judge t { left:=l }) w):=
 judge17_any (· ∈ exC) (fun r c hr=>Pv.closedL_by exC_closed c hr) (fun r hr=>by have:=exC_size r hr;omega) (fun r hr=>exL_sub r hr) _ H t tb bb l u w (Nat.le_refl _) hz hg hat hT hbud hbb hH hlu
set_option maxRecDepth 20000 in
set_option maxHeartbeats 4000000 in
theorem makes_law (p:P10)(v:Value)(w:World)(hT:Tab w)(hv:PlV w p v):Calls Tryz.prog 7 #[v] w fun e w'=>e = .returned (.bool true)∧Below w.heap.size w w':=by
 have HV:=Hy hv;obtain⟨a,c,b',o',rfl,ha,hkl,hks⟩:=hv;have HT:=Hy hT;clear ha hks hT;go_enter Tryz.func7,Tryz.ntmps7;go_wp2_with fail;obtain⟨pb,hpb⟩:∃n,w.heap.size=n:=⟨_,rfl⟩
 obtain⟨w0,hw0⟩:∃w1,w.alloc (.cells #[.int .i64 p.op,.int .i64 p.w,.int .i64 p.n,.slice a p.kids.length c] 24)=w1:=⟨_,rfl⟩
 have hb0:Below w.heap.size w w0:=by rw[←hw0];exact(Below.refl _ _).alloc (Nat.le_refl _) _
 have hp0:w0.heap[pb]?=some (.cells #[.int .i64 p.op,.int .i64 p.w,.int .i64 p.n,.slice a p.kids.length c] 24):=by rw[←hw0];exact blk_new hpb
 rw[hpb,hw0];clear hw0 hpb;refine(head_any w0 (HT.out.later hb0)).mono ?_;rintro e w1 ⟨rfl,hk1⟩;have hb01:Below w0.heap.size w0 w1:=hk1.below (Nat.le_refl _) (fun _ h=>h.elim);have hp1:=later_blk hb01 hp0;have HB:=Hy (hb0.trans (hb01.mono hb0.size));have HP:=Hy hp1;have p0:w1.cell? ⟨pb,0,none⟩=some (.int .i64 p.op):=cB (o:=0) hp1 rfl
 have p1:w1.cell? ⟨pb,1,none⟩=some (.int .i64 p.w):=cB (o:=1) hp1 rfl;have p2:w1.cell? ⟨pb,2,none⟩=some (.int .i64 p.n):=cB (o:=2) hp1 rfl;have p3:w1.cell? ⟨pb,3,none⟩=some (.slice a p.kids.length c):=cB (o:=3) hp1 rfl;clear hk1 hb01 hp1 hb0 hp0;go_wp2_with fail;have hfew:=fewK_any p _ w1 (HV.out.later HB.out);by_cases hf:P10.cntK p 0≤10
 ·rw[decide_eq_true hf]at hfew;have HFew:=Hy hfew;have hn10:P10.nodes p≤10:=Nat.le_trans (P10.nodesK_le p 0 (by omega)) hf;clear hfew p0 p1 p2 p3 hf;refine HFew.out.mono ?_;rintro e w2 ⟨rfl,hb2⟩;replace HP:=Hy (later_blk hb2 HP.out);replace HB:=Hy (HB.out.trans (hb2.mono HB.out.size));clear hb2 HFew;go_upto_region 6 with fail
  obtain⟨ab,hab⟩:∃n,w2.heap.size=n:=⟨_,rfl⟩
  obtain⟨w3,hw3⟩:∃w3,w2.alloc (.cells #[.int .i64 0] 3)=w3:=⟨_,rfl⟩
  have hb3:Below w2.heap.size w2 w3:=by rw[←hw3];exact(Below.refl _ _).alloc (Nat.le_refl _) _
  have hx3:CtAt w3 ab 0:=by rw[←hw3];exact blk_new hab
  rw[hab,hw3];clear hw3;have hwab:w.heap.size≤ab:=by have:=HB.out.size;omega
  replace HP:=Hy (later_blk hb3 HP.out);replace HB:=Hy (HB.out.trans (hb3.mono HB.out.size));have HX3:=Hy hx3;clear hb3 hx3;have p0:w3.cell? ⟨pb,0,none⟩=some (.int .i64 p.op):=cB (o:=0) HP.out rfl;have p1:w3.cell? ⟨pb,1,none⟩=some (.int .i64 p.w):=cB (o:=1) HP.out rfl;have p2:w3.cell? ⟨pb,2,none⟩=some (.int .i64 p.n):=cB (o:=2) HP.out rfl
  have p3:w3.cell? ⟨pb,3,none⟩=some (.slice a p.kids.length c):=cB (o:=3) HP.out rfl;go_wp2_with fail;clear p0 p1 p2 p3;refine(make17_any (H:=(· = ab)) p _ ab 0 w3 (HV.out.later HB.out) HX3.out rfl (fun h e=>by rw[e];exact blk_lt HX3.out) (by omega)).mono ?_;rintro e w4 ⟨t,tb,hi,rfl,hg,hats,hsz,hat,_,_,hk4⟩;have hz:Pv.tsize t<100000:=by have:=needN_le p;omega
  have HG:=Hy hg;have HAts:=Hy hats;have HZ:=Hy hz;have HA:=Hy (hat.widen (H':=fun _=>False) fun _ h=>h.elim);replace HB:=Hy (HB.out.trans (hk4.below HB.out.size fun x e=>by rw[e];exact hwab));clear hg hats hsz hat hk4 HP HX3 hwab hz;go_wp2_with fail;refine(grant_any 100000 (by decide) w4).mono ?_;rintro e w5 ⟨rfl,hg5,hb5,hz5⟩;obtain⟨bb,hbb⟩:∃n,w4.heap.size=n:=⟨_,rfl⟩
  rw[hbb]at hg5 hz5 ⊢;have hA5:TAt (· = bb) w5 t tb:=(HA.out.widen (H':=(· = bb)) fun x e=> .inr (by rw[e];omega)).later hb5;have hwbb:w.heap.size≤bb:=by have:=HB.out.size;omega
  replace HB:=Hy (HB.out.trans (hb5.mono HB.out.size));have HA5:=Hy hA5;have HG5:=Hy hg5;clear hb5 hA5 hg5 HA hbb;go_wp2_with fail;have hmk:=mkc_any (· = bb) t tb bb 100000 0 w5 HG.out HZ.out HA5.out (HT.out.later HB.out) HG5.out rfl (fun h e=>by rw[e];exact hz5) (by decide);have hfive:=Pv.canonOf_five (L:=100000) HG.out;have hbad:=Pv.canonOf_bad (L:=100000) HG.out
  have hsome:=fun c x (h:Pv.canonOf t { left:=100000 }=(c,some x))=>And.intro (Pv.canonOf_some h) (Pv.canonOf_types h)
  have hjc:=fun h1 h2=>Pv.judge_canon (t:=t) (L:=100000) (m:=50000) HG.out h1 h2
  have hfact:=fun f h1 h2=>Pv.canon_fact (t:=t) (L:=100000) (f:=f) (by decide) HG.out HAts.out HZ.out h1 h2
  obtain⟨⟨ck,oc⟩,hq⟩:∃q,Pv.canonOf t { left:=100000 }=q:=⟨_,rfl⟩
  rw[hq]at hmk hfive hbad hjc;simp only[hq]at hsome hfact;have HFive:=Hy hfive;have HBad:=Hy hbad;have HSome:=Hy hsome;have HJc:=Hy hjc;have HFact:=Hy hfact;have HMk:=Hy hmk;clear hmk hfive hbad hsome hjc hfact hq;refine HMk.out.mono ?_;rintro e w6 ⟨hres,⟨u6,hb6,hu6⟩,hk6⟩;have HT5:=Hy (HT.out.later HB.out);have hn0:¬0=bb:=fun e=>HT5.out.bud HG5.out e.symm
  have HT6:=Hy (HT5.out.keep hk6 hn0);have HA6:=Hy (HA5.out.keep hk6);have HB6:=Hy (HB.out.trans (hk6.below HB.out.size fun x e=>by rw[e];exact hwbb));have HU6:=Hy hb6;have hsz6:=hk6.size;have hu6':u6≤100000:=by simp only at hu6;omega
  clear HT5 HA5 HB HG5 hk6 hb6 HMk hu6;obtain⟨cv,f,hev,hcv⟩:∃(cv:Value) (f:Pv.Fault),e = .returned (.tuple #[cv,FV f])∧((oc=none∧cv = .pointer none∧f=ck.fault)∨(∃x k,oc=some x∧cv=Ptr k∧f={}∧CAt (· = bb) w6 x k)):=by
   cases oc with
   | none=>exact⟨_,_,hres,.inl ⟨rfl,rfl,rfl⟩⟩
   | some x=>
     obtain⟨k,h1,h2,_⟩:=hres;exact⟨_,{},h1,.inr ⟨x,k,rfl,rfl,rfl,h2⟩⟩
  subst hev;have HCv:=Hy hcv;clear hres hcv;go_upto_region 9 with fail
  obtain⟨fb,hfb⟩:∃n,w6.heap.size=n:=⟨_,rfl⟩
  obtain⟨w7,hw7⟩:∃W,w6.alloc (.cells (faultC f) 45)=W:=⟨_,rfl⟩
  have hb7:Below w6.heap.size w6 w7:=by rw[←hw7];exact(Below.refl _ _).alloc (Nat.le_refl _) _
  have hf7:w7.heap[fb]?=some (.cells (faultC f) 45):=by rw[←hw7];exact blk_new hfb
  rw[hfb,hw7];clear hw7;have HF7:=Hy hf7;have HA7:=Hy (HA6.out.later hb7);have HT7:=Hy (HT6.out.later hb7);have HU7:=Hy (HU6.out.later hb7);have HB7:=Hy (HB6.out.trans (hb7.mono HB6.out.size));have HCv7:Hid ((oc=none∧cv = .pointer none∧f=ck.fault)∨(∃x k,oc=some x∧cv=Ptr k∧f={}∧CAt (· = bb) w7 x k)):=by
   rcases HCv.out with h|⟨x,k,h1,h2,h3,h4⟩
   ·exact .inl h
   ·exact .inr ⟨x,k,h1,h2,h3,h4.later hb7⟩
  have hsz7:=hb7.size;clear hb7 hf7 HA6 HT6 HU6 HB6 HCv;go_wp2_with fail;refine(grant_any 50000 (by decide) w7).mono ?_;rintro e w8 ⟨rfl,hg8,hb8,hz8⟩;obtain⟨b2,hb2⟩:∃n,w7.heap.size=n:=⟨_,rfl⟩
  rw[hb2]at hg8 hz8 ⊢;have hbl:=blk_lt HU7.out.2;have hfl:=blk_lt HF7.out;have hne:¬bb=b2:=by omega
  have HF8:=Hy (later_blk hb8 HF7.out);have HA8:=Hy ((HA7.out.widen (H':=fun x=>x=bb∨x=b2) fun x e=>by
   rcases e with e|e
   ·exact .inl e
   ·exact .inr (by omega)).later hb8)
  have HT8:=Hy (HT7.out.later hb8);have HU8:=Hy (HU7.out.later hb8);have HB8:=Hy (HB7.out.trans (hb8.mono HB7.out.size));have HG8:=Hy hg8;have HCv8:Hid ((oc=none∧cv = .pointer none∧f=ck.fault)∨(∃x k,oc=some x∧cv=Ptr k∧f={}∧CAt (fun x=>x=bb∨x=b2) w8 x k)):=by
   rcases HCv7.out with h|⟨x,k,h1,h2,h3,h4⟩
   ·exact .inl h
   ·refine .inr ⟨x,k,h1,h2,h3,(h4.widen fun x e => ?_).later hb8⟩;rcases e with e|e
    ·exact .inl e
    ·exact .inr (by omega)
  have hwb2:w.heap.size≤b2:=by have:=HB7.out.size;omega
  clear hb8 hg8 HF7 HA7 HT7 HU7 HB7 HCv7;go_wp2_with fail;have hju:=judg_any (fun x=>x=bb∨x=b2) t tb b2 50000 0 w8 HG.out HZ.out HA8.out HT8.out HG8.out (.inr rfl) (fun h e=>by rcases e with e|e<;>omega) (by decide)
  have hjok:=Pv.judge_ok (t:=t) (l:=50000);obtain⟨j,hj⟩:∃j,Pv.judge t { left:=50000 }=j:=⟨_,rfl⟩
  rw[hj]at hju hjok;have hjc2:=HJc.out;rw[hj]at hjc2;replace HJc:=Hy hjc2;have HJu:=Hy hju;have HJok:=Hy hjok;clear hju hjok hj hjc2;refine HJu.out.mono ?_;rintro e w9 ⟨rfl,_,hk9⟩;have HF9:=Hy (hk9.blk (show ¬fb=b2 by omega) HF8.out);have HA9:=Hy (HA8.out.keep (hk9.wide fun x e=> .inl (.inr e)));have HT9:=Hy (HT8.out.keep hk9 (fun e=>HT8.out.bud HG8.out e.symm));have HU9:=Hy (HU8.out.keep hk9 hne)
  have HB9:=Hy (HB8.out.trans (hk9.below HB8.out.size fun x e=>by rw[e];exact hwb2));have HCv9:Hid ((oc=none∧cv = .pointer none∧f=ck.fault)∨(∃x k,oc=some x∧cv=Ptr k∧f={}∧CAt (fun x=>x=bb∨x=b2) w9 x k)):=by
   rcases HCv8.out with h|⟨x,k,h1,h2,h3,h4⟩
   ·exact .inl h
   ·exact .inr ⟨x,k,h1,h2,h3,CAt.keep hk9 ⟨fun x e=> .inr e,fun x e cs fr=>by rw[e];exact blk_ty HG8.out.2 (by decide)⟩ h4⟩
  have hsz9:=hk9.size;clear hk9 HF8 HA8 HT8 HU8 HB8 HG8 HCv8 HJu;obtain⟨g,hg⟩:∃g,j.fault=g:=⟨_,rfl⟩
  rw[hg];go_upto_region 10 with fail
  obtain⟨gb,hgb⟩:∃n,w9.heap.size=n:=⟨_,rfl⟩
  obtain⟨wa,hwa⟩:∃W,w9.alloc (.cells (faultC g) 45)=W:=⟨_,rfl⟩
  have hba:Below w9.heap.size w9 wa:=by rw[←hwa];exact(Below.refl _ _).alloc (Nat.le_refl _) _
  have hga:wa.heap[gb]?=some (.cells (faultC g) 45):=by rw[←hwa];exact blk_new hgb
  rw[hgb,hwa];clear hwa;have HGb:=Hy hga;have HF:=Hy (later_blk hba HF9.out);have HA:=Hy (HA9.out.later hba);have HTa:=Hy (HT9.out.later hba);have HU:=Hy (HU9.out.later hba);have HB:=Hy (HB9.out.trans (hba.mono HB9.out.size));have HCv:Hid ((oc=none∧cv = .pointer none∧f=ck.fault)∨(∃x k,oc=some x∧cv=Ptr k∧f={}∧CAt (fun x=>x=bb∨x=b2) wa x k)):=by
   rcases HCv9.out with h|⟨x,k,h1,h2,h3,h4⟩
   ·exact .inl h
   ·exact .inr ⟨x,k,h1,h2,h3,h4.later hba⟩
  have hsza:=hba.size;clear hba hga HF9 HA9 HT9 HU9 HB9 HCv9;have hck:f=ck.fault:=by
   rcases HCv.out with⟨_,_,h⟩|⟨x,k,h1,_,h3,_⟩
   ·exact h
   ·rw[h3];exact(HSome.out ck x (by rw[h1])).1.symm
  have HCk:=Hy hck;clear hck;by_cases hf5:f.e=5
  ·have hfx:f={ e:=5 }:=by rw[HCk.out];exact HFive.out (by rw[←HCk.out];exact hf5)
   have hcn:cv = .pointer none:=by
    rcases HCv.out with⟨_,h,_⟩|⟨x,k,h1,_,h3,_⟩
    ·exact h
    ·rw[h3]at hf5;cases hf5
   have hF2:=HF.out;rw[hfx]at hF2;subst hcn;obtain⟨y0,y1,y2,y3,y4,y5,y6,yf⟩:=fl_cells hF2;clear hF2 hfx hf5 HF HGb HCv HJc HFact HSome HBad HFive HJok;go_wp2_with fail;go_ret;exact⟨rfl,HB.out⟩
  ·have e5:((f.e:Int)==5)=false:=by simp;omega
   have d5:decide ((f.e:Int)=5)=false:=decide_eq_false (by omega);have n5:decide (f.e=5)=false:=decide_eq_false hf5;obtain⟨y0,y1,y2,y3,y4,y5,y6,yf⟩:=fl_cells HF.out;obtain⟨z0,z1,z2,z3,z4,z5,z6,zf⟩:=fl_cells HGb.out;by_cases hg5:g.e=5
   ·rw[hg5]at z0;replace z0:wa.cell? ⟨gb,0,none⟩=some (.int .i64 5):=z0;clear y1 y2 y3 y4 y5 y6 yf z1 z2 z3 z4 z5 z6 zf;go_wp2_with fail;go_ret;exact⟨rfl,HB.out⟩
   ·have hfg:f=g:=by rw[HCk.out,←hg];exact HJc.out (by rw[←HCk.out];exact hf5) (by rw[hg];exact hg5)
    subst hfg;by_cases hf0:f.e=0
    ·have hfx:f={}:=by rw[←hg];exact HJok.out (by rw[hg];exact hf0)
     rcases HCv.out with⟨h1,_,_⟩|⟨x,k,hox,hcvk,_,hcat⟩
     ·exact absurd hf0 (by rw[HCk.out];exact HBad.out h1)
     subst hcvk;have htys:=(HSome.out ck x (by rw[hox])).2;have HTys:=Hy htys;have HCat:=Hy hcat;have hF2:=HF.out;rw[hfx]at hF2;have hG2:=HGb.out;rw[hfx]at hG2;clear y0 y1 y2 y3 y4 y5 y6 yf z0 z1 z2 z3 z4 z5 z6 zf e5 d5 n5 hf5 hg5 htys hcat;obtain⟨y0,y1,y2,y3,y4,y5,y6,yf⟩:=fl_cells hF2;obtain⟨z0,z1,z2,z3,z4,z5,z6,zf⟩:=fl_cells hG2;have HF2:=Hy hF2
     clear hF2 hG2 HF HGb HFive HBad HSome HJc HFact HJok HCv;go_upto_region 16 with fail
     clear y0 y1 y2 y3 y4 y5 y6 yf z0 z1 z2 z3 z4 z5 z6 zf;go_wp2_with fail;refine(types17_any _ (fun x=>x=bb∨x=b2) t tb wa (Nat.le_refl _) HZ.out HG.out HA.out (fun h e=>by rcases e with e|e<;>omega)).mono ?_
     rintro e wb ⟨x1,x2,rfl,hx1,hx2,hbb⟩;replace HF2:=Hy (later_blk hbb HF2.out);replace HA:=Hy (HA.out.later hbb);replace HU:=Hy (HU.out.later hbb);replace HB:=Hy (HB.out.trans (hbb.mono HB.out.size));replace HCat:=Hy (HCat.out.later hbb);have HX1:=Hy hx1;have HX2:=Hy hx2;clear hbb hx1 hx2;go_upto_region 17 with fail
     obtain⟨_,tb2,wb1,cb1,a1,cap1,bs1,s1,s2,hct,hcw,hcc,_,_,_,_,_,hck,hcs,hcks⟩:=HCat.out.open_;have hty:=HTys.out;have c0:wb.cell? ⟨k,0,none⟩=some (Ptr tb2):=cB (o:=0) hck rfl;have c1:wb.cell? ⟨k,1,none⟩=some (Ptr wb1):=cB (o:=1) hck rfl;have c2:wb.cell? ⟨k,2,none⟩=some (Ptr cb1):=cB (o:=2) hck rfl;have c3:wb.cell? ⟨k,3,none⟩=some (.slice a1 bs1.length cap1):=cB (o:=3) hck rfl
     obtain⟨_,rvT,aT,kcT,bsT,_,_,htT,_,hksT⟩:=HA.out.open_;have hll:bs1.length=bsT.length:=by rw[hcks.length,hksT.length,hty.2.2]
     have t6:wb.cell? ⟨tb,6,none⟩=some (.slice aT bs1.length kcT):=by rw[hll];exact cB (o:=6) htT rfl
     have hwh:x.whole=(Pv.typesOf t).1:=by rw[←hty.1]
     have hwc:x.core=(Pv.typesOf t).2:=by rw[←hty.1]
     rw[hwh]at hcw;rw[hwc]at hcc;rw[hty.2.1]at hct;have sm1:=fun(W:World) (hW:Below wb.heap.size wb W)=>same_any _ _ wb1 x1 W (hcw.later hW) (HX1.out.later hW)
     have sm2:=fun(W:World) (hW:Below wb.heap.size wb W)=>same_any _ _ cb1 x2 W (hcc.later hW) (HX2.out.later hW)
     rw[same_rfl]at sm1;rw[same_rfl]at sm2;have sm3:=fun(W:World) (hW:Below wb.heap.size wb W)=>tsame_any _ (fun x=>x=bb∨x=b2) t tb2 tb W (Nat.le_refl _) HG.out (hct.later hW) (HA.out.later hW)
     have sm4:=fun(W:World) (hW:Below wb.heap.size wb W)=>used_any bb _ _ W (HU.out.later hW)
     have S1:=Hy sm1;have S2:=Hy sm2;have S3:=Hy sm3;have S4:=Hy sm4;clear hcw hcc hct hck hcs hcks htT hksT hll hwh hwc hty sm1 sm2 sm3 sm4;obtain⟨y0,y1,y2,y3,y4,y5,y6,yf⟩:=fl_cells (f:={}) HF2.out;have nft:∀x,¬(fun _:Nat=>False) x:=fun _ h=>h
     have nf:=nft fb;have nk:=nft k;have nt:=nft tb;have hd:Below wb.heap.size wb wb.drew:=(Below.refl _ _).drew;have T1:=Hy (S1.out _ hd);have T2:=Hy (S2.out _ hd);have T3:=Hy (S3.out _ hd);have hu100:((u6:Int)≤100000):=by omega
     clear nft S1 S2 S3
     refine Eaq.region (Keep fun _=>False) (.mov 0 (.mov 1 (.mov 2 (.mov 3 (.mov 4 (.mov 5 (.mov 6 (.mov 7 (.mov 8 (.mov 9 (.mov 10 (.mov 11 (.mov 12 (.anc 13 (.mov 14 (.mov 15 (.mov 16 (.mov 17 (.mov 18 (.mov 19 (.mov 20 (.anc 21 (.mov 22 (.mov 23 (.mov 24 (.mov 25 (.mov 26 (.mov 27 (.mov 28 (.anc 29 (.mov 30 (.mov 31 (.mov 32 (.mov 33 (.mov 34 (.mov 35 (.mov 36 (.mov 37 (.mov 38 (.mov 39 (.mov 40 (.mov 41 (.mov 42 (.mov 43 (.mov 44 (.mov 45 (.anc 46 (.mov 47 (.mov 48 (.mov 49 Eag.Sch.fin)))))))))))))))))))))))))))))))))))))))))))))))))) [] [] (by kernel_rfl) (by kernel_rfl) (fun K ops hops hK => ?_)
     iterate 4
      first
       | (refine Eaq.mov hops rfl rfl rfl (fun w' hb => ?_) ?_
          ·have q0:=Keep.cell hb nf y0;have q1:=Keep.cell hb nf y1;have q2:=Keep.cell hb nf y2;have q3:=Keep.cell hb nf y3;have q4:=Keep.cell hb nf y4;have q5:=Keep.cell hb nf y5;have q6:=Keep.cell hb nf y6;clear hb;go_simp)
       | (refine Eaq.movA hops rfl rfl (fun w' => ?_) ?_
          ·go_simp)
      go_simp
     iterate 2
      refine Eaq.movG hops rfl rfl rfl (fun w' hb => ?_) ?_
      ·clear hb;go_simp
      go_simp
     iterate 2
      first
       | (refine Eaq.mov hops rfl rfl rfl (fun w' hb => ?_) ?_
          ·clear hb;go_simp)
       | (refine Eaq.movA hops rfl rfl (fun w' => ?_) ?_
          ·go_simp)
      go_simp
     iterate 5
      refine Eaq.movG hops rfl rfl rfl (fun w' hb => ?_) ?_
      ·have q0:=Keep.cell hb nk c1;clear hb;go_simp
      go_simp
     refine Eaq.ancG hops rfl rfl ?_;go_wp2_with fail;refine T1.out.mono ?_;rintro e w' ⟨rfl,e1⟩;subst e1;refine⟨Keep.refl _ _,?_⟩;iterate 2
      first
       | (refine Eaq.mov hops rfl rfl rfl (fun w' hb => ?_) ?_
          ·clear hb;go_simp)
       | (refine Eaq.movA hops rfl rfl (fun w' => ?_) ?_
          ·go_simp)
      go_simp
     iterate 5
      refine Eaq.movG hops rfl rfl rfl (fun w' hb => ?_) ?_
      ·have q0:=Keep.cell hb nk c2;clear hb;go_simp
      go_simp
     refine Eaq.ancG hops rfl rfl ?_;go_wp2_with fail;refine T2.out.mono ?_;rintro e w' ⟨rfl,e1⟩;subst e1;refine⟨Keep.refl _ _,?_⟩;iterate 2
      first
       | (refine Eaq.mov hops rfl rfl rfl (fun w' hb => ?_) ?_
          ·clear hb;go_simp)
       | (refine Eaq.movA hops rfl rfl (fun w' => ?_) ?_
          ·go_simp)
      go_simp
     iterate 5
      refine Eaq.movG hops rfl rfl rfl (fun w' hb => ?_) ?_
      ·have q0:=Keep.cell hb nk c0;clear hb;go_simp
      go_simp
     refine Eaq.ancG hops rfl rfl ?_;go_wp2_with fail;refine T3.out.mono ?_;rintro e wd ⟨rfl,hbd⟩;refine⟨Keep.of_below hbd,?_⟩;have hbd2:=hd.trans (hbd.mono hd.size);have c3':=later hbd2 c3;have t6':=later hbd2 t6;have T4:=Hy (S4.out _ hbd2);replace HB:=Hy (HB.out.trans (hbd2.mono HB.out.size));clear hbd hbd2 c0 c1 c2 c3 t6 y0 y1 y2 y3 y4 y5 y6 yf T1 T2 T3 S4 hd;iterate 2
      first
       | (refine Eaq.mov hops rfl rfl rfl (fun w' hb => ?_) ?_
          ·clear hb;go_simp)
       | (refine Eaq.movA hops rfl rfl (fun w' => ?_) ?_
          ·go_simp)
      go_simp
     iterate 11
      refine Eaq.movG hops rfl rfl rfl (fun w' hb => ?_) ?_
      ·have q0:=Keep.cell hb nk c3';have q1:=Keep.cell hb nt t6';clear hb;go_simp
      go_simp
     iterate 2
      first
       | (refine Eaq.mov hops rfl rfl rfl (fun w' hb => ?_) ?_
          ·clear hb;go_simp)
       | (refine Eaq.movA hops rfl rfl (fun w' => ?_) ?_
          ·go_simp)
      go_simp
     iterate 1
      refine Eaq.movG hops rfl rfl rfl (fun w' hb => ?_) ?_
      ·clear hb;go_simp
      go_simp
     refine Eaq.ancG hops rfl rfl ?_;go_wp2_with fail;refine T4.out.mono ?_;rintro e w' ⟨rfl,e1⟩;subst e1;refine⟨Keep.refl _ _,?_⟩;iterate 1
      refine Eaq.movG hops rfl rfl rfl (fun w' hb => ?_) ?_
      ·clear hb;go_simp
      go_simp
     iterate 2
      first
       | (refine Eaq.mov hops rfl rfl rfl (fun w' hb => ?_) ?_
          ·clear hb;go_simp)
       | (refine Eaq.movA hops rfl rfl (fun w' => ?_) ?_
          ·go_simp)
      go_simp
     refine Eaq.fin (hK _ _ ?_);clear hK hops;go_simp;go_wp2_with fail;go_ret;exact⟨by simp[hu100],HB.out⟩
    ·have hcn:cv = .pointer none:=by
      rcases HCv.out with⟨_,h,_⟩|⟨x,k,h1,_,h3,_⟩
      ·exact h
      ·rw[h3]at hf0;exact absurd rfl hf0
     subst hcn;have e0:((f.e:Int)==0)=false:=by simp;omega
     have d0:decide ((f.e:Int)=0)=false:=decide_eq_false (by omega);have n0:decide (f.e=0)=false:=decide_eq_false hf0;have hfa:=fun h=>HFact.out f HCk.out.symm h
     have HFa:=Hy hfa;clear hfa HCv HFact HSome HBad HFive HJc HJok;go_wp2_with fail;clear y0 y1 y2 y3 y4 y5 y6 yf z0 z1 z2 z3 z4 z5 z6 zf;refine(agree_same f wa).mono ?_;rintro e wb ⟨rfl,hbb⟩;replace HF:=Hy (later_blk hbb HF.out);replace HA:=Hy (HA.out.later hbb);replace HB:=Hy (HB.out.trans (hbb.mono HB.out.size));clear hbb HGb;obtain⟨y0,y1,y2,y3,y4,y5,y6,yf⟩:=fl_cells HF.out;go_wp2_with fail
     clear y0 y1 y2 y3 y4 y5 y6 yf;have hsh:Calls Tryz.prog 26 #[Ptr tb,FV f] wb (ShW true wb):=by
      by_cases h20:f.e=20
      ·obtain⟨h1,h2,_⟩:=HFa.out (.inl h20);exact shown17_20 f t tb wb h20 HG.out HZ.out h1 h2 (HA.out.widen fun _ h=>h.elim)
      ·by_cases h21:f.e=21
       ·obtain⟨h1,h2,_⟩:=HFa.out (.inr h21);exact shown17_21 f t tb wb h21 HG.out HZ.out h1 h2 (HA.out.widen fun _ h=>h.elim)
       ·exact shown17_else f tb wb h20 h21
     refine hsh.mono ?_;rintro e wc ⟨rfl,hbc⟩;replace HB:=Hy (HB.out.trans (hbc.mono HB.out.size));clear hbc hsh;go_wp2_with fail;go_ret;exact⟨rfl,HB.out⟩
 ·rw[decide_eq_false hf]at hfew;have HFew:=Hy hfew;clear hfew p0 p1 p2 p3 hf;refine HFew.out.mono ?_;rintro e w2 ⟨rfl,hb2⟩;have HB2:=Hy (HB.out.trans (hb2.mono HB.out.size));clear hb2;go_wp2_with fail;go_ret;exact⟨rfl,HB2.out⟩
end Go.Proofs.YtinpjfnnfkjbmaaGreatDoor
namespace Go.Proofs.YtinpjfnnfkjbmaaGreatDoor
open Go.RowKit
open _root_.Pv (P10)
theorem cell_spotK {w:World}{a:Addr}{v:Value}(h:w.cell? a=some v):a=⟨a.block,a.off,none⟩:=by
 obtain⟨b,o,s⟩:=a;cases s with
 | none=>rfl
 | some s=>
   exfalso;unfold World.cell? at h;split at h
   ·simp at h
   ·cases h
theorem pls_buildK {W:World}{blk:Nat}:∀(len off:Nat),(∀i,i<len→∃p,PlAt W p blk (off+i*4))→∃ps:List P10,ps.length=len∧PlsAt W ps blk off
 | 0,off,_=>⟨[],rfl,by unfold PlsAt;trivial⟩
 | len+1,off,h=>by
   obtain⟨p,hp⟩:=h 0 (by omega);obtain⟨ps,hl,hps⟩:=pls_buildK len (off+4) (fun i hi=>by obtain⟨q,hq⟩:=h (i+1) (by omega);exact⟨q,by rw[show off+4+i*4=off+(i+1)*4 by omega];exact hq⟩)
   refine⟨p::ps,by simp[hl],?_⟩;unfold PlsAt;exact⟨by simpa using hp,hps⟩
theorem add_offK (b o i:Nat):(⟨b,o,none⟩:Addr).add i=⟨b,o+i,none⟩:=by
 unfold Addr.add;split
 ·subst_vars;rfl
 ·rfl
theorem pl_c74K:Tryz.prog.cellsOf 24=4:=by kernel_rfl
theorem pl_c72K:Tryz.prog.cellsOf 22=1:=by kernel_rfl
theorem pl_c3K:Tryz.prog.cellsOf 3=1:=by kernel_rfl
def PlCellsK (W:World)(cs:List Value):Prop:=∃(p:P10) (a:Option Addr) (c b' o':Nat),cs=[.int .i64 p.op,.int .i64 p.w,.int .i64 p.n,.slice a p.kids.length c]∧(p.kids≠[]→a=some ⟨b',o',none⟩)∧p.kids.length<9223372036854775808∧PlsAt W p.kids b' o'
set_option maxRecDepth 20000 in
theorem plan_openK {Hh:Type}{enc:TypeId × Value→Hh}{W:World}{b0:Nat}{sp:Nat→Bool}{held:Bool}(fuel:Nat):∀(cs:List Value) (x:DataW Hh × List MemPlace),DataW.trod enc Tryz.prog W b0 sp held fuel 24 cs=some x→PlCellsK W cs:=by
 induction fuel using Nat.strongRecOn with
 | _ fuel ih=>
 intro cs x h;obtain⟨xs,n,rfl,_,hcl,hxl,hf⟩:=DataW.trod_struct Tryz.underlying24 h;rw[pl_c74K]at hcl
 match cs,hcl with
 | [c0,c1,c2,c3],_=>
 have hxs:xs.length=4:=hxl;have f0:=hf 0 { name := "Op",type:=3,offset:=0,embedded:=false,tag := "",pkgPath := "",byteOffset:=0 } rfl;have f1:=hf 1 { name := "W",type:=3,offset:=1,embedded:=false,tag := "",pkgPath := "",byteOffset:=8 } rfl;have f2:=hf 2 { name := "N",type:=3,offset:=2,embedded:=false,tag := "",pkgPath := "",byteOffset:=16 } rfl
 have f3:=hf 3 { name := "Kids",type:=22,offset:=3,embedded:=false,tag := "",pkgPath := "",byteOffset:=24 } rfl;simp only[pl_c3K,pl_c72K,List.drop_zero,List.drop_succ_cons,List.take_succ_cons,List.take_zero]at f0 f1 f2 f3;rw[List.getElem?_eq_getElem (by omega)]at f0 f1 f2 f3;obtain⟨n0,e0,_⟩:=DataW.trod_int Tryz.underlying3 f0;obtain⟨n1,e1,_⟩:=DataW.trod_int Tryz.underlying3 f1
 obtain⟨n2,e2,_⟩:=DataW.trod_int Tryz.underlying3 f2;injection e0 with e0
 injection e1 with e1
 injection e2 with e2
 subst e0 e1 e2;rcases DataW.trod_slice Tryz.underlying22 f3 with⟨e3,_⟩|⟨a,len,cap,elems,rest,m,rfl,e3,_,_,hlc,hcm,hel,hE,_⟩
 ·injection e3 with e3
  subst e3;exact⟨.mk n0 n1 n2 [],none,0,0,0,rfl,fun h=>absurd rfl h,by simp[P10.kids],by unfold PlsAt P10.kids;trivial⟩
 ·injection e3 with e3
  subst e3;rw[pl_c74K]at hE;by_cases h0:len=0
  ·subst h0;exact⟨.mk n0 n1 n2 [],some a,cap,0,0,rfl,fun h=>absurd rfl h,by simp[P10.kids],by unfold PlsAt P10.kids;trivial⟩
  ·have hcell:∀i,i<len→∃cs1,W.cells? b0 (a.add (i*4)) 4=some cs1∧PlCellsK W cs1:=fun i hi=>by have h1:=hE i hi;rw[List.getElem?_eq_getElem (by omega)]at h1;obtain⟨cs1,hc1,hy1⟩:=Option.bind_eq_some_iff.1 h1;exact⟨cs1,hc1,ih m (by omega) cs1 _ hy1⟩
   have hspot:a=⟨a.block,a.off,none⟩:=by obtain⟨cs1,hc1,_⟩:=hcell 0 (by omega);obtain⟨_,hl,hc⟩:=World.cells?_some hc1;have h1:=hc 0 (by omega);rw[List.getElem?_eq_getElem (by omega)]at h1;have h2:=cell_spotK h1;simpa [Addr.add] using h2
   obtain⟨ps,hpl,hps⟩:=pls_buildK (W:=W) (blk:=a.block) len a.off (fun i hi=>by
    obtain⟨cs1,hc1,p,a1,c1,b1,o1,rfl,ha1,hk1,hp1⟩:=hcell i hi;obtain⟨_,_,hc⟩:=World.cells?_some hc1;rw[hspot,add_offK]at hc;have g0:=hc 0 (by omega);have g1:=hc 1 (by omega);have g2:=hc 2 (by omega);have g3:=hc 3 (by omega);rw[add_offK]at g0 g1 g2 g3;refine⟨p,?_⟩;obtain⟨po,pw,pn,pk⟩:=p;unfold PlAt;exact⟨a1,c1,b1,o1,g0,g1,g2,g3,ha1,hk1,hp1⟩)
   refine⟨.mk n0 n1 n2 ps,some a,cap,a.block,a.off,by rw[P10.kids,hpl];rfl,fun _=>by rw[←hspot],?_,hps⟩;unfold maxLen at hcm;rw[P10.kids,hpl];omega
theorem plan_valueK {W:World}{cs:List Value}(h:PlCellsK W cs):∃p:P10,PlV W p (.agg cs.toArray):=by obtain⟨p,a,c,b',o',rfl,h1,h2,h3⟩:=h;exact⟨p,a,c,b',o',rfl,h1,h2,h3⟩
end Go.Proofs.YtinpjfnnfkjbmaaGreatDoor
namespace Go.Proofs.YtinpjfnnfkjbmaaGreatDoor
open Go.ChangeShapes Go.ChangeMaps Go.WideShapes Go.ChangeAt Go.WideMaps Go.WideElems Go.RowKit
abbrev laid3:List (String × DataW Unit):=[("math/bits.deBruijn32tab",Rows.laid_math_bits_deBruijn32tab),("math/bits.deBruijn64tab",Rows.laid_math_bits_deBruijn64tab),("internal/strconv.uint64pow10",Rows.laid_internal_strconv_uint64pow10)]
theorem ownK:ownKnob Tryz.prog.godebug=none:=by kernel_rfl
theorem g64:Tryz.prog.globalNamed "math/bits.deBruijn64tab" = some 0:=by kernel_rfl
theorem t64:(Tryz.prog.globals[0]?).map (·.type)=some 263:=by kernel_rfl
theorem door_met (os:Os)(args:Array Value):laidMetH Tryz.prog laid3 ((World.doorLaid Tryz.prog 400 os).forCall (fun _ _=>0) ⟨#[],args,[]⟩).memory:=
 laidMetH_of_parts3 (fuel:=8) (laidMet_of_run' 8 (by kernel_rfl) (by kernel_rfl)) (by kernel_rfl) (by kernel_rfl)
theorem laid64_eq:(Rows.laid_math_bits_deBruijn64tab:DataW Unit) = .agg (Lib.deBruijn64tab.map fun(k:Nat)=>DataW.lit (.int .u8 (k:Int))):=rfl
theorem arr_cells {P:Program}{W:World}{b0:Nat}{sp:Nat→Bool}{held:Bool}{fuel:Nat}{T e:TypeId}{n:Nat}{cs:List Value}{l:List Nat}{q:List MemPlace}{enc:TypeId × Value→Unit}(hT:P.underlying T=some (.array n e))(he:P.underlying e=some (.int .u8))(hc:P.cellsOf e=1)
  (hd:DataW.trod enc P W b0 sp held fuel T cs=some (.agg (l.map fun(k:Nat)=>DataW.lit (.int .u8 (k:Int))),q)) (hl:l.length=n):∀j,j<n→cs[j]?=some (.int .u8 (l.getD j 0)):=by
 intro j hj;obtain⟨xs,m,_,hx,_,hn,hel⟩:=DataW.trod_array hT hd;simp only[Prod.mk.injEq,DataW.agg.injEq]at hx;have h1:=hel j hj;rw[hc,Nat.mul_one]at h1;have hjx:j<xs.length:=by omega
 rw[List.getElem?_eq_getElem hjx]at h1;obtain⟨k,e1,e2,_⟩:=DataW.trod_int he h1;have h2:(l.map fun(k:Nat)=>(DataW.lit (.int .u8 (k:Int)):DataW Unit))[j]?=(xs.map (·.1))[j]?:=by rw[hx.1]
 rw[List.getElem?_map,List.getElem?_map,List.getElem?_eq_getElem hjx,List.getElem?_eq_getElem (by omega),e2]at h2;simp only[Option.map_some,Option.some.injEq,DataW.lit.injEq,Lit.int.injEq,true_and]at h2;have h3:(cs.drop j)[0]?=some (.int .u8 k):=by
  have:((cs.drop j).take 1)[0]?=some (.int .u8 k):=by rw[e1];rfl
  simpa using this
 rw[List.getElem?_drop,Nat.add_zero]at h3;rw[h3,List.getD_eq_getElem?_getD,List.getElem?_eq_getElem (by omega),←h2];rfl
theorem tab_of_laid {W:World}(h:laidMetH Tryz.prog laid3 W):Tab W:=by
 rw[MakeChecks.laidMetH_plain _ _ _ (by kernel_rfl)]at h;obtain⟨ps,⟨g0,t0,cs0,f0,p0,q0,_,_,_,_,⟨g1,t1,cs1,f1,p1,q1,hg1,ht1,hv1,hd1,_⟩,_⟩,_,_⟩:=h;obtain rfl:=Option.some.inj (g64.symm.trans hg1);obtain rfl:=Option.some.inj (t64.symm.trans ht1);rw[laid64_eq]at hd1;have h64:=arr_cells Tryz.underlying263 Tryz.underlying5 (by kernel_rfl) (l:=Lib.deBruijn64tab) hd1 (by decide);intro j hj
 have:=World.var?_cell hg1 hv1 j;rw[this,←Array.getElem?_toList];exact h64 j hj
end Go.Proofs.YtinpjfnnfkjbmaaGreatDoor
