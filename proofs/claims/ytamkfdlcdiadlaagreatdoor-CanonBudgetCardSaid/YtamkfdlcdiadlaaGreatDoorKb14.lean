/- Own law: XEag's, over whatever relation of worlds that all but some operations keep. -/
import Derived.Test.YtamkfdlcdiadlaaGreatDoorKb05
import Derived.Orders
import Derived.Attr
import Derived.Below
import Derived.Test.YtamkfdlcdiadlaaGreatDoorKb03
import Derived.Test.YtamkfdlcdiadlaaGreatDoorKb13
import Derived.RangeFuncNested
import Derived.RangeFuncBound
import Derived.RangeFuncCalls
import Derived.RangeFuncLeaves
import Derived.RangeFuncFrom
import Derived.Shelf.Abstract
import Derived.Shelf.RegionOpen
import Derived.OwnWalkIn
import Derived.TacticsInMore
import Derived.LoopNIn
import Derived.LoopIn
set_option linter.all false
namespace Go.Eak
open Go Go.RowKit
section
variable {P:Program}{ops:Array Oper}{Q:Exit→Act→World→Prop}{md:Region.Mode}
class Pre (Rl:World→World→Prop):Prop where
 rf:∀w,Rl w w
 tr:∀ {a b c:World},Rl a b→Rl b c→Rl a c
variable {Rl:World→World→Prop}[hPre:Pre Rl]
def Gives (Rl:World→World→Prop)(P:Program)(ops:Array Oper)(w:World)(o:Oper)(v:Value)(a:Act):Prop:=
 (Region.wanted o (yielded ops a.tmps)=true∧∀w',Rl w w' →
  ((execOp a.eval o).run P w' = .ok (.value v) w'∨∃f args,(execOp a.eval o).run P w' = .ok (.enter f args) w'∧Calls P f args w' (fun e w''=>e = .returned v∧w''=w'))) ∨
 (Region.wanted o (yielded ops a.tmps)=false∧v=undef)
theorem Gives.later {w w1:World}{o:Oper}{v:Value}{a:Act}(h:Gives Rl P ops w o v a)(hb:Rl w w1):Gives Rl P ops w1 o v a:=by
 rcases h with⟨h1,h2⟩|h
 ·exact .inl ⟨h1,fun w' hb'=>h2 w' (hPre.tr hb hb')⟩
 ·exact .inr h
theorem Gives.same {w:World}{o:Oper}{v:Value}{a a':Act}(h:Gives Rl P ops w o v a)(he:execOp a'.eval o=execOp a.eval o)
  (hw:Region.wanted o (yielded ops a'.tmps)=Region.wanted o (yielded ops a.tmps)):Gives Rl P ops w o v a':=by
 unfold Gives at *;rw[he,hw];exact h
theorem Gives.op {i:Nat}{w:World}{o:Oper}{v:Value}{a:Act}{K:Act→World→Prop}(hi:ops[i]?=some o)(h:Gives Rl P ops w o v a)(hk:K (a.put o.dst v) w):
  wpOp P ops Q i K a w:=by
 unfold wpOp;simp only[hi];rcases h with⟨hw,hv⟩|⟨hw,rfl⟩
 ·rw[if_pos hw];left;rcases hv w (hPre.rf _) with hr|⟨f,args,hr,hc⟩
  ·unfold Oper.wp;rw[hr];exact hk
  ·unfold Oper.wp;rw[hr];exact hc.mono (fun e w'' ⟨he,hw'⟩=>by subst he;subst hw';exact hk)
 ·rw[if_neg (by rw[hw];simp)];exact hk
def wpE (Rl:World→World→Prop)(P:Program)(md:Region.Mode)(ops:Array Oper)(Q:Exit→Act→World→Prop)(ex:Nat→Bool):Nat→Array Bool→Act→World→Prop
 | 0,listed,a,w=>Region.ready md ops listed=[]∧Q .normal a w
 | n+1,listed,a,w=>(Region.ready md ops listed=[]→Q .normal a w) ∧
   ∀i∈Region.ready md ops listed,wpOp P ops Q i (fun a' w'=>(ex i=true∨Rl w w')∧wpE Rl P md ops Q ex n (listed.setIfInBounds i true) a' w') a w
theorem wpAny_of_E {ex:Nat→Bool}:∀(n:Nat) (l:Array Bool) (a:Act) (w:World),wpE Rl P md ops Q ex n l a w→wpAny P md ops Q n l a w
 | 0,_,_,_,h=>h
 | n+1,_,_,_,h=>⟨h.1,fun i hi=>wpOp_mono (fun a' w' k=>wpAny_of_E n _ a' w' k.2) (h.2 i hi)⟩
theorem op_put {j:Nat}{oi oj:Oper}{v:Value}{w0:World}(hj:ops[j]?=some oj)(hap:oi.apart ops oj=true)
  (hsi:∀cs b,oi.op≠.select cs b) (hsj:∀cs b,oj.op≠.select cs b) (hQ:∀c a w,Q (.panic c) (a.put oi.dst v) w→Q (.panic c) a w)
  {K:Act→World→Prop} {a:Act} {w:World} (hy:Gives Rl P ops w0 oi v a) (h:wpOp P ops Q j K (a.put oi.dst v) w):
  wpOp P ops Q j (fun a' w'=>Gives Rl P ops w0 oi v a'∧K (a'.put oi.dst v) w') a w:=by
 obtain⟨h1,h2,h3⟩:=Oper.apart_spec hap;have keep:∀b:Act,Gives Rl P ops w0 oi v b→∀u,Gives Rl P ops w0 oi v (b.put oj.dst u):=fun b hb u=>
  hb.same (execOp_put oi hsi b oj.dst u h3) (wanted_put oi b oj.dst u h3)
 have swap:∀(b:Act) (u:Value),(b.put oi.dst v).put oj.dst u=(b.put oj.dst u).put oi.dst v:=fun b u=>Act.put_comm b v u h2
 unfold wpOp at h ⊢;simp only[hj]at h ⊢;rw[wanted_put oj a oi.dst v h1]at h;by_cases hw:Region.wanted oj (yielded ops a.tmps)=true
 ·rw[if_pos hw]at h ⊢;rcases h with h|⟨ha,hl⟩
  ·left;unfold Oper.wp at h ⊢;rw[execOp_put oj hsj a oi.dst v h1]at h;revert h;cases (execOp a.eval oj).run P w with
   | halt x w'=>cases x<;>simp only[Oper.upon]<;>first|exact hQ _ _ _|exact id
   | ok n w'=>
     cases n with
     | value u=>simp only[Oper.upon];rw[swap];exact fun h=>⟨keep a hy u,h⟩
     | skip=>simp only[Oper.upon];rw[swap];exact fun h=>⟨keep a hy _,h⟩
     | defer d=>
       simp only[Oper.upon];intro h;refine⟨keep { a with defers:=d::a.defers } (hy.same rfl rfl) undef,?_⟩;rw[←Act.put_comm _ v undef h2,←Act.put_defers];exact h
     | enter f args=>
       simp only[Oper.upon];exact fun h=>h.mono (fun e w'' he=>by
        cases e with
        | returned u=>exact⟨keep a hy u,by rw[←swap];exact he⟩
        | panicked c=>exact hQ _ _ _ he
        | outgrown=>exact he)
     | row r args=>simp only[Oper.upon];exact fun h=>h.mono (fun u w'' he=>⟨keep a hy u,by rw[←swap];exact he⟩)
     | _=>exact fun h=>h.elim
  ·exact .inr ⟨by unfold Oper.asks at ha ⊢;rw[execOp_put oj hsj a oi.dst v h1]at ha;exact ha,hl⟩
 ·rw[if_neg hw]at h ⊢;rw[swap]at h;exact⟨keep a hy _,h⟩
def okMask (ops:Array Oper)(M:Array Nat):Bool:=
 (List.range ops.size).all fun j=>(List.range ops.size).all fun i => !(M.getD j 0).testBit i ||
  match ops[j]? with
  | some o=>o.after.any fun e=>Region.binds .any e&&(decide (e.on<j)&&(e.on==i||(M.getD e.on 0).testBit i))
  | none=>false
def Shut (ops:Array Oper)(l:Array Bool):Prop:=∀(j:Nat) (o:Oper),ops[j]?=some o→l.getD j false=true→∀e∈o.after,Region.binds .any e=true→l.getD e.on false=true
theorem listed_of_mask {M:Array Nat}(hM:okMask ops M=true){l:Array Bool}(hl:Shut ops l):∀(j:Nat),j<ops.size→∀i,i<ops.size→(M.getD j 0).testBit i=true →
  (∀o,ops[j]?=some o→∀e∈o.after,Region.binds .any e=true→l.getD e.on false=true)→l.getD i false=true:=by
 intro j;induction j using Nat.strongRecOn with
 | _ j ih=>
   intro hj i hi hb hall;have h:=List.all_eq_true.1 (List.all_eq_true.1 hM j (List.mem_range.2 hj)) i (List.mem_range.2 hi);obtain⟨o,ho⟩:∃o,ops[j]?=some o:=⟨ops[j],Array.getElem?_eq_getElem hj⟩
   simp only[hb,ho,Bool.not_true,Bool.false_or,Array.any_eq_true',Bool.and_eq_true,Bool.or_eq_true,beq_iff_eq,decide_eq_true_eq]at h;obtain⟨e,he,hbi,hlt,h⟩:=h;have h1:=hall o ho e he hbi;rcases h with rfl|h
   ·exact h1
   ·refine ih e.on hlt (by omega) i hi h fun o' ho' e' he' hb'=>hl e.on o' ho' h1 e' he' hb'
open Go.Eag (Sch)
def calm (K:Act→World→Prop):Exit→Act→World→Prop
 | .normal,a,w=>K a w
 | _,_,_=>False
def noEnd:Exit→Act→World→Prop:=fun _ _ _=>False
def wpSch (Rl:World→World→Prop)(P:Program)(ops:Array Oper)(K:Act→World→Prop)(ex:Nat→Bool):Sch→Act→World→Prop
 | .fin,a,w=>K a w
 | .mov i s,a,w=>∃o v,ops[i]?=some o∧Gives Rl P ops w o v a∧wpSch Rl P ops K ex s (a.put o.dst v) w
 | .anc i s,a,w=>wpOp P ops noEnd i (fun a' w'=>(ex i=true∨Rl w w')∧wpSch Rl P ops K ex s a' w') a w
 | .two i s j t,a,w=>wpOp P ops noEnd i (fun a' w'=>(ex i=true∨Rl w w')∧wpSch Rl P ops K ex s a' w') a w ∧
  wpOp P ops noEnd j (fun a' w'=>(ex j=true∨Rl w w')∧wpSch Rl P ops K ex t a' w') a w
theorem noEnd_op {Q:Exit→Act→World→Prop}{i:Nat}{K:Act→World→Prop}{a:Act}{w:World}(h:wpOp P ops noEnd i K a w):wpOp P ops Q i K a w:=by
 unfold wpOp at *;split
 ·simpa [*] using h
 ·rename_i o ho;simp only[ho]at h;split
  ·rename_i hw;rw[if_pos hw]at h;rcases h with h|⟨_,_,_,h⟩
   ·left;unfold Oper.wp at *;revert h;cases (execOp a.eval o).run P w with
    | halt x w'=>cases x<;>simp only[Oper.upon]<;>exact fun h=>h.elim
    | ok n w'=>
      cases n with
      | enter f args=>
        simp only[Oper.upon];exact fun h=>h.mono (fun e w'' he=>by
         cases e with
         | returned u=>exact he
         | panicked c=>exact he.elim
         | outgrown=>obtain⟨_,_,h⟩:=he;exact h.elim)
      | _=>exact id
   ·exact h.elim
  ·rename_i hw;rw[if_neg hw]at h;exact h
def freeE (ops:Array Oper)(M:Array Nat)(ex:Nat→Bool)(l:Array Bool)(i:Nat):Bool:=
 match ops[i]? with
 | none=>false
 | some oi=>(List.range ops.size).all fun j=>j==i||l.getD j true||(M.getD j 0).testBit i||(match ops[j]? with|some oj=>oi.apart ops oj && !ex j|none=>true)
def okSch (ops:Array Oper)(M:Array Nat)(ex:Nat→Bool):Sch→Array Bool→Nat→Bool
 | .fin,l,n=>n==0&&(Region.ready .any ops l).isEmpty
 | .mov i s,l,n=>n != 0&&(Region.ready .any ops l).contains i&&freeE ops M ex l i&&okSch ops M ex s (l.setIfInBounds i true) (n-1)
 | .anc i s,l,n=>n != 0&&Region.ready .any ops l==[i]&&okSch ops M ex s (l.setIfInBounds i true) (n-1)
 | .two i s j t,l,n=>n != 0&&Region.ready .any ops l==[i,j]&&okSch ops M ex s (l.setIfInBounds i true) (n-1)&&okSch ops M ex t (l.setIfInBounds j true) (n-1)
theorem shut_set {l:Array Bool}(hl:Shut ops l){i:Nat}(hi:i∈Region.ready .any ops l):Shut ops (l.setIfInBounds i true):=by
 intro j o ho hj e he hb;by_cases hji:i=j
 ·subst hji;obtain⟨_,o',ho',hall⟩:=mem_ready.1 hi;rw[ho]at ho';obtain rfl:=Option.some.inj ho';exact getD_set_true (hall e he hb)
 ·rw[getD_set_ne false hji]at hj;exact getD_set_true (hl j o ho hj e he hb)
theorem unlisted_false {l:Array Bool}{i:Nat}(h:l.getD i true=false):l.getD i false=false:=by
 rcases Nat.lt_or_ge i l.size with q|q
 ·simp[q]at h ⊢;exact h
 ·simp[Array.getElem?_eq_none q]at h
theorem mem_ready_lt {l:Array Bool}{i:Nat}(h:i∈Region.ready .any ops l):i<ops.size:=by obtain⟨_,o,ho,_⟩:=mem_ready.1 h;exact(Array.getElem?_eq_some_iff.1 ho).1
theorem E_take {ex:Nat→Bool}{M:Array Nat}(hM:okMask ops M=true)(hsel:Region.noSelect ops=true){i:Nat}{oi:Oper}{v:Value}(hi:ops[i]?=some oi)
  (hQ:∀c a w,Q (.panic c) a w→False):
  ∀(n:Nat) (l:Array Bool) (a:Act) (w:World),Shut ops l →
   (∀j oj,ops[j]?=some oj→j≠i→l.getD j true=false→(M.getD j 0).testBit i=false→oi.apart ops oj=true∧ex j=false) →
   i∈Region.ready .any ops l→Gives Rl P ops w oi v a →
   wpE Rl P .any ops Q ex n (l.setIfInBounds i true) (a.put oi.dst v) w→wpE Rl P .any ops Q ex (n+1) l a w:=by
 intro n;induction n with
 | zero=>
   intro l a w _ _ hr hy H;refine⟨fun h=>(by rw[h]at hr;cases hr),fun j hj => ?_⟩;by_cases hji:j=i
   ·subst hji;exact hy.op hi ⟨.inr (hPre.rf _),H⟩
   ·have:=ready_mono hj hji;rw[H.1]at this;cases this
 | succ n ih=>
   intro l a w hl hf hr hy H;refine⟨fun h=>(by rw[h]at hr;cases hr),fun j hj => ?_⟩;by_cases hji:j=i
   ·subst hji;exact hy.op hi ⟨.inr (hPre.rf _),H⟩
   ·obtain⟨hun,oj,hoj,hall⟩:=mem_ready.1 hj;have hmask:(M.getD j 0).testBit i=false:=by
     cases hb:(M.getD j 0).testBit i with
     | false=>rfl
     | true=>
       have:=listed_of_mask hM hl j (mem_ready_lt hj) i (mem_ready_lt hr) hb (fun o ho e he hbi=>by rw[hoj]at ho;obtain rfl:=Option.some.inj ho;exact hall e he hbi);rw[unlisted_false (mem_ready.1 hr).1]at this;cases this
    obtain⟨hap,hex⟩:=hf j oj hoj hji hun hmask;have h2:=op_put hoj hap (fun cs b=>Region.noSelect_spec hsel i oi cs b hi) (fun cs b=>Region.noSelect_spec hsel j oj cs b hoj) (fun c a w h=>(hQ _ _ _ h).elim) hy (H.2 j (ready_mono hj hji));refine wpOp_mono (fun a' w' h3 => ?_) h2;obtain⟨hg,hbel,hE⟩:=h3;have hb:Rl w w':=hbel.resolve_left (by rw[hex];simp)
    refine⟨.inr hb,ih _ a' w' (shut_set hl hj) ?_ (ready_mono hr (Ne.symm hji)) (hg.later hb) ?_⟩
    ·intro k ok hk hki hkun hkno;refine hf k ok hk hki ?_ hkno;by_cases hjk:j=k
     ·subst hjk;exact hun
     ·rw[getD_set_ne true hjk]at hkun;exact hkun
    ·rw[Array.setIfInBounds_comm _ _ hji];exact hE
theorem E_of_sch {K:Act→World→Prop}{ex:Nat→Bool}{M:Array Nat}(hM:okMask ops M=true)(hsel:Region.noSelect ops=true):
  ∀(s:Sch) (n:Nat) (l:Array Bool) (a:Act) (w:World),Shut ops l→okSch ops M ex s l n=true→wpSch Rl P ops K ex s a w→wpE Rl P .any ops (calm K) ex n l a w
 | .fin,n,l,a,w,_,ho,h=>by
   simp only[okSch,Bool.and_eq_true,beq_iff_eq,List.isEmpty_iff]at ho;obtain⟨rfl,hr⟩:=ho;exact⟨hr,h⟩
 | .mov i s,n,l,a,w,hl,ho,h=>by
   obtain⟨n,rfl⟩:∃m,n=m+1:=⟨n-1,by simp only[okSch,Bool.and_eq_true,bne_iff_ne,ne_eq]at ho;omega⟩
   obtain⟨o,v,hi,hg,h⟩:=h;simp only[okSch,Bool.and_eq_true,Nat.add_sub_cancel]at ho;obtain⟨⟨⟨_,hr⟩,hf⟩,ho⟩:=ho;have hr':i∈Region.ready .any ops l:=by simpa using hr
   refine E_take hM hsel hi (fun c a w h=>h) n l a w hl ?_ hr' hg (E_of_sch hM hsel s n _ _ w (shut_set hl hr') ho h);intro j oj hj hne hun hm;simp only[freeE,hi,List.all_eq_true,List.mem_range]at hf;have:=hf j (Array.getElem?_eq_some_iff.1 hj).1;have hm':((M[j]?.getD 0).testBit i)=false:=by simpa using hm
   simpa [hj,hne,hun,hm'] using this
 | .anc i s,n,l,a,w,hl,ho,h=>by
   obtain⟨n,rfl⟩:∃m,n=m+1:=⟨n-1,by simp only[okSch,Bool.and_eq_true,bne_iff_ne,ne_eq]at ho;omega⟩
   simp only[okSch,Bool.and_eq_true,Nat.add_sub_cancel,beq_iff_eq]at ho;obtain⟨⟨_,hr⟩,ho⟩:=ho;refine⟨fun h0=>absurd (hr.symm.trans h0) (List.cons_ne_nil _ _),fun j hj => ?_⟩;rw[hr,List.mem_singleton]at hj;subst hj;exact wpOp_mono (fun a' w' k=>⟨k.1,E_of_sch hM hsel s n _ a' w' (shut_set hl (by rw[hr];simp)) ho k.2⟩) (noEnd_op h)
 | .two i s j t,n,l,a,w,hl,ho,h=>by
   obtain⟨n,rfl⟩:∃m,n=m+1:=⟨n-1,by simp only[okSch,Bool.and_eq_true,bne_iff_ne,ne_eq]at ho;omega⟩
   simp only[okSch,Bool.and_eq_true,Nat.add_sub_cancel,beq_iff_eq]at ho;obtain⟨⟨⟨_,hr⟩,ho⟩,ho2⟩:=ho;refine⟨fun h0=>absurd (hr.symm.trans h0) (List.cons_ne_nil _ _),fun k hk => ?_⟩;rw[hr]at hk;simp only[List.mem_cons,List.not_mem_nil,or_false]at hk;rcases hk with rfl|rfl
   ·exact wpOp_mono (fun a' w' q=>⟨q.1,E_of_sch hM hsel s n _ a' w' (shut_set hl (by rw[hr];simp)) ho q.2⟩) (noEnd_op h.1)
   ·exact wpOp_mono (fun a' w' q=>⟨q.1,E_of_sch hM hsel t n _ a' w' (shut_set hl (by rw[hr];simp)) ho2 q.2⟩) (noEnd_op h.2)
theorem Wp_calm {K:Act→World→Prop}(hK:∀a w,K a w→Q .normal a w){c:Code}{a:Act}{w:World}(h:c.wp P (calm K) a w):c.wp P Q a w:=by intro b k cs;obtain⟨e,a',w',q,r⟩:=h b k cs;refine⟨e,a',w',?_,r⟩;cases e<;>first|exact hK _ _ q|exact q.elim
def okAll (ops:Array Oper)(ex:Nat→Bool)(s:Sch):Bool:=
 okMask ops (Region.before ops)&&(Region.noSelect ops&&okSch ops (Region.before ops) ex s (Array.replicate ops.size false) ops.size)
theorem region (Rl:World→World→Prop)[hPre:Pre Rl]{id:Nat}{l:List Oper}{a:Act}{w:World}(s:Sch)(exs:List Nat)(hm:P.follows .mixedOrders=true)
  (hk:okAll l.toArray (fun i=>exs.contains i) s=true)
  (h:∀(K:Act→World→Prop) (ops:Array Oper),Hid (ops=l.toArray)→(∀a w,Q .normal a w→K a w)→wpSch Rl P ops K (fun i=>exs.contains i) s a w.drew):(Code.region id l.toArray true).wp P Q a w:=by
 simp only[okAll,Bool.and_eq_true]at hk;refine Wp_calm (K:=Q .normal) (fun _ _ h=>h) (wp_region_any hm (wpAny_of_E _ _ _ _ (E_of_sch hk.1 hk.2.1 s _ _ a _ ?_ hk.2.2 (h _ _ rfl (fun _ _ h=>h)))));intro j o _ hj;simp[Array.getElem?_replicate]at hj;split at hj<;>simp at hj
open Go.Eag (runVal)
theorem mov {l:List Oper}(hops:Hid (ops=l.toArray)){K:Act→World→Prop}{i:Nat}{s:Sch}{ex:Nat→Bool}{a:Act}{w:World}{o:Oper}(hi:l.toArray[i]?=some o)(hg:o.guard=none)
  (hr:∀w',Rl w w'→(execOp a.eval o).run P w' = .ok (.value (runVal ((execOp a.eval o).run P w))) w')
  (h:wpSch Rl P ops K ex s (a.put o.dst (runVal ((execOp a.eval o).run P w))) w):wpSch Rl P ops K ex (.mov i s) a w:=
 ⟨o,_,(congrArg (fun q:Array Oper=>q[i]?) hops.out).trans hi,.inl ⟨by simp[Region.wanted,hg],fun w' hb=> .inl (hr w' hb)⟩,h⟩
theorem anc {l:List Oper}(hops:Hid (ops=l.toArray)){K:Act→World→Prop}{i:Nat}{s:Sch}{ex:Nat→Bool}{a:Act}{w:World}{o:Oper}(hi:l.toArray[i]?=some o)(hg:o.guard=none)
  (h:o.wp P a w (fun a' w'=>(ex i=true∨Rl w w')∧wpSch Rl P ops K ex s a' w') noEnd):wpSch Rl P ops K ex (.anc i s) a w:=by
 show wpOp P ops noEnd i _ a w;have hi':ops[i]?=some o:=(congrArg (fun q:Array Oper=>q[i]?) hops.out).trans hi;unfold wpOp;simp only[hi'];rw[if_pos (by simp[Region.wanted,hg])];exact .inl h
theorem two {l:List Oper}(hops:Hid (ops=l.toArray)){K:Act→World→Prop}{i j:Nat}{s t:Sch}{ex:Nat→Bool}{a:Act}{w:World}{o q:Oper}(hi:l.toArray[i]?=some o)(hg:o.guard=none)(hj:l.toArray[j]?=some q)(hg2:q.guard=none)
  (h:o.wp P a w (fun a' w'=>(ex i=true∨Rl w w')∧wpSch Rl P ops K ex s a' w') noEnd)
  (k:q.wp P a w (fun a' w'=>(ex j=true∨Rl w w')∧wpSch Rl P ops K ex t a' w') noEnd):wpSch Rl P ops K ex (.two i s j t) a w:=
 ⟨anc (s:=s) hops hi hg h,anc (s:=t) hops hj hg2 k⟩
theorem fin {K:Act→World→Prop}{ex:Nat→Bool}{a:Act}{w:World}(h:K a w):wpSch Rl P ops K ex .fin a w:=h
end
end Go.Eak
namespace Go.Eag
open Go Go.RowKit
theorem two {P:Program}{ops:Array Oper}{l:List Oper}(hops:Hid (ops=l.toArray)){K:Act→World→Prop}{i j:Nat}{s t:Sch}{ex:Nat→Bool}{a:Act}{w:World}{o q:Oper}
  (hi:l.toArray[i]?=some o) (hg:o.guard=none) (hj:l.toArray[j]?=some q) (hg2:q.guard=none)
  (h:o.wp P a w (fun a' w'=>(ex i=true∨Below w.heap.size w w')∧wpSch P ops K ex s a' w') noEnd)
  (k:q.wp P a w (fun a' w'=>(ex j=true∨Below w.heap.size w w')∧wpSch P ops K ex t a' w') noEnd):wpSch P ops K ex (.two i s j t) a w:=
 ⟨anc (s:=s) hops hi hg h,anc (s:=t) hops hj hg2 k⟩
end Go.Eag
namespace Go.Proofs.YtamkfdlcdiadlaaGreatDoor
open Go.RowKit
instance (H:Nat→Prop):Eak.Pre (Keep H):=⟨fun w=>Keep.refl H w,fun h k=>h.trans k⟩
theorem Keep.of_grown {H:Nat→Prop}{w w':World}{r:Option Nat}(h:w.grownBy w' r)(hr:∀x,r=some x→H x):Keep H w w':=
 ⟨h.os,h.tape,h.output,h.size,fun k hk hn=>h.block k hk fun e=>hn (hr k e.symm)⟩
theorem below_drews {B:Nat}{w w':World}(h:Below B w w'):Below B w.drew w'.drew:=⟨h.os,h.tape,h.output,h.size,h.block⟩
theorem SlS.at_ {w:World}{a:Option Addr}{c:Nat}{ss:List Pv.S4}(h:SlS w a c ss)(k:Nat)(hk:k<ss.length):∃blk off,a=some ⟨blk,off,none⟩ ∧
  w.cell? ⟨blk,off+k*4,none⟩=some (W64 ss[k].a)∧w.cell? ⟨blk,off+k*4+1,none⟩=some (W64 ss[k].b)∧w.cell? ⟨blk,off+k*4+2,none⟩=some (W64 ss[k].c)∧w.cell? ⟨blk,off+k*4+3,none⟩=some (W64 ss[k].d):=by
 obtain⟨b,o,e,hc⟩:=h.cell k hk;rw[Nat.mul_comm k 4];exact⟨b,o,e,hc 0 (by omega),hc 1 (by omega),hc 2 (by omega),hc 3 (by omega)⟩
theorem S4C_at {w:World}{b:Nat}{s:Pv.S4}{t:TypeId}(h:w.heap[b]?=some (.cells (S4C s) t)):
  w.cell? ⟨b,0,none⟩=some (W64 s.a)∧w.cell? ⟨b,1,none⟩=some (W64 s.b)∧w.cell? ⟨b,2,none⟩=some (W64 s.c)∧w.cell? ⟨b,3,none⟩=some (W64 s.d):=
 ⟨cB h rfl,cB h rfl,cB h rfl,cB h rfl⟩
theorem find_at {α:Type}{f:α→Bool}{l:List α}{j:Nat}(h:∀p∈l.take j,f p=false)(hj:j<l.length)(hf:f l[j]=true):l.find? f=some l[j]:=by
 have e:l=l.take j++l[j]::l.drop (j+1):=by simp
 conv=>lhs;rw[e]
 rw[List.find?_append,List.find?_eq_none.2 (fun p hp=>by simp[h p hp]),List.find?_cons,hf];rfl
theorem make_set (c:Nat)(hc:c<1099511627776)(w:World):∃cur:Array Value,cur.size=c*4∧(Instr.makeSlice 187 (.int .i64 0) (.int .i64 (c:Int))).run Tryz.prog w = .ok (.slice (some ⟨w.heap.size,0,none⟩) 0 c) (w.alloc (.cells cur 87)):=by
 obtain⟨i0,hi,hz0,hz1,hz2⟩:=info_parts info_set;have hr:=run_make (P:=Tryz.prog) w 187 87 i0 _ Tryz.underlying187 hi hz0 .i64 .i64 0 (c:Int) (by omega) (by omega) (by rw[hz2];omega) (by omega);refine⟨_,?_,hr⟩;rw[hz1,size_madeCells];simp
set_option maxRecDepth 20000 in
set_option maxHeartbeats 4000000 in
theorem sorted_any (ps:List Pv.S4)(a:Option Addr)(c:Nat)(w:World)(h:SlS w a c ps)(hn:ps.length≤256):
  Calls Tryz.prog 167 #[.slice a ps.length c] w fun e w'=>∃v,e = .returned v∧RowS w.heap.size w' v (Pv.sortedParts ps)∧Below w.heap.size w w':=by
 have HS:=Hy h;obtain⟨cur,hcur,hmk⟩:=make_set ps.length (by omega) w;have HM:=Hy hmk;have HC:=Hy hcur;clear h hmk hcur;go_enter Tryz.func167,Tryz.ntmps167;go_wp2_with fail;rw[HM.out];go_simp;go_wp2_with fail
 go_loopw [3,11] (fun v i wr=>∃(k:Nat) (out:List Pv.S4) (seen:Pv.S4),k≤256∧i = .int .i64 k∧out.length≤k∧Hid (Pv.sortedGo ps (256-k) k out seen=Pv.sortedParts ps)∧Hid (RowS w.heap.size wr v out) ∧
  Hid (wr.heap[w.heap.size+1]?=some (.cells (S4C seen) 87))∧Hid (v.ownBlock≠some (w.heap.size+1))∧Hid (Below w.heap.size w wr)) (fun _ i _=>(256-intOf i).toNat)
 case atStart=>
  refine⟨0,[],Pv.S4.zero,by omega,rfl,by simp,rfl,?_,?_,?_,?_⟩
  ·exact RowS.of_rowK (n:=0) (xs:=[]) ⟨rfl,.inr ⟨w.heap.size,ps.length,cur,rfl,Nat.le_refl _,blk_old (blk_new rfl),Nat.zero_le _,by unfold maxLen;omega,HC.out,by simp⟩⟩ rfl rfl
  ·exact blk_new (by simp)
  ·show _≠_;intro e;simp[Value.ownBlock]at e
  ·exact((Below.refl _ _).alloc (Nat.le_refl _) _).alloc (by simp) _
 case round=>
  obtain⟨k,out,seen,hk,rfl,hol,HG,HR,HB,HO,HW⟩:=hrel;by_cases hk4:k<256
  ·have hk':(k:Int)<256:=by omega
   obtain⟨s0,s1,s2,s3⟩:=S4C_at HB.out;have hG:=HG.out;rw[show 256-k=(255-k)+1 by omega,Pv.sortedGo]at hG;have hhas:=has_any seen k hk4 wr;have hwr:IntKind.u8.wrap (k:Int)=k:=by rw[IntKind.wrap_u8];omega
   cases hq:seen.has k
   ·rw[hq]at hhas hG;have Hhas:=Hy hhas;have HG2:=Hy hG;clear hhas hG hq;go_wp2_with fail;refine Hhas.out.mono ?_;rintro e w2 ⟨rfl,hb⟩;have A1:Hid (RowS w.heap.size w2 u3 out):=HR.out.later hb;have A2:=Hy (later_blk hb HB.out);have A3:=Hy (HW.out.trans (hb.mono HW.out.size));clear hb s0 s1 s2 s3 Hhas;go_wp2_with fail
    go_loopw [3,20] (fun v i wj=>∃j:Nat,j≤ps.length∧i = .int .i64 j∧v=u3∧Hid (∀p∈ps.take j,p.has k=false)∧Hid (Below w2.heap.size w2 wj)) (fun _ i _=>(ps.length-intOf i).toNat)
    case atStart=>exact⟨0,by omega,rfl,rfl,(fun p hp=>by simp at hp),Below.refl _ _⟩
    case round=>
     obtain⟨j,hj,rfl,rfl,HN,HV⟩:=hrel;by_cases hjn:j<ps.length
     ·have hj':(j:Int)<ps.length:=by omega
      have HWj:=Hy (A3.out.trans (HV.out.mono A3.out.size));obtain⟨blk,off,rfl,c0,c1,c2,c3⟩:=(HS.out.later HWj.out).at_ j hjn;have hj4:(j:Int)<1099511627776:=by omega
      have hfind:=Hy (fun hf=>find_at HN.out hjn hf);have hnx:Hid (ps[j].has k=false→∀p∈ps.take (j+1),p.has k=false):=fun hf p hp=>by
       rw[List.take_succ_eq_append_getElem hjn]at hp;rcases List.mem_append.1 hp with hp|hp
       ·exact HN.out p hp
       ·rw[List.mem_singleton.1 hp];exact hf
      generalize ps[j]=q at *;obtain⟨qa,qb,qc,qd⟩:=q;simp only at c0 c1 c2 c3;have hhas:=has_any ⟨qa,qb,qc,qd⟩ k hk4 (wr.alloc (.cells #[W64 qa,W64 qb,W64 qc,W64 qd] 87));cases hq:(⟨qa,qb,qc,qd⟩:Pv.S4).has k
      ·rw[hq]at hhas;have HQ:=Hy (hnx.out hq);have Hhas:=Hy hhas;clear hhas hq hfind hnx;go_wp2_with fail;refine Hhas.out.mono ?_;rintro e w3 ⟨rfl,hb⟩;have hb2:=Hy (HV.out.trans ((((Below.refl _ wr).alloc (Nat.le_refl _) _).trans (hb.mono (by simp))).mono HV.out.size));clear hb c0 c1 c2 c3;go_wp2_with fail;go_roundw
       case rel=>exact⟨j+1,by omega,by go_num,rfl,HQ.out,hb2.out⟩
       case measure=>simp[intOf];omega
      ·rw[hq]at hhas;have hf:=hfind.out hq;have hG3:=HG2.out;rw[hf]at hG3;have HG3:=Hy hG3;have Hhas:=Hy hhas;clear hhas hq hfind hnx hf hG3 HG2;go_wp2_with fail;refine Hhas.out.mono ?_;rintro e w3 ⟨rfl,hb⟩;have hV3:=HV.out.trans ((((Below.refl _ wr).alloc (Nat.le_refl _) (.cells #[W64 qa,W64 qb,W64 qc,W64 qd] 87)).trans (hb.mono (by simp))).mono HV.out.size)
       have HB3:=Hy (A3.out.trans (hV3.mono A3.out.size));have HR3:Hid (RowS w.heap.size w3 u3 out):=A1.out.later hV3;have hs3:=later_blk hV3 A2.out;obtain⟨s0,s1,s2,s3⟩:=S4C_at hs3;obtain⟨t0,t1,t2,t3⟩:=S4C_at (s:=⟨qa,qb,qc,qd⟩) (later_blk hb (blk_new (w:=wr) rfl));have HS3:=Hy hs3;have hl3:=blk_lt hs3;simp only at t0 t1 t2 t3;clear hb c0 c1 c2 c3 hs3 hV3;go_wp2_with fail
       have n4:¬(u3.ownBlock=some (w.heap.size+1)):=HO.out;have n7:¬(u3.ownBlock=some wr.heap.size):=fun e=>by have:=(RowK.lt A1.out e).2;have:=HV.out.size;omega
       refine Eak.region (Keep fun x=>u3.ownBlock=some x) (.mov 0 (.mov 1 (.mov 4 (.mov 5 (.anc 2 (.anc 3 (.anc 6 (.mov 7 (.anc 8 Eag.Sch.fin))))))))) [8] (by kernel_rfl) (by kernel_rfl) (fun K ops hops hK => ?_);iterate 4
        refine Eak.mov hops rfl rfl (fun w' hb => ?_) ?_
        ·have q0:=Keep.cell hb n4 s0;have q1:=Keep.cell hb n4 s1;have q2:=Keep.cell hb n4 s2;have q3:=Keep.cell hb n4 s3;have q4:=Keep.cell hb n7 t0;have q5:=Keep.cell hb n7 t1;have q6:=Keep.cell hb n7 t2;have q7:=Keep.cell hb n7 t3;clear hb;go_simp
        go_simp
       refine Eak.anc hops rfl rfl ?_;go_wp2_with fail;refine⟨.of_below (below_drews ((Below.refl _ w3).alloc (Nat.le_refl _) _)),?_⟩;refine Eak.anc hops rfl rfl ?_;refine app1S_op _ _ rfl w.heap.size u3 out rfl (HR3.out.later ((Below.refl _ w3).alloc (Nat.le_refl _) _).drew) w3.heap.size ⟨qa,qb,qc,qd⟩ rfl (blk_new rfl) (by omega) (by have:=HB3.out.size;simp;omega) ?_;intro v4 w4 hr4 hb4 hg4 hm4
       refine⟨.inr (Keep.of_grown hg4 fun x e=>e),?_⟩;have HB4:=Hy ((HB3.out.alloc HB3.out.size (.cells #[W64 qa,W64 qb,W64 qc,W64 qd] 87)).drew.trans hb4);have hs4:w4.heap[w.heap.size+1]?=some (.cells (S4C seen) 87):=(hg4.block (w.heap.size+1) (by simp;omega) (Ne.symm HO.out)).trans ((blk_alloc.trans (if_neg (by omega))).trans HS3.out);have HM4:Hid (v4.ownBlock≠some (w.heap.size+1)):=by
        rcases hm4 with e|⟨g,e,hg⟩
        ·show _≠_;rw[e];exact HO.out
        ·show _≠_;rw[e];intro e;injection e with e;simp at hg;omega
       have HR4:=Hy hr4;have HS4:=Hy hs4;clear hr4 hb4 hg4 hm4 hs4;go_simp;refine Eak.anc hops rfl rfl ?_;go_wp2_with fail;refine(or_any seen ⟨qa,qb,qc,qd⟩ w4).mono ?_;rintro e w5 ⟨rfl,hb5⟩;refine⟨.of_below hb5,?_⟩;have HB5:=Hy (HB4.out.trans (hb5.mono HB4.out.size));have HR5:Hid (RowS w.heap.size w5 v4 (out++[⟨qa,qb,qc,qd⟩])):=HR4.out.later hb5;have hs5:=later_blk hb5 HS4.out
       obtain⟨s0,s1,s2,s3⟩:=S4C_at hs5;have f0:=fob (o:=0) hs5;have f1:=fob (o:=1) hs5;have f2:=fob (o:=2) hs5;have f3:=fob (o:=3) hs5;have HS5:=Hy hs5;clear hb5 hs5;iterate 1
        refine Eak.mov hops rfl rfl (fun w' hb => ?_) ?_
        ·clear hb;go_simp
        go_simp
       generalize hsn:seen.or ⟨qa,qb,qc,qd⟩=sn at *;obtain⟨na,nb,nc,nd⟩:=sn;refine Eak.anc hops rfl rfl ?_;go_wp2_with fail;refine Eak.fin (hK _ _ ?_);clear hK hops;go_simp;go_wp2_with fail;go_roundw
       case rel=>
        refine⟨k+1,out++[⟨qa,qb,qc,qd⟩],⟨na,nb,nc,nd⟩,by omega,by go_num,by simp;omega,?_,?_,?_,HM4,?_⟩
        ·show _=_;rw[show 256-(k+1)=255-k by omega];simpa using HG3.out
        ·exact RowK.keep HR5.out fun g e hl=>by
          have:g≠w.heap.size+1:=fun e2=>HM4.out (by rw[e,e2])
          rw[blk_set_ne this,blk_set_ne this,blk_set_ne this,blk_set_ne this]
        ·show _=_;rw[blk_set (blk_set (blk_set (blk_set HS5.out)))];rfl
        ·exact(((HB5.out.setCell (by simp) _).setCell (by simp) _).setCell (by simp) _).setCell (by simp) _
       case measure=>simp[intOf];omega
     ·have e:j=ps.length:=by omega
      subst e;have hf:ps.find? (fun p=>p.has k)=none:=by have:=HN.out;rw[List.take_length]at this;exact List.find?_eq_none.2 fun p hp=>by simp[this p hp]
      have hG3:=HG2.out;rw[hf]at hG3;have HG3:=Hy hG3;have HB3:=Hy (A3.out.trans (HV.out.mono A3.out.size));have HR3:Hid (RowS w.heap.size wr u3 out):=A1.out.later HV.out;have HS3:=Hy (later_blk HV.out A2.out);clear hG3 HG2 hf;go_wp2_with fail;go_roundw
      case rel=>exact⟨k+1,out,seen,by omega,by go_num,by omega,(by show _=_;rw[show 256-(k+1)=255-k by omega];simpa using HG3.out),HR3,HS3,HO,HB3⟩
      case measure=>simp[intOf];omega
   ·rw[hq,if_pos rfl]at hG;rw[hq]at hhas;have Hhas:=Hy hhas;have HG2:=Hy hG;clear hhas hG hq;go_wp2_with fail;refine Hhas.out.mono ?_;rintro e w2 ⟨rfl,hb⟩;have A1:Hid (RowS w.heap.size w2 u3 out):=HR.out.later hb;have A2:=Hy (later_blk hb HB.out);have A3:=Hy (HW.out.trans (hb.mono HW.out.size));clear hb;go_wp2_with fail;go_roundw
    case rel=>exact⟨k+1,out,seen,by omega,by go_num,by omega,(by show _=_;rw[show 256-(k+1)=255-k by omega];exact HG2.out),A1,A2,HO,A3⟩
    case measure=>simp[intOf];omega
  ·have e:k=256:=by omega
   subst e;have hG:=HG.out;simp only[Nat.sub_self,Pv.sortedGo]at hG;subst hG;go_wp2_with fail;go_ret;exact⟨_,rfl,HR.out,HW.out⟩
end Go.Proofs.YtamkfdlcdiadlaaGreatDoor
namespace Go.Proofs.YtamkfdlcdiadlaaGreatDoor
open Go.RowKit Go.Shelf
attribute [local go_sem] Oper.semAt_some
def KeepsBlk (sb:Nat)(A B:World):Prop:=∀cs t fr,A.heap[sb]?=some (.cells cs t fr)→B.heap[sb]?=some (.cells cs t fr)
def bytesTo (s:Pv.S4)(k:Nat):List (Fin 256):=((List.finRange 256).take k).filter fun b=>s.has b.val
theorem bytesTo_succ (s:Pv.S4)(k:Nat)(h:k<256):bytesTo s (k+1)=bytesTo s k++if s.has k then [⟨k,h⟩] else []:=by unfold bytesTo;rw[List.take_succ_eq_append_getElem (by simpa using h),List.filter_append];congr 1;simp only[List.getElem_finRange,List.filter_cons,List.filter_nil];rfl
theorem bytesTo_len (s:Pv.S4)(k:Nat)(h:k≤256):(bytesTo s k).length≤k:=by refine Nat.le_trans (List.length_filter_le _ _) ?_;simp;omega
theorem grown_of_below {w w':World}(h:Below w.heap.size w w'):w.grownBy w' none:=⟨h.os,h.tape,h.output,h.size,fun k hk _=>h.block k hk⟩
set_option maxRecDepth 20000 in
set_option maxHeartbeats 2000000 in
theorem bytes_stops (n:Nat)(hn:2≤n)(sb:Nat)(s:Pv.S4)(w:World)(hsb:w.heap[sb]?=some (.cells (S4C s) 87)):
  SeqStopsK Fence.wide n Tryz.prog 197 #[Ptr sb] (fun b:Fin 256=>#[.int .u8 (((b:Nat):Int))]) (KeepsBlk sb) (fun xs=>xs=bytesTo s 256) (fun _=>True) 256 w:=by
 intro l J Jx W hW hJ hJx hY h0;have hs:=Hy (later_blk hW hsb);have HY:=Hy hY;have HJ:=Hy hJ;have HJx:=Hy hJx;have H0:=Hy h0;clear hY hJ hJx h0 hW hsb;refine callsIn_of_wp Tryz.func197 rfl trivial ?_ rfl
 simp only[Tryz.ntmps197,List.size_toArray,List.length_cons,List.length_nil,Nat.reduceAdd,Nat.reduceSub,Array.replicate_succ,Array.replicate_zero,List.push_toArray,List.append_toArray,List.nil_append,List.cons_append]
 gi_wp2
 gi_loopw [4] (fun p wr=>∃k:Nat,k≤256∧p = .int .i64 k∧Hid (J (bytesTo s k) wr)∧Hid (wr.heap[sb]?=some (.cells (S4C s) 87))) (fun p _=>(256-intOf p).toNat)
 case atStart=>exact⟨0,by omega,rfl,H0.out,hs.out⟩
 case round=>
  obtain⟨k,hk,rfl,HJk,Hs⟩:=hrel;by_cases hk4:k<256
  ·have hk':(k:Int)<256:=by omega
   have hwr:IntKind.u8.wrap (k:Int)=k:=by rw[IntKind.wrap_u8];omega
   obtain⟨s0,s1,s2,s3⟩:=S4C_at Hs.out;have hhas:=has_any s k hk4 wr;cases hq:s.has k
   ·rw[hq]at hhas;have Hhas:=Hy hhas;have hJ2:=fun W2 hb=>HJ.out _ wr W2 none HJk.out (grown_of_below hb) (fun r e=>by cases e)
    have hto:=bytesTo_succ s k hk4;rw[hq]at hto;have HJ2:=Hy hJ2;have HTO:=Hy hto;clear hhas hq hJ2 hto
    gi_wp2
    refine⟨trivial,fun _=>by omega,(callsIn_wide.2 Hhas.out).mono ?_⟩;rintro e w2 ⟨rfl,hb⟩;have HJ3:=Hy (HJ2.out w2 hb);have Hs3:=Hy (later_blk hb Hs.out);clear hb s0 s1 s2 s3
    gi_wp2
    refine⟨fun _ h=>(by cases h),?_⟩
    gi_wp2
    go_roundw
    case rel=>exact⟨k+1,by omega,by go_num,(by show J _ _;rw[HTO.out];simpa using HJ3.out),Hs3.out⟩
    case measure=>simp[intOf];omega
   ·rw[hq]at hhas;have Hhas:=Hy hhas;have hJ2:=fun W2 hb=>HJ.out _ wr W2 none HJk.out (grown_of_below hb) (fun r e=>by cases e)
    have hto:=bytesTo_succ s k hk4;rw[hq]at hto;have HJ2:=Hy hJ2;have HTO:=Hy hto;clear hhas hq hJ2 hto
    gi_wp2
    refine⟨trivial,fun _=>by omega,(callsIn_wide.2 Hhas.out).mono ?_⟩;rintro e w2 ⟨rfl,hb⟩;have HJ3:=Hy (HJ2.out w2 hb);have Hs3:=Hy (later_blk hb Hs.out);obtain⟨fn,tmps,assign,body,hy,hR⟩:=HY.out (bytesTo s k) ⟨k,hk4⟩ w2 HJ3.out (by have:=bytesTo_len s k (by omega);omega);have HR:=Hy hR;simp only at hy;clear hb s0 s1 s2 s3 hR
    gi_wp2
    refine⟨fun _=>by omega,HR.out.mono ?_⟩;rintro e W3 (⟨rfl,hJ3,hk3⟩|⟨rfl,hJx3⟩)
    ·have A1:=Hy hJ3;have A2:=Hy (hk3 _ _ _ Hs3.out);clear hJ3 hk3
     gi_wp2
     go_roundw
     case rel=>exact⟨k+1,by omega,by go_num,(by show J _ _;rw[HTO.out];simpa using A1.out),A2.out⟩
     case measure=>simp[intOf];omega
    ·have A1:=Hy hJx3;clear hJx3
     gi_wp2
     refine bodyPost_ret (results_none rfl _ _ _) rfl ?_;exact⟨⟨_,rfl⟩,.inr ⟨_,trivial,A1.out⟩⟩
  ·have e:k=256:=by omega
   subst e
   gi_wp2
   go_end0;exact⟨⟨_,rfl⟩,.inl ⟨_,rfl,HJk.out⟩⟩
end Go.Proofs.YtamkfdlcdiadlaaGreatDoor
