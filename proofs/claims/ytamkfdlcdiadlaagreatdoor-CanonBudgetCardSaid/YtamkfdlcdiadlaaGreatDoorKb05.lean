/- A fact laid behind Hid, under a short name. -/
import Derived.Lib.Hide
import Derived.Orders
import Derived.Attr
import Derived.Below
import Derived.Test.YtamkfdlcdiadlaaGreatDoorProg
import Derived.Test.YtamkfdlcdiadlaaGreatDoorKb01
import Derived.WalkKit
import Derived.ProofKit
import Derived.Shelf.Abstract
import Derived.Laws.AppendOwnNone
import Derived.Test.YtamkfdlcdiadlaaGreatDoorKb02
set_option linter.all false
theorem Go.Proofs.YtamkfdlcdiadlaaGreatDoor.Hy {p : Prop} (h : p) : Go.RowKit.Hid p := Go.Lib.hid h
namespace Go.Eag
open Go Go.RowKit
section
variable {P:Program}{ops:Array Oper}{Q:Exit→Act→World→Prop}{md:Region.Mode}
def Gives (P:Program)(ops:Array Oper)(w:World)(o:Oper)(v:Value)(a:Act):Prop:=
 (Region.wanted o (yielded ops a.tmps)=true∧∀w',Below w.heap.size w w' →
  ((execOp a.eval o).run P w' = .ok (.value v) w'∨∃f args,(execOp a.eval o).run P w' = .ok (.enter f args) w'∧Calls P f args w' (fun e w''=>e = .returned v∧w''=w'))) ∨
 (Region.wanted o (yielded ops a.tmps)=false∧v=undef)
theorem Gives.later {w w1:World}{o:Oper}{v:Value}{a:Act}(h:Gives P ops w o v a)(hb:Below w.heap.size w w1):Gives P ops w1 o v a:=by
 rcases h with⟨h1,h2⟩|h
 ·exact .inl ⟨h1,fun w' hb'=>h2 w' (hb.trans (hb'.mono hb.size))⟩
 ·exact .inr h
theorem Gives.same {w:World}{o:Oper}{v:Value}{a a':Act}(h:Gives P ops w o v a)(he:execOp a'.eval o=execOp a.eval o)
  (hw:Region.wanted o (yielded ops a'.tmps)=Region.wanted o (yielded ops a.tmps)):Gives P ops w o v a':=by
 unfold Gives at *;rw[he,hw];exact h
theorem Gives.op {i:Nat}{w:World}{o:Oper}{v:Value}{a:Act}{K:Act→World→Prop}(hi:ops[i]?=some o)(h:Gives P ops w o v a)(hk:K (a.put o.dst v) w):
  wpOp P ops Q i K a w:=by
 unfold wpOp;simp only[hi];rcases h with⟨hw,hv⟩|⟨hw,rfl⟩
 ·rw[if_pos hw];left;rcases hv w (Below.refl _ _) with hr|⟨f,args,hr,hc⟩
  ·unfold Oper.wp;rw[hr];exact hk
  ·unfold Oper.wp;rw[hr];exact hc.mono (fun e w'' ⟨he,hw'⟩=>by subst he;subst hw';exact hk)
 ·rw[if_neg (by rw[hw];simp)];exact hk
def wpE (P:Program)(md:Region.Mode)(ops:Array Oper)(Q:Exit→Act→World→Prop)(ex:Nat→Bool):Nat→Array Bool→Act→World→Prop
 | 0,listed,a,w=>Region.ready md ops listed=[]∧Q .normal a w
 | n+1,listed,a,w=>(Region.ready md ops listed=[]→Q .normal a w) ∧
   ∀i∈Region.ready md ops listed,wpOp P ops Q i (fun a' w'=>(ex i=true∨Below w.heap.size w w')∧wpE P md ops Q ex n (listed.setIfInBounds i true) a' w') a w
theorem wpAny_of_E {ex:Nat→Bool}:∀(n:Nat) (l:Array Bool) (a:Act) (w:World),wpE P md ops Q ex n l a w→wpAny P md ops Q n l a w
 | 0,_,_,_,h=>h
 | n+1,_,_,_,h=>⟨h.1,fun i hi=>wpOp_mono (fun a' w' k=>wpAny_of_E n _ a' w' k.2) (h.2 i hi)⟩
theorem op_put {j:Nat}{oi oj:Oper}{v:Value}{w0:World}(hj:ops[j]?=some oj)(hap:oi.apart ops oj=true)
  (hsi:∀cs b,oi.op≠.select cs b) (hsj:∀cs b,oj.op≠.select cs b) (hQ:∀c a w,Q (.panic c) (a.put oi.dst v) w→Q (.panic c) a w)
  {K:Act→World→Prop} {a:Act} {w:World} (hy:Gives P ops w0 oi v a) (h:wpOp P ops Q j K (a.put oi.dst v) w):
  wpOp P ops Q j (fun a' w'=>Gives P ops w0 oi v a'∧K (a'.put oi.dst v) w') a w:=by
 obtain⟨h1,h2,h3⟩:=Oper.apart_spec hap;have keep:∀b:Act,Gives P ops w0 oi v b→∀u,Gives P ops w0 oi v (b.put oj.dst u):=fun b hb u=>
  hb.same (execOp_put oi hsi b oj.dst u h3) (wanted_put oi b oj.dst u h3)
 have swap:∀(b:Act) (u:Value),(b.put oi.dst v).put oj.dst u=(b.put oj.dst u).put oi.dst v:=fun b u=>Act.put_comm b v u h2
 unfold wpOp at h ⊢;simp only[hj]at h ⊢;rw[wanted_put oj a oi.dst v h1]at h;by_cases hw:Region.wanted oj (yielded ops a.tmps)=true
 ·rw[if_pos hw]at h ⊢;rcases h with h|⟨ha,hl⟩
  ·left;unfold Oper.wp at h ⊢;rw[execOp_put oj hsj a oi.dst v h1]at h;revert h;cases (execOp a.eval oj).run P w with
   | halt x w'=>cases x<;>simp only[Oper.upon]<;>first|exact hQ _ _ _|exact id
   | ok n w'=>
     cases n with
     | value u=>simp only[Oper.upon];rw[swap];exact fun h=>⟨keep a hy u,h⟩
     | skip=>simp only[Oper.upon];rw[swap];exact fun h=>⟨keep a hy _,h⟩
     | defer d=>
       simp only[Oper.upon];intro h;refine⟨keep { a with defers:=d::a.defers } (hy.same rfl rfl) undef,?_⟩;rw[←Act.put_comm _ v undef h2,←Act.put_defers];exact h
     | enter f args=>
       simp only[Oper.upon];exact fun h=>h.mono (fun e w'' he=>by
        cases e with
        | returned u=>exact⟨keep a hy u,by rw[←swap];exact he⟩
        | panicked c=>exact hQ _ _ _ he
        | outgrown=>exact he)
     | row r args=>simp only[Oper.upon];exact fun h=>h.mono (fun u w'' he=>⟨keep a hy u,by rw[←swap];exact he⟩)
     | _=>exact fun h=>h.elim
  ·exact .inr ⟨by unfold Oper.asks at ha ⊢;rw[execOp_put oj hsj a oi.dst v h1]at ha;exact ha,hl⟩
 ·rw[if_neg hw]at h ⊢;rw[swap]at h;exact⟨keep a hy _,h⟩
def okMask (ops:Array Oper)(M:Array Nat):Bool:=
 (List.range ops.size).all fun j=>(List.range ops.size).all fun i => !(M.getD j 0).testBit i ||
  match ops[j]? with
  | some o=>o.after.any fun e=>Region.binds .any e&&(decide (e.on<j)&&(e.on==i||(M.getD e.on 0).testBit i))
  | none=>false
def Shut (ops:Array Oper)(l:Array Bool):Prop:=∀(j:Nat) (o:Oper),ops[j]?=some o→l.getD j false=true→∀e∈o.after,Region.binds .any e=true→l.getD e.on false=true
theorem listed_of_mask {M:Array Nat}(hM:okMask ops M=true){l:Array Bool}(hl:Shut ops l):∀(j:Nat),j<ops.size→∀i,i<ops.size→(M.getD j 0).testBit i=true →
  (∀o,ops[j]?=some o→∀e∈o.after,Region.binds .any e=true→l.getD e.on false=true)→l.getD i false=true:=by
 intro j;induction j using Nat.strongRecOn with
 | _ j ih=>
   intro hj i hi hb hall;have h:=List.all_eq_true.1 (List.all_eq_true.1 hM j (List.mem_range.2 hj)) i (List.mem_range.2 hi);obtain⟨o,ho⟩:∃o,ops[j]?=some o:=⟨ops[j],Array.getElem?_eq_getElem hj⟩
   simp only[hb,ho,Bool.not_true,Bool.false_or,Array.any_eq_true',Bool.and_eq_true,Bool.or_eq_true,beq_iff_eq,decide_eq_true_eq]at h;obtain⟨e,he,hbi,hlt,h⟩:=h;have h1:=hall o ho e he hbi;rcases h with rfl|h
   ·exact h1
   ·refine ih e.on hlt (by omega) i hi h fun o' ho' e' he' hb'=>hl e.on o' ho' h1 e' he' hb'
inductive Sch where
 | fin
 | mov (i:Nat) (s:Sch)
 | anc (i:Nat) (s:Sch)
 | two (i:Nat) (s:Sch) (j:Nat) (t:Sch)
def calm (K:Act→World→Prop):Exit→Act→World→Prop
 | .normal,a,w=>K a w
 | _,_,_=>False
def noEnd:Exit→Act→World→Prop:=fun _ _ _=>False
def wpSch (P:Program)(ops:Array Oper)(K:Act→World→Prop)(ex:Nat→Bool):Sch→Act→World→Prop
 | .fin,a,w=>K a w
 | .mov i s,a,w=>∃o v,ops[i]?=some o∧Gives P ops w o v a∧wpSch P ops K ex s (a.put o.dst v) w
 | .anc i s,a,w=>wpOp P ops noEnd i (fun a' w'=>(ex i=true∨Below w.heap.size w w')∧wpSch P ops K ex s a' w') a w
 | .two i s j t,a,w=>wpOp P ops noEnd i (fun a' w'=>(ex i=true∨Below w.heap.size w w')∧wpSch P ops K ex s a' w') a w ∧
  wpOp P ops noEnd j (fun a' w'=>(ex j=true∨Below w.heap.size w w')∧wpSch P ops K ex t a' w') a w
theorem noEnd_op {Q:Exit→Act→World→Prop}{i:Nat}{K:Act→World→Prop}{a:Act}{w:World}(h:wpOp P ops noEnd i K a w):wpOp P ops Q i K a w:=by
 unfold wpOp at *;split
 ·simpa [*] using h
 ·rename_i o ho;simp only[ho]at h;split
  ·rename_i hw;rw[if_pos hw]at h;rcases h with h|⟨_,_,_,h⟩
   ·left;unfold Oper.wp at *;revert h;cases (execOp a.eval o).run P w with
    | halt x w'=>cases x<;>simp only[Oper.upon]<;>exact fun h=>h.elim
    | ok n w'=>
      cases n with
      | enter f args=>
        simp only[Oper.upon];exact fun h=>h.mono (fun e w'' he=>by
         cases e with
         | returned u=>exact he
         | panicked c=>exact he.elim
         | outgrown=>obtain⟨_,_,h⟩:=he;exact h.elim)
      | _=>exact id
   ·exact h.elim
  ·rename_i hw;rw[if_neg hw]at h;exact h
def freeE (ops:Array Oper)(M:Array Nat)(ex:Nat→Bool)(l:Array Bool)(i:Nat):Bool:=
 match ops[i]? with
 | none=>false
 | some oi=>(List.range ops.size).all fun j=>j==i||l.getD j true||(M.getD j 0).testBit i||(match ops[j]? with|some oj=>oi.apart ops oj && !ex j|none=>true)
def okSch (ops:Array Oper)(M:Array Nat)(ex:Nat→Bool):Sch→Array Bool→Nat→Bool
 | .fin,l,n=>n==0&&(Region.ready .any ops l).isEmpty
 | .mov i s,l,n=>n != 0&&(Region.ready .any ops l).contains i&&freeE ops M ex l i&&okSch ops M ex s (l.setIfInBounds i true) (n-1)
 | .anc i s,l,n=>n != 0&&Region.ready .any ops l==[i]&&okSch ops M ex s (l.setIfInBounds i true) (n-1)
 | .two i s j t,l,n=>n != 0&&Region.ready .any ops l==[i,j]&&okSch ops M ex s (l.setIfInBounds i true) (n-1)&&okSch ops M ex t (l.setIfInBounds j true) (n-1)
theorem shut_set {l:Array Bool}(hl:Shut ops l){i:Nat}(hi:i∈Region.ready .any ops l):Shut ops (l.setIfInBounds i true):=by
 intro j o ho hj e he hb;by_cases hji:i=j
 ·subst hji;obtain⟨_,o',ho',hall⟩:=mem_ready.1 hi;rw[ho]at ho';obtain rfl:=Option.some.inj ho';exact getD_set_true (hall e he hb)
 ·rw[getD_set_ne false hji]at hj;exact getD_set_true (hl j o ho hj e he hb)
theorem unlisted_false {l:Array Bool}{i:Nat}(h:l.getD i true=false):l.getD i false=false:=by
 rcases Nat.lt_or_ge i l.size with q|q
 ·simp[q]at h ⊢;exact h
 ·simp[Array.getElem?_eq_none q]at h
theorem mem_ready_lt {l:Array Bool}{i:Nat}(h:i∈Region.ready .any ops l):i<ops.size:=by obtain⟨_,o,ho,_⟩:=mem_ready.1 h;exact(Array.getElem?_eq_some_iff.1 ho).1
theorem E_take {ex:Nat→Bool}{M:Array Nat}(hM:okMask ops M=true)(hsel:Region.noSelect ops=true){i:Nat}{oi:Oper}{v:Value}(hi:ops[i]?=some oi)
  (hQ:∀c a w,Q (.panic c) a w→False):
  ∀(n:Nat) (l:Array Bool) (a:Act) (w:World),Shut ops l →
   (∀j oj,ops[j]?=some oj→j≠i→l.getD j true=false→(M.getD j 0).testBit i=false→oi.apart ops oj=true∧ex j=false) →
   i∈Region.ready .any ops l→Gives P ops w oi v a →
   wpE P .any ops Q ex n (l.setIfInBounds i true) (a.put oi.dst v) w→wpE P .any ops Q ex (n+1) l a w:=by
 intro n;induction n with
 | zero=>
   intro l a w _ _ hr hy H;refine⟨fun h=>(by rw[h]at hr;cases hr),fun j hj => ?_⟩;by_cases hji:j=i
   ·subst hji;exact hy.op hi ⟨.inr (Below.refl _ _),H⟩
   ·have:=ready_mono hj hji;rw[H.1]at this;cases this
 | succ n ih=>
   intro l a w hl hf hr hy H;refine⟨fun h=>(by rw[h]at hr;cases hr),fun j hj => ?_⟩;by_cases hji:j=i
   ·subst hji;exact hy.op hi ⟨.inr (Below.refl _ _),H⟩
   ·obtain⟨hun,oj,hoj,hall⟩:=mem_ready.1 hj;have hmask:(M.getD j 0).testBit i=false:=by
     cases hb:(M.getD j 0).testBit i with
     | false=>rfl
     | true=>
       have:=listed_of_mask hM hl j (mem_ready_lt hj) i (mem_ready_lt hr) hb (fun o ho e he hbi=>by rw[hoj]at ho;obtain rfl:=Option.some.inj ho;exact hall e he hbi);rw[unlisted_false (mem_ready.1 hr).1]at this;cases this
    obtain⟨hap,hex⟩:=hf j oj hoj hji hun hmask;have h2:=op_put hoj hap (fun cs b=>Region.noSelect_spec hsel i oi cs b hi) (fun cs b=>Region.noSelect_spec hsel j oj cs b hoj) (fun c a w h=>(hQ _ _ _ h).elim) hy (H.2 j (ready_mono hj hji));refine wpOp_mono (fun a' w' h3 => ?_) h2;obtain⟨hg,hbel,hE⟩:=h3;have hb:Below w.heap.size w w':=hbel.resolve_left (by rw[hex];simp)
    refine⟨.inr hb,ih _ a' w' (shut_set hl hj) ?_ (ready_mono hr (Ne.symm hji)) (hg.later hb) ?_⟩
    ·intro k ok hk hki hkun hkno;refine hf k ok hk hki ?_ hkno;by_cases hjk:j=k
     ·subst hjk;exact hun
     ·rw[getD_set_ne true hjk]at hkun;exact hkun
    ·rw[Array.setIfInBounds_comm _ _ hji];exact hE
theorem E_of_sch {K:Act→World→Prop}{ex:Nat→Bool}{M:Array Nat}(hM:okMask ops M=true)(hsel:Region.noSelect ops=true):
  ∀(s:Sch) (n:Nat) (l:Array Bool) (a:Act) (w:World),Shut ops l→okSch ops M ex s l n=true→wpSch P ops K ex s a w→wpE P .any ops (calm K) ex n l a w
 | .fin,n,l,a,w,_,ho,h=>by
   simp only[okSch,Bool.and_eq_true,beq_iff_eq,List.isEmpty_iff]at ho;obtain⟨rfl,hr⟩:=ho;exact⟨hr,h⟩
 | .mov i s,n,l,a,w,hl,ho,h=>by
   obtain⟨n,rfl⟩:∃m,n=m+1:=⟨n-1,by simp only[okSch,Bool.and_eq_true,bne_iff_ne,ne_eq]at ho;omega⟩
   obtain⟨o,v,hi,hg,h⟩:=h;simp only[okSch,Bool.and_eq_true,Nat.add_sub_cancel]at ho;obtain⟨⟨⟨_,hr⟩,hf⟩,ho⟩:=ho;have hr':i∈Region.ready .any ops l:=by simpa using hr
   refine E_take hM hsel hi (fun c a w h=>h) n l a w hl ?_ hr' hg (E_of_sch hM hsel s n _ _ w (shut_set hl hr') ho h);intro j oj hj hne hun hm;simp only[freeE,hi,List.all_eq_true,List.mem_range]at hf;have:=hf j (Array.getElem?_eq_some_iff.1 hj).1;have hm':((M[j]?.getD 0).testBit i)=false:=by simpa using hm
   simpa [hj,hne,hun,hm'] using this
 | .anc i s,n,l,a,w,hl,ho,h=>by
   obtain⟨n,rfl⟩:∃m,n=m+1:=⟨n-1,by simp only[okSch,Bool.and_eq_true,bne_iff_ne,ne_eq]at ho;omega⟩
   simp only[okSch,Bool.and_eq_true,Nat.add_sub_cancel,beq_iff_eq]at ho;obtain⟨⟨_,hr⟩,ho⟩:=ho;refine⟨fun h0=>absurd (hr.symm.trans h0) (List.cons_ne_nil _ _),fun j hj => ?_⟩;rw[hr,List.mem_singleton]at hj;subst hj;exact wpOp_mono (fun a' w' k=>⟨k.1,E_of_sch hM hsel s n _ a' w' (shut_set hl (by rw[hr];simp)) ho k.2⟩) (noEnd_op h)
 | .two i s j t,n,l,a,w,hl,ho,h=>by
   obtain⟨n,rfl⟩:∃m,n=m+1:=⟨n-1,by simp only[okSch,Bool.and_eq_true,bne_iff_ne,ne_eq]at ho;omega⟩
   simp only[okSch,Bool.and_eq_true,Nat.add_sub_cancel,beq_iff_eq]at ho;obtain⟨⟨⟨_,hr⟩,ho⟩,ho2⟩:=ho;refine⟨fun h0=>absurd (hr.symm.trans h0) (List.cons_ne_nil _ _),fun k hk => ?_⟩;rw[hr]at hk;simp only[List.mem_cons,List.not_mem_nil,or_false]at hk;rcases hk with rfl|rfl
   ·exact wpOp_mono (fun a' w' q=>⟨q.1,E_of_sch hM hsel s n _ a' w' (shut_set hl (by rw[hr];simp)) ho q.2⟩) (noEnd_op h.1)
   ·exact wpOp_mono (fun a' w' q=>⟨q.1,E_of_sch hM hsel t n _ a' w' (shut_set hl (by rw[hr];simp)) ho2 q.2⟩) (noEnd_op h.2)
theorem Wp_calm {K:Act→World→Prop}(hK:∀a w,K a w→Q .normal a w){c:Code}{a:Act}{w:World}(h:c.wp P (calm K) a w):c.wp P Q a w:=by intro b k cs;obtain⟨e,a',w',q,r⟩:=h b k cs;refine⟨e,a',w',?_,r⟩;cases e<;>first|exact hK _ _ q|exact q.elim
def okAll (ops:Array Oper)(ex:Nat→Bool)(s:Sch):Bool:=
 okMask ops (Region.before ops)&&(Region.noSelect ops&&okSch ops (Region.before ops) ex s (Array.replicate ops.size false) ops.size)
theorem region {id:Nat}{l:List Oper}{a:Act}{w:World}(s:Sch)(exs:List Nat)(hm:P.follows .mixedOrders=true)
  (hk:okAll l.toArray (fun i=>exs.contains i) s=true)
  (h:∀(K:Act→World→Prop) (ops:Array Oper),Hid (ops=l.toArray)→(∀a w,Q .normal a w→K a w)→wpSch P ops K (fun i=>exs.contains i) s a w.drew):(Code.region id l.toArray true).wp P Q a w:=by
 simp only[okAll,Bool.and_eq_true]at hk;refine Wp_calm (K:=Q .normal) (fun _ _ h=>h) (wp_region_any hm (wpAny_of_E _ _ _ _ (E_of_sch hk.1 hk.2.1 s _ _ a _ ?_ hk.2.2 (h _ _ rfl (fun _ _ h=>h)))));intro j o _ hj;simp[Array.getElem?_replicate]at hj;split at hj<;>simp at hj
def runVal:Result Next→Value
 | .ok (.value v) _=>v
 | _=>undef
@[go_sem] theorem runVal_ok (v:Value)(w:World):runVal (.ok (.value v) w)=v:=rfl
theorem mov {l:List Oper}(hops:Hid (ops=l.toArray)){K:Act→World→Prop}{i:Nat}{s:Sch}{ex:Nat→Bool}{a:Act}{w:World}{o:Oper}(hi:l.toArray[i]?=some o)(hg:o.guard=none)
  (hr:∀w',Below w.heap.size w w'→(execOp a.eval o).run P w' = .ok (.value (runVal ((execOp a.eval o).run P w))) w')
  (h:wpSch P ops K ex s (a.put o.dst (runVal ((execOp a.eval o).run P w))) w):wpSch P ops K ex (.mov i s) a w:=
 ⟨o,_,(congrArg (fun q:Array Oper=>q[i]?) hops.out).trans hi,.inl ⟨by simp[Region.wanted,hg],fun w' hb=> .inl (hr w' hb)⟩,h⟩
theorem anc {l:List Oper}(hops:Hid (ops=l.toArray)){K:Act→World→Prop}{i:Nat}{s:Sch}{ex:Nat→Bool}{a:Act}{w:World}{o:Oper}(hi:l.toArray[i]?=some o)(hg:o.guard=none)
  (h:o.wp P a w (fun a' w'=>(ex i=true∨Below w.heap.size w w')∧wpSch P ops K ex s a' w') noEnd):wpSch P ops K ex (.anc i s) a w:=by
 show wpOp P ops noEnd i _ a w;have hi':ops[i]?=some o:=(congrArg (fun q:Array Oper=>q[i]?) hops.out).trans hi;unfold wpOp;simp only[hi'];rw[if_pos (by simp[Region.wanted,hg])];exact .inl h
theorem fin {K:Act→World→Prop}{ex:Nat→Bool}{a:Act}{w:World}(h:K a w):wpSch P ops K ex .fin a w:=h
end
end Go.Eag
namespace Go.Proofs.YtamkfdlcdiadlaaGreatDoor
open Go.RowKit
abbrev W64 (x:BitVec 64):Value:= .int .u64 (x.toNat:Int)
abbrev S4V (s:Pv.S4):Value:= .agg #[W64 s.a,W64 s.b,W64 s.c,W64 s.d]
abbrev S4C (s:Pv.S4):Array Value:=#[W64 s.a,W64 s.b,W64 s.c,W64 s.d]
theorem bcell {W w1:World}(hb:Below W.heap.size W w1):(∀b o,b<W.heap.size→w1.cell? ⟨b,o,none⟩=W.cell? ⟨b,o,none⟩)∧(∀b o,b<W.heap.size→w1.frozen? ⟨b,o,none⟩=W.frozen? ⟨b,o,none⟩):=
 ⟨fun b o h=>hb.cell (p:=⟨b,o,none⟩) h,fun b o h=>hb.frozen (p:=⟨b,o,none⟩) h⟩
theorem later {W w':World}{a:Addr}{v:Value}(hb:Below W.heap.size W w')(h:W.cell? a=some v):w'.cell? a=some v:=(hb.cell (World.block_lt_of_cell? W a h)).trans h
theorem blk_lt {w:World}{b:Nat}{o:Obj}(h:w.heap[b]?=some o):b<w.heap.size:=(Array.getElem?_eq_some_iff.1 h).1
theorem later_blk {W w':World}{b:Nat}{o:Obj}(hb:Below W.heap.size W w')(h:W.heap[b]?=some o):w'.heap[b]?=some o:=(hb.block b (blk_lt h)).trans h
theorem cB {w:World}{b o:Nat}{cs:Array Value}{t:TypeId}{fr:Nat × Nat}{v:Value}(h:w.heap[b]?=some (.cells cs t fr))(hv:cs[o]?=some v):w.cell? ⟨b,o,none⟩=some v:=by simp[World.cell?,h,hv]
theorem fob {w:World}{b o:Nat}{cs:Array Value}{t:TypeId}(h:w.heap[b]?=some (.cells cs t)):w.frozen? ⟨b,o,none⟩=false:=by simp[World.frozen?,h]
theorem blk_set {w:World}{b o:Nat}{cs:Array Value}{t:TypeId}{fr:Nat × Nat}{v:Value}(h:w.heap[b]?=some (.cells cs t fr)):(w.setCell ⟨b,o,none⟩ v).heap[b]?=some (.cells (cs.setIfInBounds o v) t fr):=by show(w.heap.modify b _)[b]?=_;rw[Array.getElem?_modify,if_pos rfl,h];rfl
theorem blk_set_ne {w:World}{b b' o:Nat}{v:Value}(h:b'≠b):(w.setCell ⟨b,o,none⟩ v).heap[b']?=w.heap[b']?:=by simp[World.setCell,Array.getElem?_modify];omega
theorem keep_set {w:World}{b b' o:Nat}{v:Value}{x:Obj}(h:w.heap[b']?=some x)(hn:b'≠b):(w.setCell ⟨b,o,none⟩ v).heap[b']?=some x:=(blk_set_ne hn).trans h
theorem blk_alloc {w:World}{o:Obj}{b:Nat}:(w.alloc o).heap[b]?=if b=w.heap.size then some o else w.heap[b]?:=by show(w.heap.push o)[b]?=_;rw[Array.getElem?_push]
theorem blk_new {w:World}{o:Obj}{n:Nat}(h:w.heap.size=n):(w.alloc o).heap[n]?=some o:=by rw[blk_alloc,if_pos h.symm]
theorem blk_old {w:World}{o x:Obj}{b:Nat}(h:w.heap[b]?=some x):(w.alloc o).heap[b]?=some x:=by rw[blk_alloc,if_neg (by have:=blk_lt h;omega)];exact h
theorem word_get (s:Pv.S4)(k:Nat)(h:k<4):(S4C s)[k]?=some (W64 (s.word k)):=by
 match k,h with
 | 0,_=>rfl
 | 1,_=>rfl
 | 2,_=>rfl
 | 3,_=>rfl
theorem word_getL (s:Pv.S4)(k:Nat)(h:k<4):[W64 s.a,W64 s.b,W64 s.c,W64 s.d][k]?=some (W64 (s.word k)):=by
 match k,h with
 | 0,_=>rfl
 | 1,_=>rfl
 | 2,_=>rfl
 | 3,_=>rfl
theorem word_set (s:Pv.S4)(k:Nat)(h:k<4)(x:BitVec 64):(S4C s).setIfInBounds k (W64 x)=S4C (s.setWord k x):=by
 match k,h with
 | 0,_=>rfl
 | 1,_=>rfl
 | 2,_=>rfl
 | 3,_=>rfl
theorem word_setWord (s:Pv.S4)(k j:Nat)(hk:k<4)(hj:j<4)(x:BitVec 64):(s.setWord k x).word j=if j=k then x else s.word j:=by
 match k,hk,j,hj with
 | 0,_,0,_|0,_,1,_|0,_,2,_|0,_,3,_=>simp[Pv.S4.setWord,Pv.S4.word]
 | 1,_,0,_|1,_,1,_|1,_,2,_|1,_,3,_=>simp[Pv.S4.setWord,Pv.S4.word]
 | 2,_,0,_|2,_,1,_|2,_,2,_|2,_,3,_=>simp[Pv.S4.setWord,Pv.S4.word]
 | 3,_,0,_|3,_,1,_|3,_,2,_|3,_,3,_=>simp[Pv.S4.setWord,Pv.S4.word]
abbrev Str (l:List UInt8):Value:= .string ⟨l.toArray⟩
abbrev Ptr (b:Nat):Value:= .pointer (some ⟨b,0,none⟩)
structure Sl (w:World)(a:Option Addr)(c:Nat)(vs:List Value):Prop where
 le:vs.length≤c
 nil_:a=none→c=0
 cell:∀i (h:i<vs.length),∃blk off,a=some ⟨blk,off,none⟩∧w.cell? ⟨blk,off+i,none⟩=some vs[i]
theorem Sl.later {w w':World}{a:Option Addr}{c:Nat}{vs:List Value}(h:Sl w a c vs)(hb:Below w.heap.size w w'):Sl w' a c vs:=
 ⟨h.1,h.2,fun i hi=>let ⟨b,o,e,hc⟩:=h.3 i hi;⟨b,o,e,Go.Proofs.YtamkfdlcdiadlaaGreatDoor.later hb hc⟩⟩
theorem Sl.nil (w:World):Sl w none 0 []:=⟨Nat.zero_le _,fun _=>rfl,fun _ h=>by cases h⟩
theorem Sl.at_ {w:World}{a:Option Addr}{c:Nat}{vs:List Value}(h:Sl w a c vs)(h0:0<vs.length):∃blk off,a=some ⟨blk,off,none⟩∧blk<w.heap.size∧∀i (hi:i<vs.length),w.cell? ⟨blk,off+i,none⟩=some vs[i]:=by obtain⟨b,o,e,hc⟩:=h.cell 0 h0;refine⟨b,o,e,World.block_lt_of_cell? w _ hc,fun i hi => ?_⟩;obtain⟨b',o',e',hc'⟩:=h.cell i hi;rw[e]at e';cases e';exact hc'
theorem Sl.tail {w:World}{b o c:Nat}{v:Value}{vs:List Value}(h:Sl w (some ⟨b,o,none⟩) c (v::vs)):Sl w (some ⟨b,o+1,none⟩) (c-1) vs:=by refine⟨by have:=h.1;simp at this;omega,fun h=>(by cases h),fun i hi=>⟨b,o+1,rfl,?_⟩⟩;obtain⟨b',o',e,hc⟩:=h.cell (i+1) (by simpa using hi);cases e;simpa [Nat.add_assoc,Nat.add_comm 1 i] using hc
def Row (base e:Nat)(w:World)(v:Value)(xs:List Value):Prop:=w.ownsRow base e 1 v xs.length xs
theorem Row.nil (base e:Nat)(w:World):Row base e w (.slice none 0 0) []:=World.ownsRow_nil _ _ _ _
theorem Row.form {base e:Nat}{w:World}{v:Value}{xs:List Value}(h:Row base e w v xs):∃a c,v = .slice a xs.length c∧Sl w a c xs∧(xs≠[]→∃g,a=some ⟨g,0,none⟩∧base≤g∧g<w.heap.size):=by
 obtain⟨h1,h2⟩:=h;rcases h2 with⟨rfl,h0⟩|⟨g,cap,cur,rfl,hg,hh,hn,hc,hs,ht⟩
 ·have:xs=[]:=List.length_eq_zero_iff.1 h0;subst this;exact⟨none,0,rfl,Sl.nil _,fun h=>absurd rfl h⟩
 ·refine ⟨some ⟨g,0,none⟩,cap,rfl,⟨hn,fun h=>(by cases h),fun i hi=>⟨g,0,rfl,?_⟩⟩,fun _=>⟨g,rfl,hg,blk_lt hh⟩⟩;rw[Nat.zero_add];have e0:∀u,xs[i]?=some u→cur.toList[i]?=some u:=by
   intro u hu;rw[←ht,List.getElem?_take]at hu;split at hu
   ·exact hu
   ·cases hu
  have e1:=e0 _ (List.getElem?_eq_getElem hi);exact cB hh (by simpa using e1)
theorem Row.keep {base e:Nat}{w w':World}{v:Value}{xs:List Value}(h:Row base e w v xs)(hk:∀b,base≤b→b<w.heap.size→w'.heap[b]?=w.heap[b]?):Row base e w' v xs:=by
 obtain⟨h1,h2⟩:=h;refine⟨h1,?_⟩;rcases h2 with h2|⟨g,cap,cur,hv,hg,hh,r⟩
 ·exact .inl h2
 ·exact .inr ⟨g,cap,cur,hv,hg,by rw[hk g hg (blk_lt hh)];exact hh,r⟩
theorem Row.later {base e:Nat}{w w':World}{v:Value}{xs:List Value}(h:Row base e w v xs)(hb:Below w.heap.size w w'):Row base e w' v xs:=
 h.keep fun b _ hl=>hb.block b hl
theorem Row.setCell {base e:Nat}{w:World}{v u:Value}{xs:List Value}(h:Row base e w v xs){b o:Nat}(hb:b<base):Row base e (w.setCell ⟨b,o,none⟩ u) v xs:=
 h.keep fun b' hb' _=>blk_set_ne (by omega)
theorem Row.alloc {base e:Nat}{w:World}{v:Value}{xs:List Value}(h:Row base e w v xs)(o:Obj):Row base e (w.alloc o) v xs:=
 h.later ((Below.refl _ _).alloc (Nat.le_refl _) _)
theorem Row.of_blk {base e g:Nat}{w:World}{xs:List Value}(hg:base≤g)(hh:w.heap[g]?=some (.cells xs.toArray e))(hl:xs.length≤maxLen):Row base e w (.slice (some ⟨g,0,none⟩) xs.length xs.length) xs:=
 ⟨by simp,.inr ⟨g,xs.length,xs.toArray,rfl,hg,hh,Nat.le_refl _,hl,by simp,by simp⟩⟩
theorem Below.of_grown {base:Nat}{w w':World}{v:Value}{e:Nat}{xs:List Value}(h:Row base e w v xs)(hg:w.grownBy w' v.ownBlock)(hb:base≤w.heap.size):Below base w w':=by
 refine(Below.refl base w).grown hg hb fun k hk => ?_
 obtain⟨_,h2⟩:=h;rcases h2 with⟨rfl,_⟩|⟨g,cap,cur,rfl,hg',_⟩
 ·cases hk
 ·cases hk;exact hg'
theorem app1 {P:Program}{w:World}{ops:Array Oper}{rest:List Oper}{o:Oper}{a:Act}{Q:Exit→Act→World→Prop}(t e:TypeId)(i:TypeInfo)(z:Value)(bytes:Nat)
  (ht:P.underlying t=some (.slice e)) (hi:P.info? e=some i) (hz:i.zero=some z) (hsize:i.size=1) (hby:i.bytes=bytes) (hzs:z.cells.size=1) (hbm:bytes≤64)
  (hgd:o.guard=none) (s x:Operand) (ho:o.op = .call { callee:= .builtin .append,args:=#[s,x],argTypes:=#[t,t] })
  (base:Nat) (v:Value) (xs:List Value) (hs:a.eval s=v) (hown:Row base e w v xs)
  (g:Nat) (u:Value) (hx:a.eval x = .slice (some ⟨g,0,none⟩) 1 1) (hg:w.heap[g]?=some (.cells #[u] e)) (hu:u.oneCell'=true)
  (hlen:xs.length<1099511627776) (hbase:base≤w.heap.size)
  (h:∀v' w',Row base e w' v' (xs++[u])→Below base w w'→w.grownBy w' v.ownBlock→wpList P ops Q rest (a.put o.dst v') w'):wpList P ops Q (o::rest) a w:=by
 have hb2:(xs.length+1)*bytes≤140737488355328:=Nat.le_trans (Nat.mul_le_mul (Nat.succ_le_of_lt hlen) hbm) (by decide);refine wpList_append_own _ hgd s x t ho base e i z 1 bytes ht hi hz hsize hby hzs (by omega) v xs.length xs hs hown ⟨g,0,none⟩ 1 1 [u] hx rfl ?_ (by simpa using hu) (by unfold maxLen;omega) hb2 hbase ?_
 ·intro j q hj
  match j,hj with
  | 0,hj=>simp at hj;subst hj;exact cB (cs:=#[u]) (o:=0) hg rfl
 ·intro v' w' hr hgr _;exact h v' w' (by unfold Row;rw[List.length_append];exact hr) (Below.of_grown hown hgr hbase) hgr
abbrev Pure (f:Nat)(args:Array Value)(w:World)(v:Value):Prop:=Calls Tryz.prog f args w fun e w'=>e = .returned v∧w=w'
theorem grown_refl (w:World)(r:Option Nat):w.grownBy w r:=⟨rfl,rfl,rfl,Nat.le_refl _,fun _ _ _=>rfl⟩
theorem add_none (b o i:Nat):(⟨b,o,none⟩:Addr).add i=⟨b,o+i,none⟩:=by
 unfold Addr.add;split
 ·subst_vars;rfl
 ·rfl
theorem appS {P:Program}{w:World}{ops:Array Oper}{rest:List Oper}{o:Oper}{a:Act}{Q:Exit→Act→World→Prop}(t e:TypeId)(i:TypeInfo)(z:Value)(bytes:Nat)
  (ht:P.underlying t=some (.slice e)) (hi:P.info? e=some i) (hz:i.zero=some z) (hsize:i.size=1) (hby:i.bytes=bytes) (hzs:z.cells.size=1) (hbm:bytes≤64)
  (hgd:o.guard=none) (s x:Operand) (ho:o.op = .call { callee:= .builtin .append,args:=#[s,x],argTypes:=#[t,t] })
  (base:Nat) (v:Value) (xs:List Value) (hs:a.eval s=v) (hown:Row base e w v xs)
  (sa:Option Addr) (n c:Nat) (news:List Value) (hn:news.length=n) (hx:a.eval x = .slice sa n c) (hsl:Sl w sa c news) (hu:∀u∈news,u.oneCell'=true)
  (hlen:xs.length+n<1099511627776) (hbase:base≤w.heap.size)
  (h:∀v' w',Row base e w' v' (xs++news)→Below base w w'→w.grownBy w' v.ownBlock→wpList P ops Q rest (a.put o.dst v') w'):wpList P ops Q (o::rest) a w:=by
 subst hn;have hb2:(xs.length+news.length)*bytes≤140737488355328:=Nat.le_trans (Nat.mul_le_mul (Nat.le_of_lt hlen) hbm) (by decide);cases sa with
 | none=>
   have h0:=hsl.nil_ rfl;have h1:=hsl.le;have:news=[]:=List.length_eq_zero_iff.1 (by omega);subst this;subst h0;refine wpList_append_own_none hgd s x t ho base e i 1 ht hi v xs.length xs hs hown hx ?_;exact h v w (by simpa using hown) (Below.refl _ _) (grown_refl _ _)
 | some ad=>
   refine wpList_append_own _ hgd s x t ho base e i z 1 bytes ht hi hz hsize hby hzs (by omega) v xs.length xs hs hown ad news.length c news hx (by omega) ?_ hu (by unfold maxLen;omega) hb2 hbase ?_
   ·intro j q hj;obtain⟨hlt,hj⟩:=List.getElem?_eq_some_iff.1 hj;obtain⟨b,o',e1,hc⟩:=hsl.cell j hlt;cases e1;rw[add_none,hc,hj]
   ·intro v' w' hr hgr _;exact h v' w' (by unfold Row;rw[List.length_append];exact hr) (Below.of_grown hown hgr hbase) hgr
end Go.Proofs.YtamkfdlcdiadlaaGreatDoor
namespace Go.Proofs.YtamkfdlcdiadlaaGreatDoor
open Go.RowKit
open _root_.Pv (P10)
mutual
def PlAt (w:World):P10→Nat→Nat→Prop
 | .mk o x n ks,blk,off=>∃(a:Option Addr) (c b' o':Nat),w.cell? ⟨blk,off,none⟩=some (.int .i64 o)∧w.cell? ⟨blk,off+1,none⟩=some (.int .i64 x)∧w.cell? ⟨blk,off+2,none⟩=some (.int .i64 n) ∧
  w.cell? ⟨blk,off+3,none⟩=some (.slice a ks.length c)∧(ks≠[]→a=some ⟨b',o',none⟩)∧ks.length<9223372036854775808∧PlsAt w ks b' o'
def PlsAt (w:World):List P10→Nat→Nat→Prop
 | [],_,_=>True
 | p::ps,blk,off=>PlAt w p blk off∧PlsAt w ps blk (off+4)
end
def PlV (w:World)(p:P10)(v:Value):Prop:=∃(a:Option Addr) (c b' o':Nat),v = .agg #[.int .i64 p.op,.int .i64 p.w,.int .i64 p.n,.slice a p.kids.length c]∧(p.kids≠[]→a=some ⟨b',o',none⟩)∧p.kids.length<9223372036854775808∧PlsAt w p.kids b' o'
mutual
theorem PlAt.later {w w':World}(hb:Below w.heap.size w w'):∀ {p:P10} {blk off:Nat},PlAt w p blk off→PlAt w' p blk off
 | .mk o x n ks,blk,off,h=>by unfold PlAt at *;obtain⟨a,c,b',o',h0,h1,h2,h3,h4,h5,h6⟩:=h;exact⟨a,c,b',o',Go.Proofs.YtamkfdlcdiadlaaGreatDoor.later hb h0,Go.Proofs.YtamkfdlcdiadlaaGreatDoor.later hb h1,Go.Proofs.YtamkfdlcdiadlaaGreatDoor.later hb h2,Go.Proofs.YtamkfdlcdiadlaaGreatDoor.later hb h3,h4,h5,PlsAt.later hb h6⟩
theorem PlsAt.later {w w':World}(hb:Below w.heap.size w w'):∀ {ps:List P10} {blk off:Nat},PlsAt w ps blk off→PlsAt w' ps blk off
 | [],_,_,_=>by unfold PlsAt;trivial
 | p::ps,_,_,h=>by unfold PlsAt at *;exact⟨PlAt.later hb h.1,PlsAt.later hb h.2⟩
end
theorem PlV.later {w w':World}(hb:Below w.heap.size w w'){p:P10}{v:Value}(h:PlV w p v):PlV w' p v:=by obtain⟨a,c,b',o',h1,h2,h3,h4⟩:=h;exact⟨a,c,b',o',h1,h2,h3,h4.later hb⟩
theorem PlsAt.get {w:World}:∀ {ps:List P10} {blk off:Nat},PlsAt w ps blk off→∀(i:Nat) (h:i<ps.length),PlAt w ps[i] blk (off+i*4)
 | [],_,_,_,i,h=>by cases h
 | p::ps,blk,off,h,0,_=>by
   unfold PlsAt at h;simpa using h.1
 | p::ps,blk,off,h,i+1,hi=>by unfold PlsAt at h;have:=PlsAt.get h.2 i (by simpa using hi);rw[show off+(i+1)*4=off+4+i*4 by omega];exact this
theorem PlAt.cells {w:World}{p:P10}{blk off:Nat}(h:PlAt w p blk off):∃(a:Option Addr) (c:Nat),w.cell? ⟨blk,off,none⟩=some (.int .i64 p.op)∧w.cell? ⟨blk,off+1,none⟩=some (.int .i64 p.w)∧w.cell? ⟨blk,off+2,none⟩=some (.int .i64 p.n) ∧
  w.cell? ⟨blk,off+3,none⟩=some (.slice a p.kids.length c)∧PlV w p (.agg #[.int .i64 p.op,.int .i64 p.w,.int .i64 p.n,.slice a p.kids.length c]):=by
 cases p;unfold PlAt at h;obtain⟨a,c,b',o',h0,h1,h2,h3,h4,h5,h6⟩:=h;exact⟨a,c,h0,h1,h2,h3,a,c,b',o',rfl,h4,h5,h6⟩
theorem nodes_eq (p:P10):P10.nodes p=1+P10.nodesL p.kids:=by cases p;rw[P10.nodes];rfl
end Go.Proofs.YtamkfdlcdiadlaaGreatDoor
namespace Go.Proofs.YtamkfdlcdiadlaaGreatDoor
open Go.RowKit
open _root_.Pv (P10)
theorem cntKGo_drop {ks:List P10}{d m k:Nat}(h:k<ks.length):P10.cntKGo (ks.drop k) d m=if 1000<m+P10.cntK ks[k] d then m+P10.cntK ks[k] d else P10.cntKGo (ks.drop (k+1)) d (m+P10.cntK ks[k] d):=by
 conv=>lhs;rw[List.drop_eq_getElem_cons h]
 rw[P10.cntKGo]
theorem cntK_eq (p:P10)(d:Nat):P10.cntK p d=if 6<d then 1000 else P10.cntKGo p.kids (d+1) 1:=by cases p;rw[P10.cntK];rfl
def CntKI (p:P10)(d k:Nat)(v:Value):Prop:=∃A:Nat,A≤1000∧v = .int .i64 (A:Int)∧P10.cntKGo (p.kids.drop k) (d+1) A=P10.cntK p d
set_option maxRecDepth 20000 in
set_option maxHeartbeats 4000000 in
theorem cntK_any:∀(m:Nat) (p:P10) (v:Value) (d:Nat) (w:World),P10.nodes p≤m→PlV w p v→d≤7 →
  Calls Tryz.prog 47 #[v,.int .i64 (d:Int)] w fun e w'=>e = .returned (.int .i64 (P10.cntK p d:Int))∧Below w.heap.size w w'
 | 0,p,_,_,_,hm,_,_=>by have:=nodes_eq p;omega
 | m+1,p,v,d,w,hm,hv,hd=>by
   obtain⟨a,c,b',o',rfl,ha,hkl,hks⟩:=hv;have hceq:=cntK_eq p d;by_cases hd6:6<d
   ·have hd':(6:Int)<d:=by omega
    rw[if_pos hd6]at hceq;have HC:=Hy hceq;clear hceq hks;go_enter Tryz.func47,Tryz.ntmps47;go_wp2_with fail;go_ret;exact⟨by rw[HC.out];rfl,(Below.refl _ _).alloc (Nat.le_refl _) _⟩
   ·have hd':¬(6:Int)<d:=by omega
    have hd0:(d:Int)≤6:=by omega
    rw[if_neg hd6]at hceq;have HC:=Hy hceq;have HN:=Hy (nodes_eq p);have HM:=Hy hm;have HKs:=Hy hks;have HA:=Hy ha;obtain⟨n,hn⟩:∃n,p.kids.length=n:=⟨_,rfl⟩
    have HL:=Hy hn;rw[hn]at hkl ⊢;clear hceq hks hm ha hn;go_enter Tryz.func47,Tryz.ntmps47;go_wp2_with fail;go_loopw [5,13] (fun v i wr=>∃(k:Nat),k≤n∧i = .int .i64 k∧CntKI p d k v∧Hid (Below w.heap.size w wr)) (fun _ i _=>(n-intOf i).toNat)
    case atStart=>exact⟨0,by omega,rfl,⟨1,by omega,rfl,by rw[HC.out];rfl⟩,(Below.refl _ _).alloc (Nat.le_refl _) _⟩
    case round=>
     obtain⟨k,hk,rfl,⟨A,hA,rfl,hG⟩,HB⟩:=hrel;have HG:=Hy hG;clear hG;by_cases hkn:k<n
     ·have hkk2:k<p.kids.length:=by rw[HL.out];exact hkn
      have hne:p.kids≠[]:=fun e=>by rw[e]at hkk2;cases hkk2
      have hae:=HA.out hne;subst hae;obtain⟨a',c',c0,c1,c2,c3,hv'⟩:=((HKs.out.get k hkk2).later HB.out).cells;have hng:=P10.nodes_get hkk2;have hcd:=cntKGo_drop (d:=d+1) (m:=A) hkk2;have hcl:=P10.cntK_le (p.kids[k]'hkk2) (d+1) (by omega);have hcall:=fun(W:World) (hb:Below wr.heap.size wr W)=>cntK_any m (p.kids[k]'hkk2) _ (d+1) W (by have:=HM.out;have:=HN.out;omega) (hv'.later hb) (by omega)
      rw[HG.out]at hcd;obtain⟨B,hB⟩:∃B,P10.cntK (p.kids[k]'hkk2) (d+1)=B:=⟨_,rfl⟩
      rw[hB]at hcd hcl;simp only[hB]at hcall;generalize p.kids[k]'hkk2=q at *;obtain⟨o1,x1,n1,ks1⟩:=q;simp only[P10.op,P10.w,P10.n,P10.kids]at c0 c1 c2 c3 hcall;have hcall1:=hcall (wr.alloc (.cells #[.int .i64 o1,.int .i64 x1,.int .i64 n1,.slice a' ks1.length c'] 24)) ((Below.refl _ _).alloc (Nat.le_refl _) _);have HCall:=Hy hcall1;have HCd:=Hy hcd;have hk':(k:Int)<n:=by omega
      have hk40:(k:Int)<9223372036854775807:=by omega
      have hA':(A:Int)≤1000:=by omega
      have hB':(B:Int)≤8000:=by omega
      clear hcall hcall1 hcd hng hv' hB hcl;go_wp2_with fail;refine HCall.out.mono ?_;rintro e w1 ⟨rfl,hb1⟩;have HB1:=Hy (HB.out.trans (((Below.refl _ wr).alloc (Nat.le_refl _) _).trans (hb1.mono (by simp)) |>.mono HB.out.size));clear hb1 HCall c0 c1 c2 c3;by_cases hgt:1000<A+B
      ·have hgt':(1000:Int)<A+B:=by omega
       have HE:=HCd.out;rw[if_pos hgt]at HE;have HE2:=Hy HE;clear HE;go_wp2_with fail;go_ret;exact⟨by rw[HE2.out,Int.natCast_add];rfl,HB1.out⟩
      ·have hgt':¬(1000:Int)<A+B:=by omega
       have HE:=HCd.out;rw[if_neg hgt]at HE;have HE2:=Hy HE;have hgs:decide ((1000:Int)<(A:Int)+(B:Int))=false:=decide_eq_false hgt';clear HE hgt';go_wp2_with fail;go_roundw
       case rel=>exact⟨k+1,by omega,by go_num,⟨A+B,by omega,by go_num,HE2.out.symm⟩,HB1.out⟩
       case measure=>simp[intOf];omega
     ·have hkn2:¬((k:Int)<n):=by omega
      have HE:=Hy (show P10.cntK p d=A by rw[←HG.out,show k=p.kids.length by have:=HL.out;omega,List.drop_length,P10.cntKGo])
      go_wp2_with fail;go_ret;exact⟨by rw[HE.out];rfl,HB.out⟩
theorem fewK_any (p:P10)(v:Value)(w:World)(hv:PlV w p v):Calls Tryz.prog 10 #[v] w fun e w'=>e = .returned (.bool (decide (P10.cntK p 0≤10)))∧Below w.heap.size w w':=by
 have hcall:=fun(W:World) (hb:Below w.heap.size w W)=>cntK_any _ p v 0 W (Nat.le_refl _) (hv.later hb) (by omega)
 obtain⟨B,hB⟩:∃B,P10.cntK p 0=B:=⟨_,rfl⟩
 have hbe:((B:Int)≤10)=(B≤10):=by rw[eq_iff_iff];omega
 simp only[hB]at hcall;rw[hB];obtain⟨a,c,b',o',rfl,ha,hkl,hks⟩:=hv;have HCall:=Hy (hcall _ ((Below.refl _ _).alloc (Nat.le_refl _) (.cells #[.int .i64 p.op,.int .i64 p.w,.int .i64 p.n,.slice a p.kids.length c] 24)));clear hcall ha hks hB;by_cases h10:B≤10
 ·have h10':(B:Int)≤10:=by omega
  rw[decide_eq_true h10];go_enter Tryz.func10,Tryz.ntmps10;go_wp2_with fail;refine HCall.out.mono ?_;rintro e w1 ⟨rfl,hb1⟩;have HB1:=Hy (((Below.refl _ w).alloc (Nat.le_refl _) _).trans (hb1.mono (by simp)));clear hb1;go_wp2_with fail;go_ret;exact⟨rfl,HB1.out⟩
 ·have h10':¬(B:Int)≤10:=by omega
  rw[decide_eq_false h10];go_enter Tryz.func10,Tryz.ntmps10;go_wp2_with fail;refine HCall.out.mono ?_;rintro e w1 ⟨rfl,hb1⟩;have HB1:=Hy (((Below.refl _ w).alloc (Nat.le_refl _) _).trans (hb1.mono (by simp)));clear hb1;go_wp2_with fail;go_ret;exact⟨rfl,HB1.out⟩
end Go.Proofs.YtamkfdlcdiadlaaGreatDoor
