/- dfa's budgets: Grant, Take, Used; what is kept by whoever turns some blocks. -/
import Derived.Test.YtamkfdlcdiadlaaGreatDoorKb05
import Derived.Test.YtamkfdlcdiadlaaGreatDoorKb12
import Derived.Laws.LoneSync
import Derived.Maps.Own
set_option linter.all false
namespace Go.Proofs.YtamkfdlcdiadlaaGreatDoor
open Go.RowKit
variable {H:Nat→Prop}
structure Keep (H:Nat→Prop)(w w':World):Prop where
 os:w'.os=w.os
 tape:w'.tape=w.tape
 output:w'.output=w.output
 size:w.heap.size≤w'.heap.size
 block:∀k,k<w.heap.size→¬H k→w'.heap[k]?=w.heap[k]?
theorem Keep.refl (H:Nat→Prop)(w:World):Keep H w w:=⟨rfl,rfl,rfl,Nat.le_refl _,fun _ _ _=>rfl⟩
theorem Keep.of_below {w w':World}(h:Below w.heap.size w w'):Keep H w w':=⟨h.os,h.tape,h.output,h.size,fun k hk _=>h.block k hk⟩
theorem Keep.trans_ {H1:Nat→Prop}{a b c:World}(h:Keep H a b)(k:Keep H1 b c)(hH:∀x,H1 x→H x∨a.heap.size≤x):Keep H a c where
 os:=k.os.trans h.os
 tape:=k.tape.trans h.tape
 output:=k.output.trans h.output
 size:=Nat.le_trans h.size k.size
 block:=fun i hi hn=>(k.block i (Nat.lt_of_lt_of_le hi h.size) (fun h1=>by rcases hH i h1 with h1|h1;exact hn h1;omega)).trans (h.block i hi hn)
theorem Keep.trans {a b c:World}(h:Keep H a b)(k:Keep H b c):Keep H a c:=h.trans_ k fun _ h=> .inl h
theorem Keep.wide {H':Nat→Prop}{w w':World}(h:Keep H w w')(hH:∀x,H x→H' x∨w.heap.size≤x):Keep H' w w':=
 (Keep.refl H' w).trans_ h hH
theorem Keep.below {w w':World}(h:Keep H w w'){base:Nat}(hb:base≤w.heap.size)(hH:∀x,H x→base≤x):Below base w w':=
 ⟨h.os,h.tape,h.output,h.size,fun k hk=>h.block k (by omega) fun hx=>by have:=hH k hx;omega⟩
theorem Keep.set {w:World}{b o:Nat}{v:Value}(hb:H b):Keep H w (w.setCell ⟨b,o,none⟩ v):=
 ⟨rfl,rfl,rfl,by simp,fun k _ hn=>blk_set_ne (fun e=>by subst e;exact hn hb)⟩
theorem Keep.alloc (w:World)(o:Obj):Keep H w (w.alloc o):= .of_below ((Below.refl _ _).alloc (Nat.le_refl _) _)
theorem Keep.drew (w:World):Keep H w w.drew:= .of_below (Below.refl _ _).drew
theorem Keep.blk {w w':World}(h:Keep H w w'){b:Nat}{o:Obj}(hn:¬H b)(hb:w.heap[b]?=some o):w'.heap[b]?=some o:=(h.block b (blk_lt hb) hn).trans hb
theorem Keep.cell {w w':World}(h:Keep H w w'){b o:Nat}{v:Value}(hn:¬H b)(hc:w.cell? ⟨b,o,none⟩=some v):w'.cell? ⟨b,o,none⟩=some v:=by obtain⟨cs,t,fr,h1,h2⟩:=cell_blk hc;exact cB (h.blk hn h1) h2
mutual
theorem ReAt.keep {w w':World}(hb:Keep H w w'):∀ {r:Pv.R} {b:Nat},ReAt H w r b→ReAt H w' r b
 | .mk op s ks,b,h=>by unfold ReAt at *;obtain⟨hw,h0,a,c,bs,ha,h1,h2,h3⟩:=h;refine⟨hw,h0,a,c,bs,fun x y e=>⟨(ha x y e).1,Nat.lt_of_lt_of_le (ha x y e).2 hb.size⟩,hb.blk h0 h1,⟨h2.1,h2.2,fun i hi => ?_⟩,ResAt.keep hb h3⟩;obtain⟨blk,off,e,hc⟩:=h2.3 i hi;exact⟨blk,off,e,hb.cell (ha _ _ e).1 hc⟩
theorem ResAt.keep {w w':World}(hb:Keep H w w'):∀ {rs:List Pv.R} {bs:List Nat},ResAt H w rs bs→ResAt H w' rs bs
 | [],_,h=>by unfold ResAt at *;exact h
 | r::rs,_,h=>by unfold ResAt at *;obtain⟨b,bs',e,h1,h2⟩:=h;exact⟨b,bs',e,ReAt.keep hb h1,ResAt.keep hb h2⟩
end
theorem load_any (b off:Nat)(v:Int)(w:World)(h:w.cell? ⟨b,off,none⟩=some (.int .i64 v)):Pure 59 #[.pointer (some ⟨b,off,none⟩)] w (.int .i64 v):=by have hl:=run_call_load (P:=Tryz.prog) Tryz.func96 (by kernel_rfl) (by kernel_rfl) (by kernel_rfl) .i64 (by kernel_rfl) h;go_enter Tryz.func59,Tryz.ntmps59;go_wp2;go_ret;exact⟨rfl,rfl⟩
theorem store_any (b off:Nat)(u:Value)(y:Int)(w:World)(h:w.cell? ⟨b,off,none⟩=some u)(hf:w.frozen? ⟨b,off,none⟩=false):
  Calls Tryz.prog 56 #[.pointer (some ⟨b,off,none⟩),.int .i64 y] w fun e w'=>e = .returned (.tuple #[])∧w'=w.setCell ⟨b,off,none⟩ (.int .i64 y):=by
 have hl:=run_call_store (P:=Tryz.prog) Tryz.func91 (by kernel_rfl) (by kernel_rfl) (by kernel_rfl) (by kernel_rfl) (k:= .i64) (y:=y) h hf;go_enter Tryz.func56,Tryz.ntmps56;go_wp2;go_end0;exact⟨rfl,rfl⟩
theorem cas_hit (b off:Nat)(x y:Int)(w:World)(h:w.cell? ⟨b,off,none⟩=some (.int .i64 x))(hf:w.frozen? ⟨b,off,none⟩=false):
  Calls Tryz.prog 170 #[.pointer (some ⟨b,off,none⟩),.int .i64 x,.int .i64 y] w fun e w'=>e = .returned (.bool true)∧w'=w.setCell ⟨b,off,none⟩ (.int .i64 y):=by
 have hl:=run_call_cas_hit (P:=Tryz.prog) Tryz.func198 (by kernel_rfl) (by kernel_rfl) (by kernel_rfl) .i64 (by kernel_rfl) (y:=y) h hf;go_enter Tryz.func170,Tryz.ntmps170;go_wp2;go_ret;exact⟨rfl,rfl⟩
theorem add64_any (b off:Nat)(x y:Int)(w:World)(h:w.cell? ⟨b,off,none⟩=some (.int .i64 x))(hf:w.frozen? ⟨b,off,none⟩=false)(hr:IntKind.i64.wrap (x+y)=x+y):
  Calls Tryz.prog 171 #[.pointer (some ⟨b,off,none⟩),.int .i64 y] w fun e w'=>(∃v,e = .returned v)∧w'=w.setCell ⟨b,off,none⟩ (.int .i64 (x+y)):=by
 have hs:(Op.intArith .add .i64 x y).run Tryz.prog w = .ok (.int .i64 (x+y)) w:=by rw[←hr];rfl
 have hl:=run_call_add (P:=Tryz.prog) Tryz.func199 (by kernel_rfl) (by kernel_rfl) (by kernel_rfl) .i64 (by kernel_rfl) h hf hs;go_enter Tryz.func171,Tryz.ntmps171;go_wp2;go_ret;exact⟨⟨_,rfl⟩,rfl⟩
def BudAt (w:World)(b l u:Nat):Prop:=l+u<4611686018427387904∧w.heap[b]?=some (.cells #[.int .i64 (l:Int),.int .i64 (u:Int)] 113)
theorem BudAt.later {w w':World}{b l u:Nat}(h:BudAt w b l u)(hb:Below w.heap.size w w'):BudAt w' b l u:=⟨h.1,later_blk hb h.2⟩
theorem BudAt.keep {w w':World}{b l u:Nat}(h:BudAt w b l u)(hb:Keep H w w')(hn:¬H b):BudAt w' b l u:=⟨h.1,hb.blk hn h.2⟩
theorem grant_any (n:Nat)(hn:n<4611686018427387904)(w:World):Calls Tryz.prog 13 #[.int .i64 (n:Int)] w fun e w'=>
  e = .returned (Ptr w.heap.size)∧BudAt w' w.heap.size n 0∧Below w.heap.size w w'∧w.heap.size<w'.heap.size:=by
 have hs:=store_any w.heap.size 0 (.int .i64 0) (n:Int) (w.alloc (.cells #[.int .i64 0,.int .i64 0] 113)) (cB (blk_new rfl) rfl) (fob (blk_new rfl));have hmax:max (n:Int) 0=n:=by omega
 go_enter Tryz.func13,Tryz.ntmps13;go_wp2_with fail;refine hs.mono ?_;rintro e w' ⟨rfl,rfl⟩;go_wp2_with fail;go_ret;exact⟨rfl,⟨by omega,blk_new rfl⟩,(Below.refl _ _).alloc (Nat.le_refl _) _,by simp⟩
theorem used_any (b l u:Nat)(w:World)(h:BudAt w b l u):Pure 15 #[Ptr b] w (.int .i64 (u:Int)):=by have hl:=load_any b 1 u w (cB h.2 rfl);clear h;go_enter Tryz.func15,Tryz.ntmps15;go_wp2_with fail;refine hl.mono ?_;rintro e w' ⟨rfl,rfl⟩;go_wp2_with fail;go_ret;exact⟨rfl,rfl⟩
set_option maxRecDepth 20000 in
theorem take_any (b l u:Nat)(w:World)(h:BudAt w b l u):Calls Tryz.prog 133 #[Ptr b,.int .i64 1] w fun e w'=>
  e = .returned (.int .i64 (if l=0 then 5 else 0))∧BudAt w' b (l-1) (if l=0 then u else u+1)∧Keep (· = b) w w':=by
 have h0:=cB (o:=0) h.2 rfl;have h1:=cB (o:=1) h.2 rfl;have f0:=fob (o:=0) h.2;have f1:=fob (o:=1) h.2;have hl:=load_any b 0 l w h0;by_cases hz:l=0
 ·subst hz;have hc:=cas_hit b 0 ((0:Nat):Int) 0 w h0 f0;have HC:=Hy hc;have HH:=Hy h;clear hc h h0 h1 f0 f1;go_enter Tryz.func133,Tryz.ntmps133;go_wp2_with fail;go_loopw [5] (fun _ wr=>wr=w) (fun _ _=>0)
  case atStart=>rfl
  case round=>
   subst hrel;go_wp2_with fail;refine hl.mono ?_;rintro e w' ⟨rfl,rfl⟩;go_wp2_with fail;refine HC.out.mono ?_;rintro e w' ⟨rfl,rfl⟩;go_wp2_with fail;go_ret;refine⟨rfl,⟨by have:=HH.out.1;omega,?_⟩,Keep.set rfl⟩;rw[blk_set HH.out.2];rfl
 ·have hc:=cas_hit b 0 (l:Int) ((l:Int)-1) w h0 f0;have ha:=add64_any b 1 (u:Int) 1 (w.setCell ⟨b,0,none⟩ (.int .i64 ((l:Int)-1))) (cB (blk_set h.2) rfl) (fob (blk_set h.2)) (by rw[IntKind.wrap_i64]<;>have:=h.1<;>omega);have HC:=Hy hc;have HA:=Hy ha;have HH:=Hy h;have hw1:IntKind.i64.wrap ((l:Int)-1)=(l:Int)-1:=by rw[IntKind.wrap_i64]<;>have:=h.1<;>omega
  have hl1:¬((l:Int)<1):=by omega
  clear hc ha h h0 h1 f0 f1;go_enter Tryz.func133,Tryz.ntmps133;go_wp2_with fail;go_loopw [5] (fun _ wr=>wr=w) (fun _ _=>0)
  case atStart=>rfl
  case round=>
   subst hrel;go_wp2_with fail;refine hl.mono ?_;rintro e w' ⟨rfl,rfl⟩;go_wp2_with fail;refine HC.out.mono ?_;rintro e w' ⟨rfl,rfl⟩;go_wp2_with fail;refine HA.out.mono ?_;rintro e w' ⟨⟨v,rfl⟩,rfl⟩;go_wp2_with fail;go_ret;refine⟨by simp[hz],⟨by have:=HH.out.1;omega,?_⟩,Keep.trans (b:=wr.setCell ⟨b,0,none⟩ (.int .i64 ((l:Int)-1))) (Keep.set rfl) (Keep.set rfl)⟩
   rw[blk_set (blk_set HH.out.2),show((l-1:Nat):Int)=(l:Int)-1 by omega];simp
end Go.Proofs.YtamkfdlcdiadlaaGreatDoor
namespace Go.Proofs.YtamkfdlcdiadlaaGreatDoor
open Go.RowKit
abbrev RowK (base e k:Nat)(w:World)(v:Value)(n:Nat)(xs:List Value):Prop:=w.ownsRow base e k v n xs
theorem RowK.blk {base e k n:Nat}{w:World}{v:Value}{xs:List Value}(h:RowK base e k w v n xs):(v = .slice none 0 0∧n=0∧xs=[]) ∨
  ∃g cap cur,v = .slice (some ⟨g,0,none⟩) n cap∧base≤g∧w.heap[g]?=some (.cells cur e)∧n≤cap∧cap≤maxLen∧cur.size=cap*k∧cur.toList.take (n*k)=xs:=by
 obtain⟨h1,h2⟩:=h;rcases h2 with⟨h2,h3⟩|⟨g,cap,cur,a,b,c,d,e,f,g'⟩
 ·refine .inl ⟨h2,h3,?_⟩;subst h3;exact List.length_eq_zero_iff.1 (by omega)
 ·exact .inr ⟨g,cap,cur,a,b,c,d,e,f,g'⟩
theorem RowK.keep {base e k n:Nat}{w w':World}{v:Value}{xs:List Value}(h:RowK base e k w v n xs)(hk:∀g,v.ownBlock=some g→g<w.heap.size→w'.heap[g]?=w.heap[g]?):RowK base e k w' v n xs:=by
 obtain⟨h1,h2⟩:=h;refine⟨h1,?_⟩;rcases h2 with h2|⟨g,cap,cur,hv,hg,hh,r⟩
 ·exact .inl h2
 ·subst hv;exact .inr ⟨g,cap,cur,rfl,hg,by rw[hk g rfl (blk_lt hh)];exact hh,r⟩
theorem RowK.later {base e k n:Nat}{w w':World}{v:Value}{xs:List Value}(h:RowK base e k w v n xs)(hb:Below w.heap.size w w'):RowK base e k w' v n xs:=
 h.keep fun g _ hl=>hb.block g hl
theorem RowK.lt {base e k n:Nat}{w:World}{v:Value}{xs:List Value}(h:RowK base e k w v n xs){g:Nat}(hg:v.ownBlock=some g):base≤g∧g<w.heap.size:=by
 rcases h.blk with⟨rfl,_⟩|⟨g',cap,cur,rfl,h1,h2,_⟩
 ·cases hg
 ·cases hg;exact⟨h1,blk_lt h2⟩
theorem RowK.below {base e k n:Nat}{w w':World}{v:Value}{xs:List Value}(h:RowK base e k w v n xs)(hg:w.grownBy w' v.ownBlock)(hb:base≤w.heap.size):Below base w w':=by
 refine(Below.refl base w).grown hg hb fun x hx => ?_
 exact(h.lt hx).1
theorem append_movedK {P:Program}{w:World}{t ty e:TypeId}{i:TypeInfo}{z:Value}{k:Nat}(ht:P.underlying t=some (.slice e))(hi:P.info? e=some i)(hz:i.zero=some z)(hsize:i.size=k)(hbm:i.bytes≤64)
  {base n:Nat} {v:Value} {xs:List Value} (hown:RowK base e k w v n xs) {g:Nat} {us:List Value} (hus:us.length=k) (hg:w.heap[g]?=some (.cells us.toArray e)) (hu:∀u∈us,u.oneCell'=true) (hlen:n<1099511627776)
  {v':Value} {w':World} (h:(Builtin.append_ #[t,t] ty #[v,.slice (some ⟨g,0,none⟩) 1 1]).run P w = .ok v' w'):Moved w v v':=by
 have hnews:∀j q,us[j]?=some q→w.cell? ((⟨g,0,none⟩:Addr).add j)=some q:=fun j q hj=>by rw[add_none,Nat.zero_add];exact cB hg (by simpa using hj)
 have hb2:(n+1)*i.bytes≤140737488355328:=Nat.le_trans (Nat.mul_le_mul (Nat.succ_le_of_lt hlen) hbm) (by decide);rcases hown.blk with⟨rfl,e0,_⟩|⟨g0,cap,cur,rfl,hg0,hh,hn,hc,hs,htk⟩
 ·subst e0;have hr:=run_append_nil (P:=P) (w:=w) t ty e i z ht hi hz ⟨g,0,none⟩ 1 1 us (by rw[hsize,hus];omega) hnews (by omega) (by omega) (by omega);rw[h]at hr;injection hr with e1 e2
  subst e1;exact .inr ⟨_,rfl,Nat.le_refl _⟩
 ·by_cases hroom:n+1≤cap
  ·obtain⟨w2,hr,_⟩:=run_append_fits (P:=P) w base t ty e i k ht hi hsize g0 n cap xs hown ⟨g,0,none⟩ 1 1 us (by omega) hnews hu hroom;rw[h]at hr;injection hr with e1 e2
   subst e1;exact .inl rfl
  ·have holds:∀j q,xs[j]?=some q→w.cell? ((⟨g0,0,none⟩:Addr).add j)=some q:=fun j q hj=>by have hj':j<xs.length:=(List.getElem?_eq_some_iff.1 hj).1;rw[hown.1]at hj';rw[add_none,Nat.zero_add];refine cB hh ?_;rw[←htk,List.getElem?_take,if_pos hj']at hj;simpa using hj
   have hr:=run_append_grow (P:=P) (w:=w) t ty e i z ht hi hz ⟨g0,0,none⟩ n cap xs (by rw[hsize];exact hown.1) holds ⟨g,0,none⟩ 1 1 us (by rw[hsize,hus];omega) hnews (by omega) (by omega) (growslice_fits (by omega) hb2);rw[h]at hr;injection hr with e1 e2
   subst e1;exact .inr ⟨_,rfl,Nat.le_refl _⟩
theorem app1K {P:Program}{w:World}{ops:Array Oper}{rest:List Oper}{o:Oper}{a:Act}{Q:Exit→Act→World→Prop}(t e:TypeId)(i:TypeInfo)(z:Value)(k bytes:Nat)
  (ht:P.underlying t=some (.slice e)) (hi:P.info? e=some i) (hz:i.zero=some z) (hsize:i.size=k) (hby:i.bytes=bytes) (hzs:z.cells.size=k) (hkp:0<k) (hbm:bytes≤64)
  (hgd:o.guard=none) (s x:Operand) (ho:o.op = .call { callee:= .builtin .append,args:=#[s,x],argTypes:=#[t,t] })
  (base n:Nat) (v:Value) (xs:List Value) (hs:a.eval s=v) (hown:RowK base e k w v n xs)
  (g:Nat) (us:List Value) (hx:a.eval x = .slice (some ⟨g,0,none⟩) 1 1) (hus:us.length=k) (hg:w.heap[g]?=some (.cells us.toArray e)) (hu:∀u∈us,u.oneCell'=true)
  (hlen:n<1099511627776) (hbase:base≤w.heap.size)
  (h:∀v' w',RowK base e k w' v' (n+1) (xs++us)→Below base w w'→w.grownBy w' v.ownBlock→Moved w v v'→wpList P ops Q rest (a.put o.dst v') w'):wpList P ops Q (o::rest) a w:=by
 subst hby;have hb2:(n+1)*i.bytes≤140737488355328:=Nat.le_trans (Nat.mul_le_mul (Nat.succ_le_of_lt hlen) hbm) (by decide);have hnews:∀j q,us[j]?=some q→w.cell? ((⟨g,0,none⟩:Addr).add j)=some q:=fun j q hj=>by rw[add_none,Nat.zero_add];exact cB hg (by simpa using hj)
 obtain⟨v',w',hrun,hr,hgr,_⟩:=run_append_own (P:=P) w base t o.type e i z k i.bytes ht hi hz hsize rfl hzs hkp v n xs hown ⟨g,0,none⟩ 1 1 us (by omega) hnews hu (by unfold maxLen;omega) hb2 hbase;have hmv:=append_movedK (ty:=o.type) ht hi hz hsize hbm hown hus hg hu hlen hrun;refine wpList_plain hgd fun K hK => ?_
 unfold Oper.wp;simp[execOp,ho,resolve,invoke,builtin,hs,hx,hrun,Result.andThen];exact hK _ _ (h v' w' hr (hown.below hgr hbase) hgr hmv)
theorem app1K_op {P:Program}{w:World}{o:Oper}{a:Act}{K:Act→World→Prop}{Q:Exit→Act→World→Prop}(t e:TypeId)(i:TypeInfo)(z:Value)(k bytes:Nat)
  (ht:P.underlying t=some (.slice e)) (hi:P.info? e=some i) (hz:i.zero=some z) (hsize:i.size=k) (hby:i.bytes=bytes) (hzs:z.cells.size=k) (hkp:0<k) (hbm:bytes≤64)
  (s x:Operand) (ho:o.op = .call { callee:= .builtin .append,args:=#[s,x],argTypes:=#[t,t] })
  (base n:Nat) (v:Value) (xs:List Value) (hs:a.eval s=v) (hown:RowK base e k w v n xs)
  (g:Nat) (us:List Value) (hx:a.eval x = .slice (some ⟨g,0,none⟩) 1 1) (hus:us.length=k) (hg:w.heap[g]?=some (.cells us.toArray e)) (hu:∀u∈us,u.oneCell'=true)
  (hlen:n<1099511627776) (hbase:base≤w.heap.size)
  (h:∀v' w',RowK base e k w' v' (n+1) (xs++us)→Below base w w'→w.grownBy w' v.ownBlock→Moved w v v'→K (a.put o.dst v') w'):o.wp P a w K Q:=by
 subst hby;have hb2:(n+1)*i.bytes≤140737488355328:=Nat.le_trans (Nat.mul_le_mul (Nat.succ_le_of_lt hlen) hbm) (by decide);have hnews:∀j q,us[j]?=some q→w.cell? ((⟨g,0,none⟩:Addr).add j)=some q:=fun j q hj=>by rw[add_none,Nat.zero_add];exact cB hg (by simpa using hj)
 obtain⟨v',w',hrun,hr,hgr,_⟩:=run_append_own (P:=P) w base t o.type e i z k i.bytes ht hi hz hsize rfl hzs hkp v n xs hown ⟨g,0,none⟩ 1 1 us (by omega) hnews hu (by unfold maxLen;omega) hb2 hbase;have hmv:=append_movedK (ty:=o.type) ht hi hz hsize hbm hown hus hg hu hlen hrun;unfold Oper.wp;simp[execOp,ho,resolve,invoke,builtin,hs,hx,hrun,Result.andThen]
 exact h v' w' hr (hown.below hgr hbase) hgr hmv
theorem RowS.rowK {base:Nat}{w:World}{v:Value}{ss:List Pv.S4}(h:RowS base w v ss):RowK base 87 4 w v ss.length (ss.flatMap cells4):=h
theorem RowS.of_rowK {base:Nat}{w:World}{v:Value}{ss:List Pv.S4}{n:Nat}{xs:List Value}(h:RowK base 87 4 w v n xs)(hn:n=ss.length)(hx:xs=ss.flatMap cells4):RowS base w v ss:=by subst hn;subst hx;exact h
theorem app1S {w:World}{ops:Array Oper}{rest:List Oper}{o:Oper}{a:Act}{Q:Exit→Act→World→Prop}
  (hgd:o.guard=none) (s x:Operand) (ho:o.op = .call { callee:= .builtin .append,args:=#[s,x],argTypes:=#[187,187] })
  (base:Nat) (v:Value) (ss:List Pv.S4) (hs:a.eval s=v) (hown:RowS base w v ss)
  (g:Nat) (q:Pv.S4) (hx:a.eval x = .slice (some ⟨g,0,none⟩) 1 1) (hg:w.heap[g]?=some (.cells (S4C q) 87))
  (hlen:ss.length<1099511627776) (hbase:base≤w.heap.size)
  (h:∀v' w',RowS base w' v' (ss++[q])→Below base w w'→w.grownBy w' v.ownBlock→Moved w v v'→wpList Tryz.prog ops Q rest (a.put o.dst v') w'):wpList Tryz.prog ops Q (o::rest) a w:=by
 obtain⟨i,hi,hz0,hz1,hz2⟩:=info_parts info_set;refine app1K _ _ i _ 4 32 Tryz.underlying187 hi hz0 hz1 hz2 rfl (by omega) (by omega) hgd s x ho base ss.length v _ hs hown.rowK g (cells4 q) hx rfl hg (fun u hu=>flat_mem4 (ss:=[q]) (by simpa using hu)) hlen hbase ?_;intro v' w' hr hb hg' hm;exact h v' w' (RowS.of_rowK hr (by simp) (by simp)) hb hg' hm
theorem app1S_op {w:World}{o:Oper}{a:Act}{K:Act→World→Prop}{Q:Exit→Act→World→Prop}
  (s x:Operand) (ho:o.op = .call { callee:= .builtin .append,args:=#[s,x],argTypes:=#[187,187] })
  (base:Nat) (v:Value) (ss:List Pv.S4) (hs:a.eval s=v) (hown:RowS base w v ss)
  (g:Nat) (q:Pv.S4) (hx:a.eval x = .slice (some ⟨g,0,none⟩) 1 1) (hg:w.heap[g]?=some (.cells (S4C q) 87))
  (hlen:ss.length<1099511627776) (hbase:base≤w.heap.size)
  (h:∀v' w',RowS base w' v' (ss++[q])→Below base w w'→w.grownBy w' v.ownBlock→Moved w v v'→K (a.put o.dst v') w'):o.wp Tryz.prog a w K Q:=by
 obtain⟨i,hi,hz0,hz1,hz2⟩:=info_parts info_set;refine app1K_op _ _ i _ 4 32 Tryz.underlying187 hi hz0 hz1 hz2 rfl (by omega) (by omega) s x ho base ss.length v _ hs hown.rowK g (cells4 q) hx rfl hg (fun u hu=>flat_mem4 (ss:=[q]) (by simpa using hu)) hlen hbase ?_;intro v' w' hr hb hg' hm;exact h v' w' (RowS.of_rowK hr (by simp) (by simp)) hb hg' hm
end Go.Proofs.YtamkfdlcdiadlaaGreatDoor
namespace Go.Proofs.YtamkfdlcdiadlaaGreatDoor
open Go.RowKit Go.Maps
variable {H:Nat→Prop}
def MapAt (w:World)(b:Nat)(ks vs:List Value):Prop:=∃es clock,w.heap[b]?=some (.map es clock)∧es.toList.map (·.key)=ks∧es.toList.map (·.val)=vs
theorem MapAt.lt {w:World}{b:Nat}{ks vs:List Value}(h:MapAt w b ks vs):b<w.heap.size:=by obtain⟨es,clock,hb,_⟩:=h;exact blk_lt hb
theorem MapAt.later {w w':World}{b:Nat}{ks vs:List Value}(h:MapAt w b ks vs)(hb:Below w.heap.size w w'):MapAt w' b ks vs:=by obtain⟨es,clock,h1,h2⟩:=h;exact⟨es,clock,later_blk hb h1,h2⟩
theorem MapAt.keep {w w':World}{b:Nat}{ks vs:List Value}(h:MapAt w b ks vs)(hb:Keep H w w')(hn:¬H b):MapAt w' b ks vs:=by obtain⟨es,clock,h1,h2⟩:=h;exact⟨es,clock,hb.blk hn h1,h2⟩
theorem MapAt.ne {w:World}{b g:Nat}{ks vs:List Value}(h:MapAt w b ks vs){cs:Array Value}{t:TypeId}{fr:Nat × Nat}(hg:w.heap[g]?=some (.cells cs t fr)):b≠g:=by obtain⟨es,clock,h1,_⟩:=h;rintro rfl;rw[h1]at hg;cases hg
theorem MapAt.new {w:World}{b:Nat}(h:w.heap[b]?=some (.map #[] 0)):MapAt w b [] []:=⟨#[],0,h,rfl,rfl⟩
theorem MapAt.has {P:Program}{w:World}{b:Nat}{ks vs:List Value}(h:MapAt w b ks vs){k e t:TypeId}(K:Keyed P k)(ht:P.underlying t=some (.map k e))(hk:∀x∈ks,∃l,keyOf P k x=some l){key:Value}{kl:Lit}(hkey:keyOf P k key=some kl)(hin:key∈ks)(c:Bool):
  ∃(i:Nat) (v:Value),ks[i]?=some key∧vs[i]?=some v∧(Instr.lookup t (.map (some b)) key c).run P w = .ok (if c then .tuple #[v,.bool true] else v) w:=by
 obtain⟨es,clock,hb,rfl,rfl⟩:=h;rcases K.find w hkey es.toList (fun x hx=>hk _ (List.mem_map_of_mem hx)) with⟨_,h2⟩|⟨j,e0,h1,h2,h3⟩
 ·obtain⟨x,hx,rfl⟩:=List.mem_map.1 hin;exact absurd rfl (h2 x hx)
 ·refine ⟨j,e0.val,by simpa [h3] using congrArg (Option.map (·.key)) h2,by simpa using congrArg (Option.map (·.val)) h2,?_⟩;simp[Instr.lookup,run_underlying ht,MapKept.run_getObj_map hb,K.check w _ hkey,h1,Result.andThen]
theorem MapAt.hasnt {P:Program}{w:World}{b:Nat}{ks vs:List Value}(h:MapAt w b ks vs){k e t:TypeId}(K:Keyed P k)(ht:P.underlying t=some (.map k e))(hk:∀x∈ks,∃l,keyOf P k x=some l){key:Value}{kl:Lit}(hkey:keyOf P k key=some kl)(hin:key ∉ ks)
  {z:Value} (hz:(zeroValue e).run P w = .ok z w):(Instr.lookup t (.map (some b)) key true).run P w = .ok (.tuple #[z,.bool false]) w:=by
 obtain⟨es,clock,hb,rfl,rfl⟩:=h;rcases K.find w hkey es.toList (fun x hx=>hk _ (List.mem_map_of_mem hx)) with⟨h1,h2⟩|⟨j,e0,h1,h2,h3⟩
 ·simp[Instr.lookup,run_underlying ht,MapKept.run_getObj_map hb,K.check w _ hkey,h1,hz,Result.andThen]
 ·exact absurd (by rw[←h3];exact List.mem_map_of_mem (List.mem_of_getElem? h2)) hin
theorem MapAt.put {P:Program}{w:World}{b:Nat}{ks vs:List Value}(h:MapAt w b ks vs){k e t:TypeId}(K:Keyed P k)(ht:P.underlying t=some (.map k e))(hk:∀x∈ks,∃l,keyOf P k x=some l){key:Value}{kl:Lit}(hkey:keyOf P k key=some kl)(hin:key ∉ ks)
  (v:Value):∃w',(Instr.mapUpdate t (.map (some b)) key v).run P w = .ok () w'∧MapAt w' b (ks++[key]) (vs++[v])∧Keep (· = b) w w':=by
 obtain⟨es,clock,hb,rfl,rfl⟩:=h;rcases K.find w hkey es.toList (fun x hx=>hk _ (List.mem_map_of_mem hx)) with⟨h1,h2⟩|⟨j,e0,h1,h2,h3⟩
 ·refine ⟨ChangeMaps.setBlock w b (.map (es.push ⟨key,v,clock⟩) (clock+1)),?_,⟨es.push ⟨key,v,clock⟩,clock+1,?_,by simp,by simp⟩,?_⟩
  ·simp[Instr.mapUpdate,run_underlying ht,MapKept.run_getObj_map hb,K.check w false hkey,h1,MapKept.run_setObj_map _ hb,Result.andThen,ChangeMaps.setBlock]
  ·have:=blk_lt hb;simp[ChangeMaps.setBlock,this]
  ·refine ⟨rfl,rfl,rfl,by simp[ChangeMaps.setBlock],fun i hi hn => ?_⟩;simp[ChangeMaps.setBlock,Array.getElem?_setIfInBounds,Ne.symm hn]
 ·exact absurd (by rw[←h3];exact List.mem_map_of_mem (List.mem_of_getElem? h2)) hin
end Go.Proofs.YtamkfdlcdiadlaaGreatDoor
