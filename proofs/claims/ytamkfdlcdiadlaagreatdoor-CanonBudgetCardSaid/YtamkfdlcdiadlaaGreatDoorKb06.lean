/- Expressions in memory. -/
import Derived.Test.YtamkfdlcdiadlaaGreatDoorKb05
import Derived.Shelf.Strings.Builder1
import Derived.Shelf.Strings.Builder2
import Derived.Shelf.Strings.OnBuilder
import Derived.Shelf.Small.Bits
import Derived.Shelf.Strings.BuilderF
import Derived.Shelf.Strings.BuilderK
import Derived.Shelf.Strconv.Itoa0
import Derived.Shelf.Strconv.Itoa1
import Derived.Shelf.LaysM
import Derived.Shelf.Strconv.Itoa2
import Derived.Shelf.Strconv.Itoa3
import Derived.Ground.SlgnProg
import Derived.Shelf.SlicesE.Reverse
import Derived.Shelf.SlicesE.Compact
import Derived.Ground.SlgfProg
import Derived.Shelf.SlicesE.IndexFunc
import Derived.Shelf.SlicesE.DeleteFunc
import Derived.Ground.SlsfProg
import Derived.Test.YtamkfdlcdiadlaaGreatDoorProg
set_option linter.all false
namespace Go.Proofs.YtamkfdlcdiadlaaGreatDoor
open Go.RowKit
variable {H:Nat→Prop}
abbrev reCells (op:Nat)(s:Pv.S4)(kv:Value)(nul:Bool)(key:List UInt8)(size:Nat):Array Value:=
 #[.int .i64 (op:Int),W64 s.a,W64 s.b,W64 s.c,W64 s.d,kv,.bool nul,.string ⟨key.toArray⟩,.int .i64 (size:Int)]
mutual
def ReAt (H:Nat→Prop)(w:World):Pv.R→Nat→Prop
 | .mk op s ks,b=>(op≤7∧(op≠2→s=Pv.S4.zero)∧(op=3∨op=5→ks≠[]))∧¬H b∧∃(a:Option Addr) (c:Nat) (bs:List Nat),(∀blk off,a=some ⟨blk,off,none⟩→¬H blk∧blk<w.heap.size) ∧
  w.heap[b]?=some (.cells (reCells op s (.slice a bs.length c) (Pv.null (.mk op s ks)) (Pv.key (.mk op s ks)) (Pv.size (.mk op s ks))) 139) ∧
  Sl w a c (bs.map Ptr)∧ResAt H w ks bs
def ResAt (H:Nat→Prop)(w:World):List Pv.R→List Nat→Prop
 | [],bs=>bs=[]
 | r::rs,bs=>∃b bs',bs=b::bs'∧ReAt H w r b∧ResAt H w rs bs'
end
theorem ResAt.length {w:World}:∀ {rs:List Pv.R} {bs:List Nat},ResAt H w rs bs→bs.length=rs.length
 | [],_,h=>by unfold ResAt at h;subst h;rfl
 | r::rs,_,h=>by unfold ResAt at h;obtain⟨b,bs',rfl,_,h⟩:=h;simp[ResAt.length h]
mutual
theorem ReAt.later {w w':World}(hb:Below w.heap.size w w'):∀ {r:Pv.R} {b:Nat},ReAt H w r b→ReAt H w' r b
 | .mk op s ks,b,h=>by unfold ReAt at *;obtain⟨hw,h0,a,c,bs,ha,h1,h2,h3⟩:=h;exact⟨hw,h0,a,c,bs,fun x y e=>⟨(ha x y e).1,Nat.lt_of_lt_of_le (ha x y e).2 hb.size⟩,later_blk hb h1,h2.later hb,ResAt.later hb h3⟩
theorem ResAt.later {w w':World}(hb:Below w.heap.size w w'):∀ {rs:List Pv.R} {bs:List Nat},ResAt H w rs bs→ResAt H w' rs bs
 | [],_,h=>by unfold ResAt at *;exact h
 | r::rs,_,h=>by unfold ResAt at *;obtain⟨b,bs',e,h1,h2⟩:=h;exact⟨b,bs',e,ReAt.later hb h1,ResAt.later hb h2⟩
end
theorem ReAt.open_ {w:World}{r:Pv.R}{b:Nat}(h:ReAt H w r b):∃(a:Option Addr) (c:Nat) (bs:List Nat),
  w.heap[b]?=some (.cells (reCells r.op r.set (.slice a bs.length c) (Pv.null r) (Pv.key r) (Pv.size r)) 139)∧Sl w a c (bs.map Ptr)∧ResAt H w r.kids bs:=by
 cases r;unfold ReAt at h;obtain⟨_,_,a,c,bs,_,h⟩:=h;exact⟨a,c,bs,h⟩
theorem ReAt.mk_ {w:World}{r:Pv.R}{b:Nat}{a:Option Addr}{c:Nat}{bs:List Nat}(h0:r.op≤7∧(r.op≠2→r.set=Pv.S4.zero)∧(r.op=3∨r.op=5→r.kids≠[]))(hb:¬H b)(ha:∀blk off,a=some ⟨blk,off,none⟩→¬H blk∧blk<w.heap.size)
  (h:w.heap[b]?=some (.cells (reCells r.op r.set (.slice a bs.length c) (Pv.null r) (Pv.key r) (Pv.size r)) 139)) (h1:Sl w a c (bs.map Ptr)) (h2:ResAt H w r.kids bs):ReAt H w r b:=by
 cases r;unfold ReAt;exact⟨h0,hb,a,c,bs,ha,h,h1,h2⟩
theorem ReAt.head {w:World}{r:Pv.R}{b:Nat}(h:ReAt H w r b):r.op≤7∧(r.op≠2→r.set=Pv.S4.zero)∧(r.op=3∨r.op=5→r.kids≠[]):=by cases r;unfold ReAt at h;exact h.1
theorem ReAt.lt {w:World}{r:Pv.R}{b:Nat}(h:ReAt H w r b):b<w.heap.size:=by obtain⟨_,_,_,h,_⟩:=h.open_;exact blk_lt h
theorem ReAt.cells {w:World}{r:Pv.R}{b:Nat}(h:ReAt H w r b):∃(a:Option Addr) (c:Nat) (bs:List Nat),
  w.cell? ⟨b,0,none⟩=some (.int .i64 (r.op:Int))∧w.cell? ⟨b,1,none⟩=some (W64 r.set.a)∧w.cell? ⟨b,2,none⟩=some (W64 r.set.b)∧w.cell? ⟨b,3,none⟩=some (W64 r.set.c)∧w.cell? ⟨b,4,none⟩=some (W64 r.set.d) ∧
  w.cell? ⟨b,5,none⟩=some (.slice a bs.length c)∧w.cell? ⟨b,6,none⟩=some (.bool (Pv.null r))∧w.cell? ⟨b,7,none⟩=some (.string ⟨(Pv.key r).toArray⟩)∧w.cell? ⟨b,8,none⟩=some (.int .i64 (Pv.size r:Int)) ∧
  Sl w a c (bs.map Ptr)∧ResAt H w r.kids bs∧b<w.heap.size:=by
 have hl:=h.lt;obtain⟨a,c,bs,h,h1,h2⟩:=h.open_;exact⟨a,c,bs,cB h rfl,cB h rfl,cB h rfl,cB h rfl,cB h rfl,cB h rfl,cB h rfl,cB h rfl,cB h rfl,h1,h2,hl⟩
theorem ResAt.get {w:World}:∀ {rs:List Pv.R} {bs:List Nat} (_:ResAt H w rs bs) (i:Nat) (hi:i<rs.length),∃hb:i<bs.length,ReAt H w rs[i] bs[i]
 | [],_,_,i,hi=>by cases hi
 | r::rs,_,h,i,hi=>by
   unfold ResAt at h;obtain⟨b,bs',rfl,h1,h2⟩:=h;cases i with
   | zero=>exact⟨by simp,h1⟩
   | succ i=>
     obtain⟨hb,h3⟩:=ResAt.get h2 i (by simpa using hi);exact⟨by simpa using hb,h3⟩
theorem ResAt.append {w:World}:∀ {rs:List Pv.R} {bs:List Nat} {rs':List Pv.R} {bs':List Nat},ResAt H w rs bs→ResAt H w rs' bs'→ResAt H w (rs++rs') (bs++bs')
 | [],_,_,_,h,h'=>by unfold ResAt at h;subst h;exact h'
 | r::rs,_,_,_,h,h'=>by unfold ResAt at h;obtain⟨b,bs1,rfl,h1,h2⟩:=h;simp only[List.cons_append];unfold ResAt;exact⟨b,_,rfl,h1,ResAt.append h2 h'⟩
theorem ResAt.one {w:World}{r:Pv.R}{b:Nat}(h:ReAt H w r b):ResAt H w [r] [b]:=by unfold ResAt;exact⟨b,[],rfl,h,by unfold ResAt;rfl⟩
mutual
theorem ReAt.wf {w:World}:∀ {r:Pv.R} {b:Nat},ReAt H w r b→Pv.WF r
 | .mk op s ks,b,h=>by unfold ReAt at h;obtain⟨hw,_,a,c,bs,_,_,_,h3⟩:=h;unfold Pv.WF;exact⟨hw.1,hw.2.1,hw.2.2,ResAt.wf h3⟩
theorem ResAt.wf {w:World}:∀ {rs:List Pv.R} {bs:List Nat},ResAt H w rs bs→Pv.WFs rs
 | [],_,_=>by unfold Pv.WFs;trivial
 | r::rs,_,h=>by unfold ResAt at h;obtain⟨b,bs',_,h1,h2⟩:=h;unfold Pv.WFs;exact⟨ReAt.wf h1,ResAt.wf h2⟩
end
mutual
theorem ReAt.widen {w:World}{H':Nat→Prop}(hH:∀x,H' x→H x∨w.heap.size≤x):∀ {r:Pv.R} {b:Nat},ReAt H w r b→ReAt H' w r b
 | .mk op s ks,b,h=>by
   unfold ReAt at *;obtain⟨hw,h0,a,c,bs,ha,h1,h2,h3⟩:=h;refine⟨hw,fun hx => ?_,a,c,bs,?_,h1,h2,ResAt.widen hH h3⟩
   ·rcases hH _ hx with hx|hx
    ·exact h0 hx
    ·have:=blk_lt h1;omega
   ·intro x y e;refine⟨fun hx => ?_,(ha x y e).2⟩;rcases hH _ hx with hx|hx
    ·exact(ha x y e).1 hx
    ·have:=(ha x y e).2;omega
theorem ResAt.widen {w:World}{H':Nat→Prop}(hH:∀x,H' x→H x∨w.heap.size≤x):∀ {rs:List Pv.R} {bs:List Nat},ResAt H w rs bs→ResAt H' w rs bs
 | [],_,h=>by unfold ResAt at *;exact h
 | r::rs,_,h=>by unfold ResAt at *;obtain⟨b,bs',e,h1,h2⟩:=h;exact⟨b,bs',e,ReAt.widen hH h1,ResAt.widen hH h2⟩
end
theorem ResAt.nil {w:World}:ResAt H w [] []:=by unfold ResAt;rfl
theorem joined_len (x:List UInt8)(r:List (List UInt8)):(Pv.joined (x::r)).length=x.length+(r.map (fun y=>y.length+1)).sum:=by simp only[Pv.joined,List.length_append,List.length_flatten,List.map_map];congr 2
theorem dg36Go_len:∀(f u:Nat) (acc:List UInt8),(Pv.dg36Go f u acc).length≤acc.length+f
 | 0,_,_=>Nat.le_refl _
 | f+1,u,acc=>by
   unfold Pv.dg36Go;split
   ·exact Nat.le_trans (dg36Go_len f _ _) (by simp[Nat.add_assoc,Nat.add_comm 1 f])
   ·simp
theorem words_len (op:Nat)(s:Pv.S4):((Pv.wordParts op s).map (fun y=>y.length+1)).sum≤60:=by
 unfold Pv.wordParts;split
 ·have h1:=dg36Go_len 14 s.a.toNat [];have h2:=dg36Go_len 14 s.b.toNat [];have h3:=dg36Go_len 14 s.c.toNat [];have h4:=dg36Go_len 14 s.d.toNat [];simp only[List.length_nil,Nat.zero_add]at h1 h2 h3 h4;simp only[Pv.digits36,List.map_cons,List.map_nil,List.sum_cons,List.sum_nil];omega
 ·simp
mutual
theorem key_len:∀r:Pv.R,(Pv.key r).length+1≤64*Pv.size r
 | .mk op s ks=>by have h:=keys_len ks;have hw:=words_len op s;unfold Pv.key Pv.size;simp only[List.length_cons,List.length_append,List.length_nil];have hj:=joined_len [UInt8.ofNat (48+op)] (Pv.wordParts op s++Pv.keys ks);simp only[List.length_cons,List.length_nil,List.map_append,List.sum_append]at hj;omega
theorem keys_len:∀l:List Pv.R,((Pv.keys l).map (fun x=>x.length+1)).sum≤64*Pv.sizes l
 | []=>by simp[Pv.keys,Pv.sizes]
 | r::l=>by have:=key_len r;have:=keys_len l;simp only[Pv.keys,Pv.sizes,List.map_cons,List.sum_cons];omega
end
end Go.Proofs.YtamkfdlcdiadlaaGreatDoor
namespace Go.Proofs.YtamkfdlcdiadlaaGreatDoor
open Go.RowKit
theorem pow36 (w:World):Pure 209 #[.int .i64 36] w (.bool false):=by
 go_enter Tryz.func209,Tryz.ntmps209;have h:bits .and .i64 36 35=32:=by decide
 go_wp2;go_ret;exact⟨rfl,rfl⟩
theorem pow14:18446744073709551616<36 ^ 14:=by decide
theorem dig36_at (k:Nat)(h:k<36):(⟨#[48,49,50,51,52,53,54,55,56,57,97,98,99,100,101,102,103,104,105,106,107,108,109,110,111,112,113,114,115,116,117,118,119,120,121,122]⟩:ByteArray)[k]'h=Pv.dig36 k:=by
 have:∀k:Fin 36,(⟨#[48,49,50,51,52,53,54,55,56,57,97,98,99,100,101,102,103,104,105,106,107,108,109,110,111,112,113,114,115,116,117,118,119,120,121,122]⟩:ByteArray)[k.val]'k.isLt=Pv.dig36 k.val:=by decide
 exact this ⟨k,h⟩
theorem digs_cons {cur:Array Value}{q:Nat}{acc:List UInt8}{d:UInt8}(hq:q<cur.size)(h:∀j (h:j<acc.length),cur[q+1+j]?=some (.int .u8 (acc[j].toNat:Int))):
  ∀j (h:j<(d::acc).length),(cur.setIfInBounds q (.int .u8 (d.toNat:Int)))[q+j]?=some (.int .u8 ((d::acc)[j].toNat:Int)):=by
 intro j hj;cases j with
 | zero=>simp[hq]
 | succ j=>
   rw[Array.getElem?_setIfInBounds_ne (by omega)];simpa [Nat.add_assoc,Nat.add_comm 1 j] using h j (by simpa using hj)
theorem sl65 (B q:Nat)(hq:q<65)(w:World):(Instr.sliceAt 302 (.pointer (some ⟨B,0,none⟩)) (some (.int .i64 (q:Int))) none none).run Tryz.prog w = .ok (.slice (some ⟨B,q,none⟩) (65-q) (65-q)) w:=by
 have e:Tryz.prog.elem 302=5:=by kernel_rfl
 have e2:Tryz.prog.arrayLen 302=65:=by kernel_rfl
 have ht:Tryz.prog.underlying 302=some (.array (Tryz.prog.arrayLen 302) (Tryz.prog.elem 302)):=by rw[e,e2];exact Tryz.underlying302
 rw[run_sliceAt_array_l (P:=Tryz.prog) w 302 ⟨B,0,none⟩ ht .i64 (q:Int) (by omega) (by rw[e2];omega)];rw[e,e2,Tryz.sizeOf5];simp only[Result.andThen_ok,slicedAt,Int.toNat_natCast,Nat.mul_one];rw[if_neg (by omega)];by_cases h0:q=0
 ·subst h0;rfl
 ·simp[Addr.add,h0]
set_option maxRecDepth 20000 in
set_option maxHeartbeats 1000000 in
theorem fb36 (u:Nat)(hu:u<18446744073709551616)(w:World):
  Calls Tryz.prog 189 #[.slice none 0 0,.int .u64 (u:Int),.int .i64 36,.bool false,.bool false] w fun e w'=>e = .returned (.tuple #[.slice none 0 0,.string ⟨(Pv.digits36 u).toArray⟩])∧Below w.heap.size w w':=by
 go_enter Tryz.func189,Tryz.ntmps189;go_wp2_with fail;refine(pow36 _).mono ?_;rintro e w' ⟨rfl,rfl⟩;go_wp2_with fail
 go_loopw [1,13] (fun v i wr=>∃(n p f:Nat) (acc:List UInt8) (cur:Array Value),v = .int .u64 (n:Int)∧i = .int .i64 p∧p+acc.length=65∧0<f∧f<p∧n<36 ^ f∧n<18446744073709551616∧Pv.dg36Go f n acc=Pv.digits36 u∧Below w.heap.size w wr∧wr.heap[w.heap.size]?=some (.cells cur 302)∧cur.size=65∧∀j (h:j<acc.length),cur[p+j]?=some (.int .u8 (acc[j].toNat:Int))) (fun v _ _=>(intOf v).toNat)
 case atStart=>
  exact⟨u,65,14,[],_,rfl,rfl,rfl,by omega,by omega,Nat.lt_trans hu pow14,hu,rfl,(Below.refl _ _).alloc (Nat.le_refl _) _,blk_new rfl,by simp,fun j h=>by cases h⟩
 case round=>
  obtain⟨n,p,f,acc,cur,rfl,rfl,hl,hf0,hfp,hn36,hn64,hfb,hB,hc,hsz,hcur⟩:=hrel;obtain⟨q,rfl⟩:∃q,p=q+1:=⟨p-1,by omega⟩
  obtain⟨x,hcell⟩:∃x,wr.cell? ⟨w.heap.size,q,none⟩=some x:=⟨_,cB (o:=q) hc (Array.getElem?_eq_getElem (by omega))⟩
  have hfr:=fob (o:=q) hc;have HC:=Hy hc;have HJ:=Hy hcur;have HF:=Hy hfb;have HN:=Hy hn36;have HS:=Hy hsz;have HL:=Hy hl;have hq:q<65:=by omega
  have hq':(q:Int)<65:=by omega
  have hq0:(0:Int)≤q:=by omega
  have HN64:=Hy hn64;by_cases h36:36≤n
  ·have h1:IntKind.u64.wrap ((n:Int) / 36)=(n:Int) / 36:=by rw[IntKind.wrap_u64];omega
   have h2:IntKind.u64.wrap ((n:Int) / 36*36)=(n:Int) / 36*36:=by rw[IntKind.wrap_u64];omega
   have h3:IntKind.u64.wrap ((n:Int)-(n:Int) / 36*36)=(n:Int) % 36:=by rw[IntKind.wrap_u64];omega
   have h4:=dig36_at (n % 36) (by omega);clear hc hcur hfb hn36 hsz hl hn64;go_wp2;obtain⟨f,rfl⟩:∃g,f=g+1:=⟨f-1,by omega⟩
   have hf1:0<f:=by
    rcases Nat.eq_zero_or_pos f with h|h
    ·subst h;have:=HN.out;omega
    ·exact h
   refine⟨⟨n / 36,q,f,Pv.dig36 (n % 36)::acc,_,by go_num,rfl,by have:=HL.out;simp;omega,hf1,by omega,?_,by have:=HN64.out;omega,?_,hB.setCell (by simp) _,blk_set HC.out,by simp[HS.out],digs_cons (by rw[HS.out];omega) HJ.out⟩,by simp[intOf];omega⟩
   ·have:=HN.out;rw[Nat.pow_succ]at this;exact Nat.div_lt_of_lt_mul (by omega)
   ·rw[←HF.out,Pv.dg36Go,if_pos h36]
  ·have hlt:n<36:=by omega
   have h4:=dig36_at n hlt;have hlt0:(n:Int)<36:=by omega
   have hsl:=fun W=>sl65 w.heap.size q hq W
   have hd:=digs_cons (d:=Pv.dig36 n) (q:=q) (by rw[hsz];exact hq) hcur;have hlen:(Pv.dig36 n::acc).length=65-q:=by simp;omega
   have hcv:(convert 135 9 (.slice (some ⟨w.heap.size,q,none⟩) (65-q) (65-q))).run Tryz.prog (wr.setCell ⟨w.heap.size,q,none⟩ (.int .u8 ((Pv.dig36 n).toNat:Int))) = .ok (.string ⟨(Pv.dig36 n::acc).toArray⟩) (wr.setCell ⟨w.heap.size,q,none⟩ (.int .u8 ((Pv.dig36 n).toNat:Int))):=by
    have:=run_convert_bytes_back (P:=Tryz.prog) (wr.setCell ⟨w.heap.size,q,none⟩ (.int .u8 ((Pv.dig36 n).toNat:Int))) 135 9 5 ⟨w.heap.size,q,none⟩ (65-q) (Pv.dig36 n::acc) Tryz.underlying135 Tryz.underlying5 Tryz.underlying9 (fun j hj=>by
     have e:(⟨w.heap.size,q,none⟩:Addr).add j=⟨w.heap.size,q+j,none⟩:=by
      unfold Addr.add;split
      ·subst_vars;rfl
      ·rfl
     rw[e];exact cB (blk_set hc) (hd j hj))
    rw[hlen]at this;exact this
   obtain⟨f,rfl⟩:∃g,f=g+1:=⟨f-1,by omega⟩
   have HR:Hid (Pv.digits36 u=Pv.dig36 n::acc):=by rw[Hid,←hfb,Pv.dg36Go,if_neg h36]
   clear hc hcur hfb hn36 hsz hl hn64 hd hlen;go_wp2;go_ret2;exact⟨by rw[HR.out];rfl,hB.setCell (by simp) _⟩
set_option maxHeartbeats 400000 in
theorem fmtU_in (u:Nat)(hu:u<18446744073709551616)(w:World):
  Calls Tryz.prog 152 #[.int .u64 (u:Int),.int .i64 36] w fun e w'=>e = .returned (.string ⟨(Pv.digits36 u).toArray⟩)∧Below w.heap.size w w':=by
 go_enter Tryz.func152,Tryz.ntmps152;go_wp2_with fail;refine(fb36 u hu _).mono ?_;rintro e w' ⟨rfl,hb⟩;go_wp2_with fail;go_ret;exact⟨rfl,hb⟩
set_option maxHeartbeats 400000 in
theorem fmtU (u:Nat)(hu:u<18446744073709551616)(w:World):
  Calls Tryz.prog 118 #[.int .u64 (u:Int),.int .i64 36] w fun e w'=>e = .returned (.string ⟨(Pv.digits36 u).toArray⟩)∧Below w.heap.size w w':=by
 go_enter Tryz.func118,Tryz.ntmps118;go_wp2_with fail;refine(fmtU_in u hu _).mono ?_;rintro e w' ⟨rfl,hb⟩;go_wp2_with fail;go_ret;exact⟨rfl,hb⟩
end Go.Proofs.YtamkfdlcdiadlaaGreatDoor
namespace Go.Proofs
open Go.Shelf
def Tryz.lays156_ren:Go.Shelf.Ren:=⟨fun|156=>119|165=>153|166=>154|169=>155|240=>190|241=>191|276=>211|277=>212|n=>n,fun|31=>142|9=>9|3=>3|4=>4|0=>0|20=>20|72=>230|76=>234|70=>228|37=>135|75=>233|127=>284|164=>303|5=>5|80=>162|n=>n,fun|n=>n⟩
theorem Tryz.lays156:Go.Proofs.Lays.n156 Tryz.prog Tryz.lays156_ren:={
 mixed:=by kernel_rfl
 f156:=Tryz.func119.trans (congrArg some (by kernel_rfl))
 f165:=Tryz.func153.trans (congrArg some (by kernel_rfl))
 f166:=Tryz.func154.trans (congrArg some (by kernel_rfl))
 f169:=Tryz.func155.trans (congrArg some (by kernel_rfl))
 f240:=Tryz.func190.trans (congrArg some (by kernel_rfl))
 f241:=Tryz.func191.trans (congrArg some (by kernel_rfl))
 f276:=Tryz.func211.trans (congrArg some (by kernel_rfl))
 f277:=Tryz.func212.trans (congrArg some (by kernel_rfl))
 t0:=Tryz.underlying0
 a0:=Tryz.isAgg0
 z0:=Tryz.sizeOf0
 v0:=Tryz.zeroValue0
 t3:=Tryz.underlying3
 a3:=Tryz.isAgg3
 z3:=Tryz.sizeOf3
 v3:=Tryz.zeroValue3
 t4:=Tryz.underlying4
 a4:=Tryz.isAgg4
 z4:=Tryz.sizeOf4
 v4:=Tryz.zeroValue4
 t9:=Tryz.underlying9
 a9:=Tryz.isAgg9
 z9:=Tryz.sizeOf9
 v9:=Tryz.zeroValue9
 t20:=Tryz.underlying20
 a20:=Tryz.isAgg20
 z20:=Tryz.sizeOf20
 v20:=Tryz.zeroValue20
 t31:=Tryz.underlying142
 a31:=Tryz.isAgg142
 z31:=Tryz.sizeOf142
 v31:=Tryz.zeroValue142
 t37:=Tryz.underlying135
 a37:=Tryz.isAgg135
 z37:=Tryz.sizeOf135
 v37:=Tryz.zeroValue135
 t70:=Tryz.underlying228
 a70:=Tryz.isAgg228
 z70:=Tryz.sizeOf228
 v70:=Tryz.zeroValue228
 t72:=Tryz.underlying230
 a72:=Tryz.isAgg230
 z72:=Tryz.sizeOf230
 v72:=Tryz.zeroValue230
 t75:=Tryz.underlying233
 a75:=Tryz.isAgg233
 z75:=Tryz.sizeOf233
 v75:=Tryz.zeroValue233
 t76:=Tryz.underlying234
 a76:=Tryz.isAgg234
 z76:=Tryz.sizeOf234
 v76:=Tryz.zeroValue234
 t127:=Tryz.underlying284
 a127:=Tryz.isAgg284
 z127:=Tryz.sizeOf284
 v127:=Tryz.zeroValue284
 t164:=Tryz.underlying303
 a164:=Tryz.isAgg303
 z164:=Tryz.sizeOf303
 v164:=Tryz.zeroValue303 }
theorem Tryz.Builder_Extra_156:Builder.Extra Tryz.prog Tryz.lays156_ren:={
 sizeBuilder:=by kernel_rfl
 liesBuilder:=by kernel_rfl
 t5:=Tryz.underlying5
 a5:=Tryz.isAgg5
 z5:=Tryz.sizeOf5
 v5:=Tryz.zeroValue5
 infoByte:=by kernel_rfl
 cellsByte:=by kernel_rfl
 sizeByte:=by kernel_rfl
 neB5:=by decide }
open Go.RowKit in
theorem Tryz.strings_Join (bk o c:Nat)(xs:List ByteArray)(sep:ByteArray)(w:World)(hcells:∀(j:Nat) x,xs[j]?=some x→w.cell? ⟨bk,o+j,none⟩=some (.string x))(hbk:bk<w.heap.size)(hN:xs.length≤140737488355328)(hcap:xs.length≤c)(hlen:(Lib.join (xs.map (·.data.toList)) sep.data.toList).length≤140737488355328):
 Calls Tryz.prog 119 #[.slice (some ⟨bk,o,none⟩) xs.length c,.string sep] w fun e w'=>e = .returned (.string ⟨(Lib.join (xs.map (·.data.toList)) sep.data.toList).toArray⟩)∧Below w.heap.size w w':=Any.strings_Join Tryz.lays156 Tryz.Builder_Extra_156 bk o c xs sep w hcells hbk hN hcap hlen
def Tryz.lays125_ren:Go.Shelf.Ren:=⟨fun|125=>195|128=>223|129=>207|n=>n,fun|46=>95|3=>3|51=>195|53=>85|4=>4|5=>5|9=>9|n=>n,fun|n=>n⟩
theorem Tryz.lays125:Go.Proofs.Lays.n125 Tryz.prog Tryz.lays125_ren:={
 mixed:=by kernel_rfl
 f125:=Tryz.func195.trans (congrArg some (by kernel_rfl))
 f128:=Tryz.func223.trans (congrArg some (by kernel_rfl))
 f129:=Tryz.func207.trans (congrArg some (by kernel_rfl))
 t3:=Tryz.underlying3
 a3:=Tryz.isAgg3
 z3:=Tryz.sizeOf3
 v3:=Tryz.zeroValue3
 t4:=Tryz.underlying4
 a4:=Tryz.isAgg4
 z4:=Tryz.sizeOf4
 v4:=Tryz.zeroValue4
 t5:=Tryz.underlying5
 a5:=Tryz.isAgg5
 z5:=Tryz.sizeOf5
 v5:=Tryz.zeroValue5
 t9:=Tryz.underlying9
 a9:=Tryz.isAgg9
 z9:=Tryz.sizeOf9
 v9:=Tryz.zeroValue9
 t46:=Tryz.underlying95
 a46:=Tryz.isAgg95
 z46:=Tryz.sizeOf95
 v46:=Tryz.zeroValue95
 t51:=Tryz.underlying195
 a51:=Tryz.isAgg195
 z51:=Tryz.sizeOf195
 v51:=Tryz.zeroValue195
 t53:=Tryz.underlying85
 a53:=Tryz.isAgg85
 z53:=Tryz.sizeOf85
 v53:=Tryz.zeroValue85 }
theorem Tryz.bits_Len (x:Int)(w:World)(h0:0≤x)(h1:x≤18446744073709551615):
 Calls Tryz.prog 195 #[.int .u64 x] w fun e w'=>e = .returned (.int .i64 (Lib.bitLen x.toNat))∧w'=w:=Any.bits_Len Tryz.lays125 x w h0 h1
def Tryz.lays171_ren:Go.Shelf.Ren:=⟨fun|171=>117|243=>151|246=>185|283=>186|284=>187|285=>188|286=>189|129=>207|317=>206|318=>208|319=>209|320=>210|337=>235|338=>169|n=>n,fun|3=>3|9=>9|2=>2|4=>4|171=>280|0=>0|53=>85|37=>135|5=>5|173=>282|212=>301|51=>195|20=>20|213=>302|46=>95|232=>330|233=>290|n=>n,fun|17=>1|18=>3|19=>0|n=>n⟩
theorem Tryz.lays171:Go.Proofs.Lays.n171 Tryz.prog Tryz.lays171_ren:={
 mixed:=by kernel_rfl
 f129:=Tryz.func207.trans (congrArg some (by kernel_rfl))
 f171:=Tryz.func117.trans (congrArg some (by kernel_rfl))
 f243:=Tryz.func151.trans (congrArg some (by kernel_rfl))
 f246:=Tryz.func185.trans (congrArg some (by kernel_rfl))
 f283:=Tryz.func186.trans (congrArg some (by kernel_rfl))
 f284:=Tryz.func187.trans (congrArg some (by kernel_rfl))
 f285:=Tryz.func188.trans (congrArg some (by kernel_rfl))
 f286:=Tryz.func189.trans (congrArg some (by kernel_rfl))
 f317:=Tryz.func206.trans (congrArg some (by kernel_rfl))
 f318:=Tryz.func208.trans (congrArg some (by kernel_rfl))
 f319:=Tryz.func209.trans (congrArg some (by kernel_rfl))
 f320:=Tryz.func210.trans (congrArg some (by kernel_rfl))
 f337:=Tryz.func235.trans (congrArg some (by kernel_rfl))
 f338:=Tryz.func169.trans (congrArg some (by kernel_rfl))
 t0:=Tryz.underlying0
 a0:=Tryz.isAgg0
 z0:=Tryz.sizeOf0
 v0:=Tryz.zeroValue0
 t2:=Tryz.underlying2
 a2:=Tryz.isAgg2
 z2:=Tryz.sizeOf2
 v2:=Tryz.zeroValue2
 t3:=Tryz.underlying3
 a3:=Tryz.isAgg3
 z3:=Tryz.sizeOf3
 v3:=Tryz.zeroValue3
 t4:=Tryz.underlying4
 a4:=Tryz.isAgg4
 z4:=Tryz.sizeOf4
 v4:=Tryz.zeroValue4
 t5:=Tryz.underlying5
 a5:=Tryz.isAgg5
 z5:=Tryz.sizeOf5
 v5:=Tryz.zeroValue5
 t9:=Tryz.underlying9
 a9:=Tryz.isAgg9
 z9:=Tryz.sizeOf9
 v9:=Tryz.zeroValue9
 t20:=Tryz.underlying20
 a20:=Tryz.isAgg20
 z20:=Tryz.sizeOf20
 v20:=Tryz.zeroValue20
 t37:=Tryz.underlying135
 a37:=Tryz.isAgg135
 z37:=Tryz.sizeOf135
 v37:=Tryz.zeroValue135
 t46:=Tryz.underlying95
 a46:=Tryz.isAgg95
 z46:=Tryz.sizeOf95
 v46:=Tryz.zeroValue95
 t51:=Tryz.underlying195
 a51:=Tryz.isAgg195
 z51:=Tryz.sizeOf195
 v51:=Tryz.zeroValue195
 t53:=Tryz.underlying85
 a53:=Tryz.isAgg85
 z53:=Tryz.sizeOf85
 v53:=Tryz.zeroValue85
 t171:=Tryz.underlying280
 a171:=Tryz.isAgg280
 z171:=Tryz.sizeOf280
 v171:=Tryz.zeroValue280
 t173:=Tryz.underlying282
 a173:=Tryz.isAgg282
 z173:=Tryz.sizeOf282
 v173:=Tryz.zeroValue282
 t212:=Tryz.underlying301
 a212:=Tryz.isAgg301
 z212:=Tryz.sizeOf301
 v212:=Tryz.zeroValue301
 t213:=Tryz.underlying302
 a213:=Tryz.isAgg302
 z213:=Tryz.sizeOf302
 t232:=Tryz.underlying330
 a232:=Tryz.isAgg330
 z232:=Tryz.sizeOf330
 v232:=Tryz.zeroValue330
 t233:=Tryz.underlying290
 a233:=Tryz.isAgg290
 z233:=Tryz.sizeOf290
 v233:=Tryz.zeroValue290
 g17:=by kernel_rfl
 g18:=by kernel_rfl
 g19:=by kernel_rfl }
open Go.RowKit Go.Sort Go.Lib in
theorem Tryz.strconv_Itoa_small (i:Nat)(hi:i<100)(w:World):
 Calls Tryz.prog 117 #[.int .i64 i] w fun e w'=>e = .returned (.string ⟨(Lib.decDigits i).toArray⟩)∧w'=w:=Any.strconv_Itoa_small Tryz.lays171 i hi w
def Tryz.laysSlE43_f178_ren:Go.Shelf.Ren:=⟨fun|43=>178|n=>n,fun|22=>135|23=>5|3=>3|4=>4|0=>0|n=>n,fun|n=>n⟩
theorem Tryz.laysSlE43_f178:Go.Proofs.SlLaysE.n43 Tryz.prog Tryz.laysSlE43_f178_ren:={
 mixed:=by kernel_rfl
 f43:=⟨Tryz.f178.name,by decide,Tryz.func178.trans (congrArg some (by kernel_rfl))⟩
 t0:=Tryz.underlying0
 a0:=Tryz.isAgg0
 z0:=Tryz.sizeOf0
 v0:=Tryz.zeroValue0
 t3:=Tryz.underlying3
 a3:=Tryz.isAgg3
 z3:=Tryz.sizeOf3
 v3:=Tryz.zeroValue3
 t4:=Tryz.underlying4
 a4:=Tryz.isAgg4
 z4:=Tryz.sizeOf4
 v4:=Tryz.zeroValue4
 t22:=Tryz.underlying135
 a22:=Tryz.isAgg135
 z22:=Tryz.sizeOf135
 v22:=Tryz.zeroValue135
 a23:=Tryz.isAgg5
 z23:=Tryz.sizeOf5 }
open Go.RowKit Go.Lib Go.Sort in
theorem Tryz.slices_Compact {α:Type}[Inhabited α][DecidableEq α](enc:α→Value)(hO:OneCell enc)(heq:EqlAt Tryz.prog 5 enc (fun x y=>decide (x=y)))(hne:NeqAt Tryz.prog 5 enc (fun x y=>decide (x=y)))(zr:α)(v23:∀w,(zeroValue 5).run Tryz.prog w = .ok (enc zr) w)(blk off cap:Nat)(d:Array α)(w:World)(hH:Holds enc w blk off d)(hsz:d.size≤9223372036854775807)(hcap:d.size≤cap):
 Calls Tryz.prog 178 #[.slice (some ⟨blk,off,none⟩) d.size cap] w fun e w'=>e = .returned (.slice (some ⟨blk,off,none⟩) (compactUpTo d d.size).length cap)∧∃q,w'=putRow enc (Sort.ahead w q) blk off (compactUpTo d d.size++List.replicate (d.size-(compactUpTo d d.size).length) zr).toArray:=AnyE.slices_Compact Tryz.laysSlE43_f178 enc hO heq hne zr v23 blk off cap d w hH hsz hcap
end Go.Proofs
