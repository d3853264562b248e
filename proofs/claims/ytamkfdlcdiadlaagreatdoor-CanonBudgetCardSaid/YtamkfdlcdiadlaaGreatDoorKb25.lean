/- The walks of auto.Outside, Shared, Unlike. -/
import Derived.Test.YtamkfdlcdiadlaaGreatDoorKb05
import Derived.Test.YtamkfdlcdiadlaaGreatDoorKb24
import Derived.Test.YtamkfdlcdiadlaaGreatDoorKb14
import Derived.Test.YtamkfdlcdiadlaaGreatDoorKb01
import Derived.Test.YtamkfdlcdiadlaaGreatDoorKb17
import Derived.Test.YtamkfdlcdiadlaaGreatDoorKb13
set_option linter.all false
namespace Go.Proofs.YtamkfdlcdiadlaaGreatDoor
open Go.RowKit Go.Maps
variable {H:Nat→Prop}
theorem witV_form (r:Option (Option (List UInt8))):∃(t:List UInt8) (ok:Bool) (e:Nat),witV r = .tuple #[Str t,.bool ok,.int .i64 (e:Int)]:=by
 match r with
 | none=>exact⟨[],false,5,rfl⟩
 | some none=>exact⟨[],false,0,rfl⟩
 | some (some t)=>exact⟨t,true,0,rfl⟩
theorem Sl.of_blk2 {w:World}{g e:Nat}{x y:Value}(h:w.heap[g]?=some (.cells #[x,y] e)):Sl w (some ⟨g,0,none⟩) 2 [x,y]:=by
 refine⟨Nat.le_refl _,fun h=>(by cases h),fun i hi=>⟨g,0,rfl,?_⟩⟩;rw[Nat.zero_add];refine cB h ?_;simp at hi
 match i,hi with
 | 0,_=>rfl
 | 1,_=>rfl
theorem outside_any (x y:Pv.R)(bx by_ bb l u:Nat)(w:World)(hT:Tab w)(hx:ReAt H w x bx)(hy:ReAt H w y by_)(hbud:BudAt w bb l u)(hbb:H bb)(hH:∀h,H h→h<w.heap.size)(hsz:Pv.size x+Pv.size y<274877906944)(hl:l<274877906944):
  Calls Tryz.prog 104 #[Ptr bx,Ptr by_,Ptr bb] w fun e w'=>e = .returned (witV (Pv.outside x y l).2)∧BudAt w' bb (Pv.outside x y l).1 (u+(l-(Pv.outside x y l).1))∧Keep (· = bb) w w':=by
 have hbut:=but_any x y bx by_ w hx hy hH (by omega);have hszb:=size_but x y;have HBut:=Hy hbut;have HT:=Hy hT;have HBud:=Hy hbud;have HH:=Hy hH;clear hT hx hy hbud hH hbut;go_enter Tryz.func104,Tryz.ntmps104;go_wp2_with fail;refine HBut.out.mono ?_;rintro e w1 ⟨b,rfl,hat,hb⟩
 have hwit:=witness_any (H:=H) (Pv.but x y) b bb l u w1 (HT.out.later hb) hat (HBud.out.later hb) hbb (fun h hh=>by have:=HH.out h hh;have:=hb.size;omega) (by omega) hl;obtain⟨t,ok,er,hv⟩:=witV_form (Pv.witness (Pv.but x y) l).2
 have HF:Hid (∀w2,BudAt w2 bb (Pv.witness (Pv.but x y) l).1 (u+(l-(Pv.witness (Pv.but x y) l).1))→Keep (· = bb) w1 w2→witV (Pv.outside x y l).2 = .tuple #[Str t,.bool ok,.int .i64 (er:Int)]∧BudAt w2 bb (Pv.outside x y l).1 (u+(l-(Pv.outside x y l).1))∧Keep (· = bb) w w2):=fun w2 h1 h2=>⟨hv,h1,(Keep.of_below hb).trans h2⟩
 rw[hv]at hwit;have HWit:=Hy hwit;clear hat hb hwit hv HBut;go_wp2_with fail;refine HWit.out.mono ?_;rintro e w2 ⟨rfl,hb2,hk2⟩;have HF2:=Hy (HF.out w2 hb2 hk2);clear hb2 hk2 HF HWit;go_wp2_with fail;refine bodyPost_ret (v:= .tuple #[Str t,.bool ok,.int .i64 (er:Int)]) ?_ rfl ⟨by rw[HF2.out.1],HF2.out.2⟩;simp[results,Tryz.results104,go_sem]
theorem shared_any (x y:Pv.R)(bx by_ bb l u:Nat)(w:World)(hT:Tab w)(hx:ReAt H w x bx)(hy:ReAt H w y by_)(hbud:BudAt w bb l u)(hbb:H bb)(hH:∀h,H h→h<w.heap.size)(hsz:Pv.size x+Pv.size y<274877906944)(hl:l<274877906944):
  Calls Tryz.prog 144 #[Ptr bx,Ptr by_,Ptr bb] w fun e w'=>e = .returned (witV (Pv.shared x y l).2)∧BudAt w' bb (Pv.shared x y l).1 (u+(l-(Pv.shared x y l).1))∧Keep (· = bb) w w':=by
 have hB0:Below w.heap.size w (w.alloc (.cells #[Ptr bx,Ptr by_] 59)):=(Below.refl _ _).alloc (Nat.le_refl _) _;have hbut:=both_any (H:=H) [x,y] (some ⟨w.heap.size,0,none⟩) 2 [bx,by_] (w.alloc (.cells #[Ptr bx,Ptr by_] 59)) (Sl.of_blk2 (blk_new rfl)) (ResAt.append (ResAt.one (hx.later hB0)) (ResAt.one (hy.later hB0))) (fun h hh=>by have:=hH h hh;have:=hB0.size;omega) (by simp[Pv.sizes];omega)
 have hszb:=size_both [x,y];have hszb2:Pv.sizes [x,y]=Pv.size x+Pv.size y:=by simp[Pv.sizes]
 have HBut:=Hy hbut;have HT:=Hy hT;have HBud:=Hy hbud;have HH:=Hy hH;have HB0:=Hy hB0;clear hT hx hy hbud hH hbut hB0;go_enter Tryz.func144,Tryz.ntmps144;go_wp2_with fail;refine HBut.out.mono ?_;rintro e w1 ⟨b,rfl,hat,hb'⟩;have hb:Below w.heap.size w w1:=HB0.out.trans (hb'.mono HB0.out.size)
 have hwit:=witness_any (H:=H) (Pv.both [x,y]) b bb l u w1 (HT.out.later hb) hat (HBud.out.later hb) hbb (fun h hh=>by have:=HH.out h hh;have:=hb.size;omega) (by omega) hl;obtain⟨t,ok,er,hv⟩:=witV_form (Pv.witness (Pv.both [x,y]) l).2
 have HF:Hid (∀w2,BudAt w2 bb (Pv.witness (Pv.both [x,y]) l).1 (u+(l-(Pv.witness (Pv.both [x,y]) l).1))→Keep (· = bb) w1 w2→witV (Pv.shared x y l).2 = .tuple #[Str t,.bool ok,.int .i64 (er:Int)]∧BudAt w2 bb (Pv.shared x y l).1 (u+(l-(Pv.shared x y l).1))∧Keep (· = bb) w w2):=fun w2 h1 h2=>⟨hv,h1,(Keep.of_below hb).trans h2⟩
 rw[hv]at hwit;have HWit:=Hy hwit;clear hat hb hb' hwit hv HBut;go_wp2_with fail;refine HWit.out.mono ?_;rintro e w2 ⟨rfl,hb2,hk2⟩;have HF2:=Hy (HF.out w2 hb2 hk2);clear hb2 hk2 HF HWit;go_wp2_with fail;refine bodyPost_ret (v:= .tuple #[Str t,.bool ok,.int .i64 (er:Int)]) ?_ rfl ⟨by rw[HF2.out.1],HF2.out.2⟩;simp[results,Tryz.results144,go_sem]
end Go.Proofs.YtamkfdlcdiadlaaGreatDoor
namespace Go.Eaq
open Go Go.RowKit
open Go.Eag (Sch runVal)
open Go.Eak
section
variable {P:Program}{ops:Array Oper}{Q:Exit→Act→World→Prop}{md:Region.Mode}
variable {Rl:World→World→Prop}[hPre:Pre Rl]
def Orq (Rl:World→World→Prop)(q:Bool)(w w':World):Prop:=Rl w w'∨q=true
instance (q:Bool):Pre (Orq Rl q):=⟨fun w=> .inl (hPre.rf w),fun h k=>by
 rcases h with h|h
 ·rcases k with k|k
  ·exact .inl (hPre.tr h k)
  ·exact .inr k
 ·exact .inr h⟩
def freeE (ops:Array Oper)(M:Array Nat)(ex an:Nat→Bool)(l:Array Bool)(i:Nat):Bool:=
 match ops[i]? with
 | none=>false
 | some oi=>(List.range ops.size).all fun j=>j==i||l.getD j true||(M.getD j 0).testBit i||(match ops[j]? with|some oj=>oi.apart ops oj&&(!ex j||an i)|none=>true)
def okSch (ops:Array Oper)(M:Array Nat)(ex an:Nat→Bool):Sch→Array Bool→Nat→Bool
 | .fin,l,n=>n==0&&(Region.ready .any ops l).isEmpty
 | .mov i s,l,n=>n != 0&&(Region.ready .any ops l).contains i&&freeE ops M ex an l i&&okSch ops M ex an s (l.setIfInBounds i true) (n-1)
 | .anc i s,l,n=>n != 0&&Region.ready .any ops l==[i]&&okSch ops M ex an s (l.setIfInBounds i true) (n-1)
 | .two i s j t,l,n=>n != 0&&Region.ready .any ops l==[i,j]&&okSch ops M ex an s (l.setIfInBounds i true) (n-1)&&okSch ops M ex an t (l.setIfInBounds j true) (n-1)
def wpSch (Rl:World→World→Prop)(P:Program)(ops:Array Oper)(K:Act→World→Prop)(ex an:Nat→Bool):Sch→Act→World→Prop
 | .fin,a,w=>K a w
 | .mov i s,a,w=>∃o v,ops[i]?=some o∧Gives (Orq Rl (an i)) P ops w o v a∧wpSch Rl P ops K ex an s (a.put o.dst v) w
 | .anc i s,a,w=>wpOp P ops noEnd i (fun a' w'=>(ex i=true∨Rl w w')∧wpSch Rl P ops K ex an s a' w') a w
 | .two i s j t,a,w=>wpOp P ops noEnd i (fun a' w'=>(ex i=true∨Rl w w')∧wpSch Rl P ops K ex an s a' w') a w ∧
  wpOp P ops noEnd j (fun a' w'=>(ex j=true∨Rl w w')∧wpSch Rl P ops K ex an t a' w') a w
theorem E_take {ex:Nat→Bool}{q:Bool}{M:Array Nat}(hM:okMask ops M=true)(hsel:Region.noSelect ops=true){i:Nat}{oi:Oper}{v:Value}(hi:ops[i]?=some oi)
  (hQ:∀c a w,Q (.panic c) a w→False):
  ∀(n:Nat) (l:Array Bool) (a:Act) (w:World),Shut ops l →
   (∀j oj,ops[j]?=some oj→j≠i→l.getD j true=false→(M.getD j 0).testBit i=false→oi.apart ops oj=true∧(ex j=false∨q=true)) →
   i∈Region.ready .any ops l→Gives (Orq Rl q) P ops w oi v a →
   wpE Rl P .any ops Q ex n (l.setIfInBounds i true) (a.put oi.dst v) w→wpE Rl P .any ops Q ex (n+1) l a w:=by
 intro n;induction n with
 | zero=>
   intro l a w _ _ hr hy H;refine⟨fun h=>(by rw[h]at hr;cases hr),fun j hj => ?_⟩;by_cases hji:j=i
   ·subst hji;exact hy.op hi ⟨.inr (hPre.rf _),H⟩
   ·have:=ready_mono hj hji;rw[H.1]at this;cases this
 | succ n ih=>
   intro l a w hl hf hr hy H;refine⟨fun h=>(by rw[h]at hr;cases hr),fun j hj => ?_⟩;by_cases hji:j=i
   ·subst hji;exact hy.op hi ⟨.inr (hPre.rf _),H⟩
   ·obtain⟨hun,oj,hoj,hall⟩:=mem_ready.1 hj;have hmask:(M.getD j 0).testBit i=false:=by
     cases hb:(M.getD j 0).testBit i with
     | false=>rfl
     | true=>
       have:=listed_of_mask hM hl j (mem_ready_lt hj) i (mem_ready_lt hr) hb (fun o ho e he hbi=>by rw[hoj]at ho;obtain rfl:=Option.some.inj ho;exact hall e he hbi);rw[unlisted_false (mem_ready.1 hr).1]at this;cases this
    obtain⟨hap,hex⟩:=hf j oj hoj hji hun hmask;have h2:=op_put hoj hap (fun cs b=>Region.noSelect_spec hsel i oi cs b hi) (fun cs b=>Region.noSelect_spec hsel j oj cs b hoj) (fun c a w h=>(hQ _ _ _ h).elim) hy (H.2 j (ready_mono hj hji));refine wpOp_mono (fun a' w' h3 => ?_) h2;obtain⟨hg,hbel,hE⟩:=h3;have hg2:Gives (Orq Rl q) P ops w' oi v a':=hg.later (by
     rcases hex with hex|hex
     ·exact .inl (hbel.resolve_left (by rw[hex];simp))
     ·exact .inr hex)
    refine⟨hbel,ih _ a' w' (shut_set hl hj) ?_ (ready_mono hr (Ne.symm hji)) hg2 ?_⟩
    ·intro k ok hk hki hkun hkno;refine hf k ok hk hki ?_ hkno;by_cases hjk:j=k
     ·subst hjk;exact hun
     ·rw[getD_set_ne true hjk]at hkun;exact hkun
    ·rw[Array.setIfInBounds_comm _ _ hji];exact hE
theorem E_of_sch {K:Act→World→Prop}{ex an:Nat→Bool}{M:Array Nat}(hM:okMask ops M=true)(hsel:Region.noSelect ops=true):
  ∀(s:Sch) (n:Nat) (l:Array Bool) (a:Act) (w:World),Shut ops l→okSch ops M ex an s l n=true→wpSch Rl P ops K ex an s a w→wpE Rl P .any ops (calm K) ex n l a w
 | .fin,n,l,a,w,_,ho,h=>by
   simp only[okSch,Bool.and_eq_true,beq_iff_eq,List.isEmpty_iff]at ho;obtain⟨rfl,hr⟩:=ho;exact⟨hr,h⟩
 | .mov i s,n,l,a,w,hl,ho,h=>by
   obtain⟨n,rfl⟩:∃m,n=m+1:=⟨n-1,by simp only[okSch,Bool.and_eq_true,bne_iff_ne,ne_eq]at ho;omega⟩
   obtain⟨o,v,hi,hg,h⟩:=h;simp only[okSch,Bool.and_eq_true,Nat.add_sub_cancel]at ho;obtain⟨⟨⟨_,hr⟩,hf⟩,ho⟩:=ho;have hr':i∈Region.ready .any ops l:=by simpa using hr
   refine E_take hM hsel hi (fun c a w h=>h) n l a w hl ?_ hr' hg (E_of_sch hM hsel s n _ _ w (shut_set hl hr') ho h);intro j oj hj hne hun hm;simp only[freeE,hi,List.all_eq_true,List.mem_range]at hf;have:=hf j (Array.getElem?_eq_some_iff.1 hj).1;have hm':((M[j]?.getD 0).testBit i)=false:=by simpa using hm
   simp only[hj,hm',Bool.or_eq_true,beq_iff_eq,hne,false_or]at this;rw[hun,hm]at this;simpa using this
 | .anc i s,n,l,a,w,hl,ho,h=>by
   obtain⟨n,rfl⟩:∃m,n=m+1:=⟨n-1,by simp only[okSch,Bool.and_eq_true,bne_iff_ne,ne_eq]at ho;omega⟩
   simp only[okSch,Bool.and_eq_true,Nat.add_sub_cancel,beq_iff_eq]at ho;obtain⟨⟨_,hr⟩,ho⟩:=ho;refine⟨fun h0=>absurd (hr.symm.trans h0) (List.cons_ne_nil _ _),fun j hj => ?_⟩;rw[hr,List.mem_singleton]at hj;subst hj;exact wpOp_mono (fun a' w' k=>⟨k.1,E_of_sch hM hsel s n _ a' w' (shut_set hl (by rw[hr];simp)) ho k.2⟩) (noEnd_op h)
 | .two i s j t,n,l,a,w,hl,ho,h=>by
   obtain⟨n,rfl⟩:∃m,n=m+1:=⟨n-1,by simp only[okSch,Bool.and_eq_true,bne_iff_ne,ne_eq]at ho;omega⟩
   simp only[okSch,Bool.and_eq_true,Nat.add_sub_cancel,beq_iff_eq]at ho;obtain⟨⟨⟨_,hr⟩,ho⟩,ho2⟩:=ho;refine⟨fun h0=>absurd (hr.symm.trans h0) (List.cons_ne_nil _ _),fun k hk => ?_⟩;rw[hr]at hk;simp only[List.mem_cons,List.not_mem_nil,or_false]at hk;rcases hk with rfl|rfl
   ·exact wpOp_mono (fun a' w' q=>⟨q.1,E_of_sch hM hsel s n _ a' w' (shut_set hl (by rw[hr];simp)) ho q.2⟩) (noEnd_op h.1)
   ·exact wpOp_mono (fun a' w' q=>⟨q.1,E_of_sch hM hsel t n _ a' w' (shut_set hl (by rw[hr];simp)) ho2 q.2⟩) (noEnd_op h.2)
def okAll (ops:Array Oper)(ex an:Nat→Bool)(s:Sch):Bool:=
 okMask ops (Region.before ops)&&(Region.noSelect ops&&okSch ops (Region.before ops) ex an s (Array.replicate ops.size false) ops.size)
theorem region (Rl:World→World→Prop)[hPre:Pre Rl]{id:Nat}{l:List Oper}{a:Act}{w:World}(s:Sch)(exs ans:List Nat)(hm:P.follows .mixedOrders=true)
  (hk:okAll l.toArray (fun i=>exs.contains i) (fun i=>ans.contains i) s=true)
  (h:∀(K:Act→World→Prop) (ops:Array Oper),Hid (ops=l.toArray)→(∀a w,Q .normal a w→K a w)→wpSch Rl P ops K (fun i=>exs.contains i) (fun i=>ans.contains i) s a w.drew):(Code.region id l.toArray true).wp P Q a w:=by
 simp only[okAll,Bool.and_eq_true]at hk;refine Wp_calm (K:=Q .normal) (fun _ _ h=>h) (wp_region_any hm (wpAny_of_E _ _ _ _ (E_of_sch hk.1 hk.2.1 s _ _ a _ ?_ hk.2.2 (h _ _ rfl (fun _ _ h=>h)))));intro j o _ hj;simp[Array.getElem?_replicate]at hj;split at hj<;>simp at hj
theorem mov {l:List Oper}(hops:Hid (ops=l.toArray)){K:Act→World→Prop}{i:Nat}{s:Sch}{ex an:Nat→Bool}{a:Act}{w:World}{o:Oper}(hi:l.toArray[i]?=some o)(hg:o.guard=none)(hn:an i=false)
  (hr:∀w',Rl w w'→(execOp a.eval o).run P w' = .ok (.value (runVal ((execOp a.eval o).run P w))) w')
  (h:wpSch Rl P ops K ex an s (a.put o.dst (runVal ((execOp a.eval o).run P w))) w):wpSch Rl P ops K ex an (.mov i s) a w:=
 ⟨o,_,(congrArg (fun q:Array Oper=>q[i]?) hops.out).trans hi,.inl ⟨by simp[Region.wanted,hg],fun w' hb=> .inl (hr w' (hb.resolve_right (by rw[hn];simp)))⟩,h⟩
theorem movA {l:List Oper}(hops:Hid (ops=l.toArray)){K:Act→World→Prop}{i:Nat}{s:Sch}{ex an:Nat→Bool}{a:Act}{w:World}{o:Oper}(hi:l.toArray[i]?=some o)(hg:o.guard=none)
  (hr:∀w',(execOp a.eval o).run P w' = .ok (.value (runVal ((execOp a.eval o).run P w))) w')
  (h:wpSch Rl P ops K ex an s (a.put o.dst (runVal ((execOp a.eval o).run P w))) w):wpSch Rl P ops K ex an (.mov i s) a w:=
 ⟨o,_,(congrArg (fun q:Array Oper=>q[i]?) hops.out).trans hi,.inl ⟨by simp[Region.wanted,hg],fun w' _=> .inl (hr w')⟩,h⟩
theorem movG {l:List Oper}(hops:Hid (ops=l.toArray)){K:Act→World→Prop}{i:Nat}{s:Sch}{ex an:Nat→Bool}{a:Act}{w:World}{o:Oper}(hi:l.toArray[i]?=some o)(hg:Region.wanted o (yielded l.toArray a.tmps)=true)(hn:an i=false)
  (hr:∀w',Rl w w'→(execOp a.eval o).run P w' = .ok (.value (runVal ((execOp a.eval o).run P w))) w')
  (h:wpSch Rl P ops K ex an s (a.put o.dst (runVal ((execOp a.eval o).run P w))) w):wpSch Rl P ops K ex an (.mov i s) a w:=
 ⟨o,_,(congrArg (fun q:Array Oper=>q[i]?) hops.out).trans hi,.inl ⟨by rw[hops.out];exact hg,fun w' hb=> .inl (hr w' (hb.resolve_right (by rw[hn];simp)))⟩,h⟩
theorem ancG {l:List Oper}(hops:Hid (ops=l.toArray)){K:Act→World→Prop}{i:Nat}{s:Sch}{ex an:Nat→Bool}{a:Act}{w:World}{o:Oper}(hi:l.toArray[i]?=some o)(hg:Region.wanted o (yielded l.toArray a.tmps)=true)
  (h:o.wp P a w (fun a' w'=>(ex i=true∨Rl w w')∧wpSch Rl P ops K ex an s a' w') noEnd):wpSch Rl P ops K ex an (.anc i s) a w:=by
 show wpOp P ops noEnd i _ a w;have hi':ops[i]?=some o:=(congrArg (fun q:Array Oper=>q[i]?) hops.out).trans hi;unfold wpOp;simp only[hi'];rw[if_pos (by rw[hops.out];exact hg)];exact .inl h
theorem anc {l:List Oper}(hops:Hid (ops=l.toArray)){K:Act→World→Prop}{i:Nat}{s:Sch}{ex an:Nat→Bool}{a:Act}{w:World}{o:Oper}(hi:l.toArray[i]?=some o)(hg:o.guard=none)
  (h:o.wp P a w (fun a' w'=>(ex i=true∨Rl w w')∧wpSch Rl P ops K ex an s a' w') noEnd):wpSch Rl P ops K ex an (.anc i s) a w:=by
 show wpOp P ops noEnd i _ a w;have hi':ops[i]?=some o:=(congrArg (fun q:Array Oper=>q[i]?) hops.out).trans hi;unfold wpOp;simp only[hi'];rw[if_pos (by simp[Region.wanted,hg])];exact .inl h
theorem two {l:List Oper}(hops:Hid (ops=l.toArray)){K:Act→World→Prop}{i j:Nat}{s t:Sch}{ex an:Nat→Bool}{a:Act}{w:World}{o q:Oper}(hi:l.toArray[i]?=some o)(hg:o.guard=none)(hj:l.toArray[j]?=some q)(hg2:q.guard=none)
  (h:o.wp P a w (fun a' w'=>(ex i=true∨Rl w w')∧wpSch Rl P ops K ex an s a' w') noEnd)
  (k:q.wp P a w (fun a' w'=>(ex j=true∨Rl w w')∧wpSch Rl P ops K ex an t a' w') noEnd):wpSch Rl P ops K ex an (.two i s j t) a w:=
 ⟨anc (s:=s) hops hi hg h,anc (s:=t) hops hj hg2 k⟩
theorem fin {K:Act→World→Prop}{ex an:Nat→Bool}{a:Act}{w:World}(h:K a w):wpSch Rl P ops K ex an .fin a w:=h
end
end Go.Eaq
namespace Go.Proofs.YtamkfdlcdiadlaaGreatDoor
open Go.RowKit Go.Maps
variable {H:Nat→Prop}
abbrev faultC (f:Pv.Fault):Array Value:=#[.int .i64 (f.e:Int),.int .i64 (f.op:Int),.int .i64 f.at_,.bool f.view,Str f.text,.int .i64 f.i,.int .i64 f.j]
def CkAt (w:World)(c bb:Nat)(f:Pv.Fault):Prop:=w.heap[c]?=some (.cells #[Ptr bb,.int .i64 (f.e:Int),.int .i64 (f.op:Int),.int .i64 f.at_,.bool f.view,Str f.text,.int .i64 f.i,.int .i64 f.j] 117)
def HeadAt (w:World)(tb op:Nat)(at_:Int):Prop:=∃cs,w.heap[tb]?=some (.cells cs 62)∧cs[0]?=some (.int .i64 (op:Int))∧cs[1]?=some (.int .i64 at_)
theorem CkAt.later {w w':World}{c bb:Nat}{f:Pv.Fault}(h:CkAt w c bb f)(hb:Below w.heap.size w w'):CkAt w' c bb f:=later_blk hb h
theorem CkAt.keep {w w':World}{c bb:Nat}{f:Pv.Fault}(h:CkAt w c bb f)(hb:Keep H w w')(hn:¬H c):CkAt w' c bb f:=hb.blk hn h
theorem HeadAt.keep {w w':World}{tb op:Nat}{at_:Int}(h:HeadAt w tb op at_)(hb:Keep H w w')(hn:¬H tb):HeadAt w' tb op at_:=by obtain⟨cs,h1,h2⟩:=h;exact⟨cs,hb.blk hn h1,h2⟩
theorem HeadAt.later {w w':World}{tb op:Nat}{at_:Int}(h:HeadAt w tb op at_)(hb:Below w.heap.size w w'):HeadAt w' tb op at_:=h.keep (H:=fun _=>False) (Keep.of_below hb) (fun h=>h)
theorem HeadAt.ne {w:World}{tb op:Nat}{at_:Int}(h:HeadAt w tb op at_){b:Nat}{cs:Array Value}{t:TypeId}{fr:Nat × Nat}(hb:w.heap[b]?=some (.cells cs t fr))(ht:t≠62):tb≠b:=by
 obtain⟨c1,h1,_⟩:=h;rintro rfl;rw[h1]at hb;injection hb with hb
 injection hb with _ hb
 exact ht hb.symm
theorem e_eq (n:Nat):((n:Int)==0)=(n==0):=by rw[Bool.eq_iff_iff];simp
theorem ok_any (c bb:Nat)(f:Pv.Fault)(w:World)(h:CkAt w c bb f):Pure 58 #[Ptr c] w (.bool (f.e==0)):=by
 have h1:w.cell? ⟨c,1,none⟩=some (.int .i64 (f.e:Int)):=cB (o:=1) h rfl;have e:=e_eq f.e;clear h;obtain⟨z,hz⟩:∃z,(f.e==0)=z:=⟨_,rfl⟩
 rw[hz]at e ⊢;clear hz;go_enter Tryz.func58,Tryz.ntmps58;go_wp2_with fail;go_ret;exact⟨rfl,rfl⟩
theorem ck_set {w:World}{c bb:Nat}{f:Pv.Fault}(h:CkAt w c bb f)(g:Pv.Fault):
  CkAt (((((((w.setCell ⟨c,1,none⟩ (.int .i64 (g.e:Int))).setCell ⟨c,2,none⟩ (.int .i64 (g.op:Int))).setCell ⟨c,3,none⟩ (.int .i64 g.at_)).setCell ⟨c,4,none⟩ (.bool g.view)).setCell ⟨c,5,none⟩ (Str g.text)).setCell ⟨c,6,none⟩ (.int .i64 g.i)).setCell ⟨c,7,none⟩ (.int .i64 g.j)) c bb g ∧
  Keep (· = c) w (((((((w.setCell ⟨c,1,none⟩ (.int .i64 (g.e:Int))).setCell ⟨c,2,none⟩ (.int .i64 (g.op:Int))).setCell ⟨c,3,none⟩ (.int .i64 g.at_)).setCell ⟨c,4,none⟩ (.bool g.view)).setCell ⟨c,5,none⟩ (Str g.text)).setCell ⟨c,6,none⟩ (.int .i64 g.i)).setCell ⟨c,7,none⟩ (.int .i64 g.j)):=by
 have K:∀(W:World) (o:Nat) (v:Value),Keep (· = c) W (W.setCell ⟨c,o,none⟩ v):=fun W o v=>Keep.set rfl
 refine⟨?_,((((((K _ _ _).trans (K _ _ _)).trans (K _ _ _)).trans (K _ _ _)).trans (K _ _ _)).trans (K _ _ _)).trans (K _ _ _)⟩;unfold CkAt at h ⊢;rw[blk_set (blk_set (blk_set (blk_set (blk_set (blk_set (blk_set h))))))];rfl
theorem fail_nil (c bb:Nat)(f:Pv.Fault)(w:World)(h:CkAt w c bb f)(hf:f.e=0)(e:Nat)(view:Bool)(text:List UInt8):
  Calls Tryz.prog 93 #[Ptr c,.int .i64 (e:Int),.pointer none,.bool view,Str text] w fun en w'=>en = .returned (.bool false)∧CkAt w' c bb { e:=e,view:=view,text:=text }∧Keep (· = c) w w':=by
 have hok:=ok_any c bb f w h;rw[show(f.e==0)=true by simpa using hf]at hok;have h1:=cB (o:=1) h rfl;have h2:=cB (o:=2) h rfl;have h3:=cB (o:=3) h rfl;have h4:=cB (o:=4) h rfl;have h5:=cB (o:=5) h rfl;have h6:=cB (o:=6) h rfl;have h7:=cB (o:=7) h rfl;have fr:∀o,w.frozen? ⟨c,o,none⟩=false:=fun o=>fob h
 have HC:=Hy h;have HOk:=Hy hok;clear h hf hok;go_enter Tryz.func93,Tryz.ntmps93;go_wp2_with fail;refine HOk.out.mono ?_;rintro e w' ⟨rfl,rfl⟩;go_wp2_with fail;have hs:=ck_set HC.out { e:=e,view:=view,text:=text };refine bodyPost_ret (v:= .bool false) ?_ rfl ⟨rfl,hs⟩;simp[results,Tryz.results93,go_sem]
set_option maxRecDepth 20000 in
theorem fail_some (c bb:Nat)(f:Pv.Fault)(w:World)(h:CkAt w c bb f)(hf:f.e=0)(e:Nat)(tb op:Nat)(at_:Int)(ht:HeadAt w tb op at_)(view:Bool)(text:List UInt8):
  Calls Tryz.prog 93 #[Ptr c,.int .i64 (e:Int),Ptr tb,.bool view,Str text] w fun en w'=>en = .returned (.bool false)∧CkAt w' c bb { e:=e,op:=op,at_:=at_,view:=view,text:=text }∧Keep (· = c) w w':=by
 have hok:=ok_any c bb f w h;rw[show(f.e==0)=true by simpa using hf]at hok;have h1:=cB (o:=1) h rfl;have h2:=cB (o:=2) h rfl;have h3:=cB (o:=3) h rfl;have h4:=cB (o:=4) h rfl;have h5:=cB (o:=5) h rfl;have h6:=cB (o:=6) h rfl;have h7:=cB (o:=7) h rfl;have fr:∀o,w.frozen? ⟨c,o,none⟩=false:=fun o=>fob h
 have hne:tb≠c:=ht.ne h (by decide);have hs:=ck_set h { e:=e,view:=view,text:=text };have HS:=Hy hs;have HT:=Hy ht;have HOk:=Hy hok;clear h hf hok ht hs;go_enter Tryz.func93,Tryz.ntmps93;go_wp2_with fail;refine HOk.out.mono ?_;rintro e w' ⟨rfl,rfl⟩;go_wp2_with fail
 obtain⟨w2,hw2⟩:∃w2,((((((((w.setCell ⟨c,1,none⟩ (.int .i64 (e:Int))).setCell ⟨c,2,none⟩ (.int .i64 0)).setCell ⟨c,3,none⟩ (.int .i64 0)).setCell ⟨c,4,none⟩ (.bool view)).setCell ⟨c,5,none⟩ (Str text)).setCell ⟨c,6,none⟩ (.int .i64 0)).setCell ⟨c,7,none⟩ (.int .i64 0)))=w2:=⟨_,rfl⟩
 have hs2:CkAt w2 c bb { e:=e,view:=view,text:=text }∧Keep (· = c) w w2:=by rw[←hw2];exact HS.out
 rw[hw2];clear hw2 h1 h2 h3 h4 h5 h6 h7 fr HOk;have ht2:=HT.out.keep hs2.2 hne;obtain⟨cs,hb,t0,t1⟩:=ht2;have x0:=cB (o:=0) hb t0;have x1:=cB (o:=1) hb t1;have c2:=cB (o:=2) hs2.1 rfl;have c3:=cB (o:=3) hs2.1 rfl;have fr:∀o,w2.frozen? ⟨c,o,none⟩=false:=fun o=>fob hs2.1
 have HS2:=Hy hs2;have nf:¬(fun _:Nat=>False) tb:=fun h=>h
 clear hs2 hb t0 t1;refine Eaq.region (Keep fun _=>False) (.mov 0 (.mov 1 (.mov 2 (.mov 3 (.mov 4 (.mov 5 (.mov 6 (.mov 7 (.mov 8 (.mov 9 (.mov 10 (.mov 11 (.mov 12 (.anc 13 (.mov 14 (.mov 15 (.mov 16 (.anc 17 Eag.Sch.fin)))))))))))))))))) [13,17] [1] (by kernel_rfl) (by kernel_rfl) (fun K ops hops hK => ?_);iterate 13
  first
   | (refine Eaq.mov hops rfl rfl rfl (fun w' hb => ?_) ?_
      ·have q0:=Keep.cell hb nf x0;have q1:=Keep.cell hb nf x1;clear hb;go_simp)
   | (refine Eaq.movA hops rfl rfl (fun w' => ?_) ?_
      ·go_simp)
  go_simp
 refine Eaq.anc hops rfl rfl ?_;go_wp2_with fail;iterate 3
  first
   | (refine Eaq.mov hops rfl rfl rfl (fun w' hb => ?_) ?_
      ·clear hb;go_simp)
   | (refine Eaq.movA hops rfl rfl (fun w' => ?_) ?_
      ·go_simp)
  go_simp
 refine Eaq.anc hops rfl rfl ?_;go_wp2_with fail;refine Eaq.fin (hK _ _ ?_);clear hK hops;go_simp;go_wp2_with fail;refine bodyPost_ret (v:= .bool false) ?_ rfl ⟨rfl,?_,?_⟩
 ·simp[results,Tryz.results93,go_sem]
 ·have h1:=HS2.out.1;unfold CkAt at h1 ⊢;show((w2.setCell ⟨c,2,none⟩ _).setCell ⟨c,3,none⟩ _).heap[c]?=_;rw[blk_set (blk_set h1)];rfl
 ·have K:∀(W:World) (o:Nat) (v:Value),Keep (· = c) W (W.setCell ⟨c,o,none⟩ v):=fun W o v=>Keep.set rfl
  exact(HS2.out.2.trans ((K _ _ _).trans (K _ _ _))).trans (Keep.drew _)
theorem told_true (c bb:Nat)(w:World)(e2:Int)(tv:Value)(view:Bool)(text:List UInt8):
  Pure 139 #[Ptr c,.int .i64 0,.int .i64 e2,tv,.bool view,Str text,.bool false] w (.bool true):=by
 go_enter Tryz.func139,Tryz.ntmps139;go_wp2_with fail;go_ret;exact⟨rfl,rfl⟩
theorem told_found (c bb:Nat)(f:Pv.Fault)(w:World)(h:CkAt w c bb f)(hf:f.e=0)(e:Nat)(tb op:Nat)(at_:Int)(ht:HeadAt w tb op at_)(view:Bool)(text:List UInt8):
  Calls Tryz.prog 139 #[Ptr c,.int .i64 0,.int .i64 (e:Int),Ptr tb,.bool view,Str text,.bool true] w fun en w'=>en = .returned (.bool false)∧CkAt w' c bb { e:=e,op:=op,at_:=at_,view:=view,text:=text }∧Keep (· = c) w w':=by
 have hF:=fail_some c bb f w h hf e tb op at_ ht view text;clear h hf ht;go_enter Tryz.func139,Tryz.ntmps139;go_wp2_with fail;refine hF.mono ?_;rintro en w' ⟨rfl,h1,h2⟩;have H1:=Hy h1;have H2:=Hy h2;clear h1 h2;go_wp2_with fail;go_ret;exact⟨rfl,H1.out,H2.out⟩
theorem CkAt.ne_bud {w:World}{c bb:Nat}{f:Pv.Fault}{b l u:Nat}(h:CkAt w c bb f)(hb:BudAt w b l u):c≠b:=by rintro rfl;have h2:=hb.2;rw[h]at h2;cases h2
abbrev askT (c bb:Nat):Nat→Prop:=fun k=>k=c∨k=bb
end Go.Proofs.YtamkfdlcdiadlaaGreatDoor
namespace Go.Proofs.YtamkfdlcdiadlaaGreatDoor
open Go.RowKit
variable {H:Nat→Prop}
set_option maxRecDepth 20000 in
set_option maxHeartbeats 2000000 in
theorem dmatch_any (P:Pv.R→Prop)(hP:∀r c,P r→P (Pv.by_ c r))(hPs:∀r,P r→Pv.size r≤300000)(r:Pv.R)(hr:P r)(b:Nat)(l:List UInt8)(w:World)(hat:ReAt H w r b)(hH:∀h,H h→h<w.heap.size)(hl:l.length<549755813888):
  Calls Tryz.prog 26 #[Ptr b,Str l] w fun e w'=>e = .returned (.bool (Pv.matchR l r))∧Below w.heap.size w w':=by
 have hconv:=run_bytes_of_string (P:=Tryz.prog) w 9 135 5 ⟨l.toArray⟩ Tryz.underlying9 Tryz.underlying135 Tryz.underlying5;have Hconv:=Hy hconv;have HAt:=Hy hat;have HP:=Hy hP;have HPs:=Hy hPs;have HR:=Hy hr;have HH:=Hy hH;clear hconv hat hP hPs hr hH;go_enter Tryz.func26,Tryz.ntmps26;go_wp2_with fail;rw[Hconv.out];clear Hconv;have hsz:(⟨l.toArray⟩:ByteArray).size=l.length:=by simp[ByteArray.size]
 rw[hsz];have hcells:∀(cap:Nat) (fr:Nat × Nat) (k:Nat) (h:k<l.length),(w.drew.alloc (.cells (bytesRow ⟨l.toArray⟩ cap) 5 fr)).cell? ⟨w.heap.size,k,none⟩=some (.int .u8 (l[k].toNat:Int)):=fun cap fr k h=>by refine cB (blk_new rfl) ?_;have:=bytesRow_at ⟨l.toArray⟩ cap k (by simpa using h);simpa using this
 have hB0:∀(cap:Nat) (fr:Nat × Nat),Below w.heap.size w (w.drew.alloc (.cells (bytesRow ⟨l.toArray⟩ cap) 5 fr)):=fun cap fr=>((Below.refl _ _).drew).alloc (Nat.le_refl _) _
 replace hcells:=hcells (grownCap w l.length 0 5) ((bytesRow ⟨l.toArray⟩ (grownCap w l.length 0 5)).size,(bytesRow ⟨l.toArray⟩ (grownCap w l.length 0 5)).size+1);replace hB0:=hB0 (grownCap w l.length 0 5) ((bytesRow ⟨l.toArray⟩ (grownCap w l.length 0 5)).size,(bytesRow ⟨l.toArray⟩ (grownCap w l.length 0 5)).size+1)
 generalize w.drew.alloc (.cells (bytesRow ⟨l.toArray⟩ (grownCap w l.length 0 5)) 5 ((bytesRow ⟨l.toArray⟩ (grownCap w l.length 0 5)).size,(bytesRow ⟨l.toArray⟩ (grownCap w l.length 0 5)).size+1))=w1 at *;generalize grownCap w l.length 0 5=cap at *;have HC:=Hy hcells;have HB0:=Hy hB0;clear hcells hB0 hsz;go_simp;go_wp2_with fail
 go_loopw [0,10] (fun v i wr=>∃(k:Nat) (rb:Nat) (rr:Pv.R),k≤l.length∧v=Ptr rb∧i = .int .i64 k∧Hid (ReAt H wr rr rb)∧Hid (P rr)∧Hid (Pv.matchR (l.drop k) rr=Pv.matchR l r)∧Hid (Below w.heap.size w wr)∧Hid (Below w1.heap.size w1 wr)) (fun _ i _=>(l.length-intOf i).toNat)
 case atStart=>exact⟨0,b,r,by omega,rfl,rfl,HAt.out.later HB0.out,HR.out,rfl,HB0.out,Below.refl _ _⟩
 case round=>
  obtain⟨k,rb,rr,hk,rfl,rfl,HA,HPr,HM,HB,HB1⟩:=hrel;by_cases hkn:k<l.length
  ·have hc0:=later HB1.out (HC.out k hkn);have hdrop:=List.drop_eq_getElem_cons hkn;obtain⟨c,hc⟩:∃c,l[k]=c:=⟨_,rfl⟩
   rw[hc]at hc0 hdrop;have hsz:=HPs.out rr HPr.out;have hby:=by_any c (Pv.size rr) H rr rb wr (Nat.le_refl _) HA.out (fun h hh=>by have:=HH.out h hh;have:=HB.out.size;omega) hsz;have hm:(if(Pv.by_ c rr).op=0 then false else Pv.matchR (l.drop (k+1)) (Pv.by_ c rr))=Pv.matchR l r:=by have:=HM.out;rw[hdrop,Pv.matchR]at this;exact this
   have HM2:=Hy hm;have HBy:=Hy hby;have hkn':(k:Int)<l.length:=by omega
   have hk40:(k:Int)<1099511627776:=by omega
   clear hdrop hc hm hby HM;go_wp2_with fail;refine HBy.out.mono ?_;rintro e w2 ⟨b2,rfl,hat2,hb2⟩;obtain⟨_,_,_,q0,_⟩:=hat2.cells;have HA2:=Hy hat2;have HB2:=Hy hb2;have HP2:=Hy (HP.out rr c HPr.out);clear hat2 hb2 HBy hc0;have hop:((Pv.by_ c rr).op:Int)=0∨(Pv.by_ c rr).op≠0:=by
    by_cases h:(Pv.by_ c rr).op=0
    ·exact .inl (by rw[h];rfl)
    ·exact .inr h
   generalize hd:Pv.by_ c rr=d at *;by_cases h0:d.op=0
   ·have hm:=HM2.out;rw[if_pos h0]at hm;rw[h0]at q0;replace q0:w2.cell? ⟨b2,0,none⟩=some (.int .i64 0):=q0;have hB:Below w.heap.size w w2:=HB.out.trans (HB2.out.mono HB.out.size);have HMf:=Hy hm;have HBf:=Hy hB;clear hm hB h0 hop hd;go_wp2_with fail;go_ret;exact⟨by rw[←HMf.out];rfl,HBf.out⟩
   ·have hm:=HM2.out;rw[if_neg h0]at hm;have hne:((d.op:Int)==0)=false:=by simp;omega
    have HM3:=Hy hm;have hB:Below w.heap.size w w2:=HB.out.trans (HB2.out.mono HB.out.size);have hB1:Below w1.heap.size w1 w2:=HB1.out.trans (HB2.out.mono HB1.out.size);have HBf:=Hy hB;have HBg:=Hy hB1;clear hm hB hB1 h0 hop hd HM2;go_wp2_with fail;go_roundw
    case rel=>exact⟨k+1,b2,d,by omega,rfl,by go_num,HA2.out,HP2.out,HM3.out,HBf.out,HBg.out⟩
    case measure=>simp[intOf];omega
  ·have e:k=l.length:=by omega
   have hm:=HM.out;rw[e,List.drop_length,Pv.matchR]at hm;have hnull:=null_any rr rb wr HA.out;rw[hm]at hnull;have HN:=Hy hnull;clear hm hnull HM;subst e;go_wp2_with fail;refine HN.out.mono ?_;rintro e w' ⟨rfl,rfl⟩;go_wp2_with fail;go_ret;exact⟨rfl,HB.out⟩
end Go.Proofs.YtamkfdlcdiadlaaGreatDoor
namespace Go.Proofs.YtamkfdlcdiadlaaGreatDoor
open Go.RowKit Go.Maps
variable {H:Nat→Prop}
theorem side_not (c bb:Nat)(f:Pv.Fault)(w:World)(h:CkAt w c bb f)(hf:f.e≠0)(x:Nat):
  Pure 95 #[Ptr c,Ptr x] w (.pointer none):=by
 have hok:=ok_any c bb f w h;rw[show(f.e==0)=false by simpa using hf]at hok;clear h;go_enter Tryz.func95,Tryz.ntmps95;go_wp2_with fail;refine hok.mono ?_;rintro e w' ⟨rfl,rfl⟩;go_wp2_with fail;go_ret;exact⟨rfl,rfl⟩
theorem within_any (P:Pv.R→Prop)(hP:∀r c,P r→P (Pv.by_ c r))(hPs:∀r,P r→Pv.size r≤300000)(x:Pv.R)(hxP:P x)(text:List UInt8)(bx c bb:Nat)(w:World)(hx:ReAt H w x bx)(hH:∀h,H h→h<w.heap.size)(htl:text.length<549755813888)
  (hc:CkAt w c bb {}) (tb op:Nat) (at_:Int) (ht:HeadAt w tb op at_):
  Calls Tryz.prog 134 #[Ptr c,Ptr tb,Str text,Ptr bx] w fun en w'=>en = .returned (.bool (Pv.matchR text x))∧CkAt w' c bb (if Pv.matchR text x then {} else { e:=23,op:=op,at_:=at_,text:=text })∧Keep (· = c) w w':=by
 have hok:=ok_any c bb {} w hc;have hm:=dmatch_any (H:=H) P hP hPs x hxP bx text w hx hH htl;have HOk:=Hy hok;have HC:=Hy hc;have HTm:=Hy ht;cases hq:Pv.matchR text x with
 | true=>
   rw[hq]at hm;have HM:=Hy hm;clear hok hm hc ht hx hH hP hPs hq;go_enter Tryz.func134,Tryz.ntmps134;go_wp2_with fail;refine HOk.out.mono ?_;rintro e w' ⟨rfl,rfl⟩;go_wp2_with fail;refine HM.out.mono ?_;rintro e w1 ⟨rfl,hb1⟩;have HB1:=Hy hb1;clear hb1 HM;go_wp2_with fail;go_ret;exact⟨rfl,HC.out.later HB1.out,Keep.of_below HB1.out⟩
 | false=>
   rw[hq]at hm;have HM:=Hy hm;clear hok hm hc ht hx hH hP hPs hq;go_enter Tryz.func134,Tryz.ntmps134;go_wp2_with fail;refine HOk.out.mono ?_;rintro e w' ⟨rfl,rfl⟩;go_wp2_with fail;refine HM.out.mono ?_;rintro e w1 ⟨rfl,hb1⟩;have hfail:=fail_some c bb {} w1 (HC.out.later hb1) rfl 23 tb op at_ (HTm.out.later hb1) false text;have HFail:=Hy hfail;have HB1:=Hy hb1;clear hb1 HM hfail;go_wp2_with fail
   refine HFail.out.mono ?_;rintro e w2 ⟨rfl,hc2,hk2⟩;have HC2:=Hy hc2;have HK2:=Hy hk2;clear hc2 hk2 HFail;go_wp2_with fail;go_ret;exact⟨rfl,HC2.out,(Keep.of_below HB1.out).trans HK2.out⟩
end Go.Proofs.YtamkfdlcdiadlaaGreatDoor
