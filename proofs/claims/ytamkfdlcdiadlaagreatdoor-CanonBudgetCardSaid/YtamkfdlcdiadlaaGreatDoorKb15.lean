/- The walk of part.Index: a range over a function in a loop. -/
import Derived.Test.YtamkfdlcdiadlaaGreatDoorKb05
import Derived.Test.YtamkfdlcdiadlaaGreatDoorKb14
set_option linter.all false
namespace Go.Proofs.YtamkfdlcdiadlaaGreatDoor
open Go.RowKit Go.Shelf
attribute [local go_sem] Oper.semAt_some
theorem bytes_any (s:Pv.S4)(w:World):Calls Tryz.prog 168 #[S4V s] w fun e w'=>e = .returned (.func (.func 197) #[] #[Ptr w.heap.size])∧w'=w.alloc (.cells (S4C s) 87):=by
 have hmf:∀(fn:Fn) (first cap:Array Value) (w:World),(Instr.makeFunc fn first cap).run Tryz.prog w = .ok (.func fn first cap) w:=fun _ _ _ _=>rfl
 go_enter Tryz.func168,Tryz.ntmps168;go_wp2;go_ret;exact⟨rfl,rfl⟩
def outF (ps:List Pv.S4)(k b:Nat):Nat:=((ps.take k).zipIdx.foldl (fun k (x:Pv.S4 × Nat)=>if x.1.has b then x.2 else k) 0) % 256
theorem outF_all (ps:List Pv.S4)(b:Nat):outF ps ps.length b=Pv.indexOf ps b:=by unfold outF Pv.indexOf;rw[List.take_length]
theorem outF_succ (ps:List Pv.S4)(k b:Nat)(h:k<ps.length):outF ps (k+1) b=if ps[k].has b then k % 256 else outF ps k b:=by
 unfold outF;rw[List.take_succ_eq_append_getElem h,List.zipIdx_append,List.foldl_append];simp only[List.zipIdx_singleton,List.foldl_cons,List.foldl_nil];have:(ps.take k).length=k:=by simp;omega
 split<;>simp[this]
def cellsOf (f:Nat→Nat):Array Value:=((List.range 256).map fun b=>Value.int .u8 (f b:Int)).toArray
theorem cellsOf_size (f:Nat→Nat):(cellsOf f).size=256:=by simp[cellsOf]
theorem cellsOf_set (f:Nat→Nat)(b v:Nat):(cellsOf f).setIfInBounds b (.int .u8 (v:Int))=cellsOf fun c=>if c=b then v else f c:=by
 apply Array.ext
 ·simp[cellsOf]
 ·intro i h1 h2;simp only[cellsOf,List.size_toArray,List.length_map,List.length_range]at h2;rw[Array.getElem_setIfInBounds (by simpa [cellsOf] using h2)];by_cases e:b=i
  ·subst e;simp[cellsOf]
  ·have:¬i=b:=fun h=>e h.symm
   simp[cellsOf,e,this]
theorem cellsOf_congr {f g:Nat→Nat}(h:∀b,b<256→f b=g b):cellsOf f=cellsOf g:=by unfold cellsOf;congr 1;exact List.map_congr_left fun b hb=>by rw[h b (List.mem_range.1 hb)]
def marks (Ds:List Nat):List Deferred:=Ds.map fun D=>{ target:= .collected D,args:=#[] }
structure MarksOk (B:Nat)(W:World)(Ds:List Nat):Prop where
 nodup:Ds.Nodup
 ge:∀D∈Ds,B≤D
 open_:∀D∈Ds,W.heap[D]?=some (.deferred (some []))
theorem leaves_marks {F:Fence}{n:Nat}{fn:Func}{tmps:Array Value}{R:Ending→World→Prop}{B:Nat}:∀(Ds:List Nat) (W W0:World),MarksOk B W Ds→Below B W0 W→B≤W.heap.size→(∀(b:Nat) (cs:Array Value) (t:TypeId) (fr:Nat × Nat),W0.heap[b]?=some (Obj.cells cs t fr)→W.heap[b]?=some (Obj.cells cs t fr)) →
  (∀W',Below B W0 W'→(∀(b:Nat) (cs:Array Value) (t:TypeId) (fr:Nat × Nat),W0.heap[b]?=some (Obj.cells cs t fr)→W'.heap[b]?=some (Obj.cells cs t fr))→LeavesInM F n Tryz.prog fn tmps R [] .returning W')→LeavesInM F n Tryz.prog fn tmps R (marks Ds) .returning W
 | [],W,W0,_,hb,_,hc,h=>h W hb hc
 | D::Ds,W,W0,hM,hb,hB,hc,h=>by
   have hD:=hM.open_ D (by simp);refine⟨by simp,.inl ⟨D,_,rfl,run_takeDeferred hD,?_⟩⟩;have hn:=List.nodup_cons.1 hM.nodup;refine leaves_marks Ds _ W0 ⟨hn.2,fun E hE=>hM.ge E (by simp[hE]),fun E hE => ?_⟩ ?_ (by simp;exact hB) (fun b cs t fr hq => ?_) h
   ·exact(World.putObj_heap_other (fun e=>hn.1 (by rw[←e];exact hE))).trans (hM.open_ E (by simp[hE]))
   ·exact hb.trans ((Below.refl B W).grown (grownBy_putObj' W D _) hB (fun k e=>by cases e;exact hM.ge D (by simp)))
   ·have hq2:=hc b cs t fr hq;exact(World.putObj_heap_other (fun e=>by subst e;rw[hD]at hq2;cases hq2)).trans hq2
structure Mid (w:World)(ps:List Pv.S4)(k:Nat)(Ds:List Nat)(bk:Nat)(pre:List (Fin 256))(X:World):Prop where
 below:Below w.heap.size w X
 marks:MarksOk w.heap.size X Ds
 zero:X.heap[w.heap.size]?=some (Obj.cells (cellsOf fun _=>0) 190)
 out:X.heap[w.heap.size+1]?=some (Obj.cells (cellsOf fun b=>if b∈pre.map (·.val) then k % 256 else outF ps k b) 190)
 key:X.heap[bk]?=some (Obj.cells #[.int .i64 (k:Int)] 3)
theorem Mid.grown {w:World}{ps:List Pv.S4}{k:Nat}{Ds:List Nat}{bk:Nat}{pre:List (Fin 256)}{X X':World}{B:Nat}(h:Mid w ps k Ds bk pre X)(hg:X.grownBy X' (some B))(hB:w.heap.size≤B)
  (h2:B≠w.heap.size) (h3:B≠w.heap.size+1) (h4:B≠bk) (h5:∀D∈Ds,B≠D):Mid w ps k Ds bk pre X' where
 below:=h.below.grown hg h.below.size fun k e=>by cases e;exact hB
 marks:=⟨h.marks.nodup,h.marks.ge,fun D hD=>(hg.block D (blk_lt (h.marks.open_ D hD)) (fun e=>h5 D hD (by injection e with e;exact e.symm))).trans (h.marks.open_ D hD)⟩
 zero:=(hg.block _ (blk_lt h.zero) (fun e=>h2 (by injection e with e;exact e.symm))).trans h.zero
 out:=(hg.block _ (blk_lt h.out) (fun e=>h3 (by injection e with e;exact e.symm))).trans h.out
 key:=(hg.block _ (blk_lt h.key) (fun e=>h4 (by injection e with e;exact e.symm))).trans h.key
theorem Mid.own {w:World}{ps:List Pv.S4}{k:Nat}{Ds:List Nat}{bk B:Nat}(hB:w.heap.size+1<B)(hk:bk<B)(hD:∀D∈Ds,D<B):OwnFrom B (fun pre X=>Mid w ps k Ds bk pre X):=by
 intro pre X X' row h hg hr;cases row with
 | none=>exact { below:=h.below.grown hg h.below.size (fun k e=>by cases e),marks:=⟨h.marks.nodup,h.marks.ge,fun D hD=>(hg.block D (blk_lt (h.marks.open_ D hD)) (by simp)).trans (h.marks.open_ D hD)⟩,
                 zero:=(hg.block _ (blk_lt h.zero) (by simp)).trans h.zero,out:=(hg.block _ (blk_lt h.out) (by simp)).trans h.out,key:=(hg.block _ (blk_lt h.key) (by simp)).trans h.key }
 | some r=>
   have hrB:=(hr r rfl).1;exact h.grown hg (by omega) (by omega) (by omega) (by omega) fun D hD' e=>by have:=hD D hD';omega
theorem opIn_load {F:Fence}{n:Nat}{P:Program}{Q:Exit→Act→World→Prop}{K:Act→World→Prop}{o:Oper}{a:Act}{W:World}{t:TypeId}{x:Operand}{p v:Value}(ho:o.op = .load t x)(hx:a.eval x=p)
  (h:(Instr.loadAt t p).run P W = .ok v W) (hk:K (a.put o.dst v) W):o.wpIn F n P a W K Q:=by
 refine⟨fun f hf=>by simp[Oper.about,ho]at hf,?_⟩;have:(o.semAt F.round a.eval).run P W = .ok (.value v) W:=by unfold Oper.semAt;cases F.round<;>simp[ho,execOp,hx,h,Result.andThen]
 rw[this];exact hk
theorem below_setRow {B g:Nat}{W:World}{cs:Array Value}(hg:B≤g):Below B W (W.setRow g cs):=
 ⟨rfl,rfl,rfl,by simp[World.setRow],fun k hk=>by simp[World.setRow,Array.getElem?_modify];omega⟩
theorem setRow_blk {g:Nat}{W:World}{cs old:Array Value}{t:TypeId}{fr:Nat × Nat}(h:W.heap[g]?=some (Obj.cells old t fr)):(W.setRow g cs).heap[g]?=some (Obj.cells cs t fr):=by simp[World.setRow,Array.getElem?_modify,h]
theorem setRow_ne {g b:Nat}{W:World}{cs:Array Value}(h:b≠g):(W.setRow g cs).heap[b]?=W.heap[b]?:=by simp[World.setRow,Array.getElem?_modify];omega
theorem zero256:Tryz.zeroCells190=cellsOf (fun _=>0):=by kernel_rfl
set_option maxRecDepth 20000 in
set_option maxHeartbeats 4000000 in
theorem pindex_any (ps:List Pv.S4)(a:Option Addr)(c:Nat)(w:World)(h:SlS w a c ps)(hn:ps.length≤256):
  Calls Tryz.prog 129 #[.slice a ps.length c] w fun e w'=>e = .returned (.agg (cellsOf (Pv.indexOf ps)))∧Below w.heap.size w w':=by
 have HS:=Hy h;clear h;refine(callsIn_wide (n:=9)).1 ?_;refine callsIn_of_wp_marks Tryz.func129 rfl trivial ?_ rfl;simp only[Tryz.ntmps129,List.size_toArray,List.length_cons,List.length_nil,Nat.reduceAdd,Nat.reduceSub,Array.replicate_succ,Array.replicate_zero,List.push_toArray,List.append_toArray,List.nil_append,List.cons_append]
 gi_wp2
 rw[zero256];refine wpIn_loop (fun a' W=>∃(k:Nat) (Ds:List Nat) (u4 u5 u6 u10 u11 u12 u13 u14 u15 u16 u17 u18 u19 u20 u21 u22:Value),
   a'={ tmps:=#[.slice a ps.length c,undef,.pointer (some ⟨w.heap.size,0,none⟩),.pointer (some ⟨w.heap.size+1,0,none⟩),u4,u5,u6,.slice a ps.length c,.int .i64 ps.length,.int .i64 k,u10,u11,u12,u13,u14,u15,u16,u17,u18,u19,u20,u21,u22],defers:=marks Ds } ∧
   k≤ps.length∧Hid (MarksOk w.heap.size W Ds)∧Hid (W.heap[w.heap.size]?=some (Obj.cells (cellsOf fun _=>0) 190))∧Hid (W.heap[w.heap.size+1]?=some (Obj.cells (cellsOf (outF ps k)) 190))∧Hid (Below w.heap.size w W))
  (fun a' _=>(ps.length-intOf (a'.tmps.getD 9 undef)).toNat) ?_ ?_
 ·refine ⟨0,[],_,_,_,_,_,_,_,_,_,_,_,_,_,_,_,_,rfl,by omega,⟨by simp,by simp,by simp⟩,?_,?_,?_⟩
  ·exact blk_old (blk_new rfl)
  ·exact(blk_new (by simp)).trans (by congr 2)
  ·exact((Below.refl _ _).alloc (Nat.le_refl _) _).alloc (by simp) _
 ·rintro a' W ⟨k,Ds,u4,u5,u6,u10,u11,u12,u13,u14,u15,u16,u17,u18,u19,u20,u21,u22,rfl,hk,HM,H2,H3,HB⟩;by_cases hkn:k<ps.length
  ·have hkn':(k:Int)<ps.length:=by omega
   obtain⟨blk,off,rfl,c0,c1,c2,c3⟩:=(HS.out.later HB.out).at_ k hkn;have hout:=Hy (fun b=>outF_succ ps k b hkn);generalize ps[k]=s at *;obtain⟨sa,sb,sc,sd⟩:=s;simp only at c0 c1 c2 c3
   gi_wp2
   refine⟨trivial,(callsIn_wide.2 (bytes_any ⟨sa,sb,sc,sd⟩ _)).mono ?_⟩;rintro e w' ⟨rfl,rfl⟩;clear c0 c1 c2 c3;have hMid:Mid w ps k Ds W.heap.size [] (((W.alloc (.cells #[.int .i64 (k:Int)] 3)).alloc (.cells #[W64 sa,W64 sb,W64 sc,W64 sd] 87)).alloc (.cells (S4C ⟨sa,sb,sc,sd⟩) 87)):={
    below:=((HB.out.alloc HB.out.size _).alloc (by have:=HB.out.size;simp;omega) _).alloc (by have:=HB.out.size;simp;omega) _
    marks:=⟨HM.out.nodup,HM.out.ge,fun D hD=>blk_old (blk_old (blk_old (HM.out.open_ D hD)))⟩
    zero:=blk_old (blk_old (blk_old H2.out))
    out:=(blk_old (blk_old (blk_old H3.out))).trans (by simp)
    key:=blk_old (blk_old (blk_new rfl)) }
   have hsb:(((W.alloc (.cells #[.int .i64 (k:Int)] 3)).alloc (.cells #[W64 sa,W64 sb,W64 sc,W64 sd] 87)).alloc (.cells (S4C ⟨sa,sb,sc,sd⟩) 87)).heap[W.heap.size+1+1]?=some (Obj.cells (S4C ⟨sa,sb,sc,sd⟩) 87):=blk_new (by simp);have hlt:w.heap.size+1<W.heap.size:=blk_lt H3.out;have hDs:∀D∈Ds,D<W.heap.size:=fun D hD=>blk_lt (HM.out.open_ D hD)
   have hsz:(((W.alloc (.cells #[.int .i64 (k:Int)] 3)).alloc (.cells #[W64 sa,W64 sb,W64 sc,W64 sd] 87)).alloc (.cells (S4C ⟨sa,sb,sc,sd⟩) 87)).heap.size=W.heap.size+1+1+1:=by simp
   gi_wp2
   generalize (((W.alloc (.cells #[.int .i64 (k:Int)] 3)).alloc (.cells #[W64 sa,W64 sb,W64 sc,W64 sd] 87)).alloc (.cells (S4C ⟨sa,sb,sc,sd⟩) 87))=W5 at *;refine wpIn_rangeFunc_ownF rfl (by omega) (gf:=197) (lb:=#[Ptr (W.heap.size+1+1)]) rfl trivial (enters_of Tryz.func197 (by kernel_rfl) rfl)
    (bytes_stops _ (by omega) (W.heap.size+1+1) ⟨sa,sb,sc,sd⟩ W5 hsb) (Kp:=KeepsBlk (W.heap.size+1+1)) (fun h k cs t fr q=>k _ _ _ (h _ _ _ q))
    (fun X l o o' _ hl ho _ cs t fr q=>(World.putObj_heap_other (fun e=>by subst e;rw[q]at hl;injection hl with hl;subst hl;cases ho)).trans q) (Below.refl _ _) (fun _=>rfl)
    (fun pre X=>Mid w ps k Ds W.heap.size pre X) (fun _ _ _=>False) (Mid.own (by omega) (by omega) (fun D hD=>by have:=hDs D hD;omega)) (fun _ _ _ _ _ hs _ _=>hs) hMid
    (fun x=>{ tmps:=#[.slice (some ⟨blk,off,none⟩) ps.length c,undef,.pointer (some ⟨w.heap.size,0,none⟩),.pointer (some ⟨w.heap.size+1,0,none⟩),.pointer (some ⟨W.heap.size,0,none⟩),.pointer (some ⟨W.heap.size+1,0,none⟩),.int .u8 ((x:Nat):Int),
     .slice (some ⟨blk,off,none⟩) ps.length c,.int .i64 ps.length,.int .i64 k,.bool true,.int .i64 k,.pointer (some ⟨blk,off+k*4,none⟩),.agg #[W64 sa,W64 sb,W64 sc,W64 sd],.agg #[W64 sa,W64 sb,W64 sc,W64 sd],
     .func (.func 197) #[] #[Ptr (W.heap.size+1+1)],.int .u8 ((x:Nat):Int),u17,u18,u19,u20,u21,u22],defers:=[] }) ?assign ?body ?done ?stop
   case assign=>
    intro l x X K hK
    gi_wp2
    exact hK
   case body=>
    rintro l pre x X hX _;have hx1:((x:Nat):Int)<256:=by have:=x.isLt;omega
    have hk1:=cB (o:=0) hX.key rfl;have hwr:IntKind.u8.wrap (k:Int)=((k % 256:Nat):Int):=by rw[IntKind.wrap_u8];omega
    have ho1:X.cell? ⟨w.heap.size+1,x,none⟩=some (.int .u8 (((if(x:Nat)∈pre.map (·.val) then k % 256 else outF ps k x:Nat)):Int)):=cB hX.out (by simp[cellsOf,x.isLt]);have hf1:=fob (o:=x) hX.out;have HX:=Hy hX;clear hX
    gi_wp2
    refine⟨KeepsOthers.setCell _ _ _,fun cs t fr q=>(blk_set_ne (by omega)).trans q,?_,⟨HX.out.marks.nodup,HX.out.marks.ge,fun D hD=>(blk_set_ne (fun e => ?_)).trans (HX.out.marks.open_ D hD)⟩,(blk_set_ne (by omega)).trans HX.out.zero,?_,(blk_set_ne (by omega)).trans HX.out.key⟩
    ·exact HX.out.below.setCell (by simp) _
    ·have h1:=HX.out.marks.open_ D hD;rw[e,HX.out.out]at h1;cases h1
    ·rw[blk_set HX.out.out,show((k:Int) % 256)=((k % 256:Nat):Int) by omega,cellsOf_set];congr 2;refine cellsOf_congr fun b hb => ?_
     by_cases e:b=x
     ·simp[e]
     ·simp[e]
   case done=>
    rintro D xs X hD rfl hX hK;have HX:=Hy hX;have HK:=Hy hK;clear hX hK
    gi_wp2
    refine⟨⟨k+1,D::Ds,_,_,_,_,_,_,_,_,_,_,_,_,_,_,_,_,rfl,by omega,⟨List.nodup_cons.2 ⟨fun h => ?_,HX.out.marks.nodup⟩,fun E hE => ?_,fun E hE => ?_⟩,HX.out.zero,?_,HX.out.below⟩,?_⟩
    ·have:=hDs D h;omega
    ·rcases List.mem_cons.1 hE with rfl|hE
     ·have:=HB.out.size;omega
     ·exact HX.out.marks.ge E hE
    ·rcases List.mem_cons.1 hE with rfl|hE
     ·exact HK.out
     ·exact HX.out.marks.open_ E hE
    ·show _=_;rw[HX.out.out];congr 2;refine cellsOf_congr fun b hb => ?_
     rw[hout.out b];have hm:b∈(bytesTo ⟨sa,sb,sc,sd⟩ 256).map (·.val)↔(⟨sa,sb,sc,sd⟩:Pv.S4).has b=true:=by unfold bytesTo;rw[List.take_of_length_le (by simp)];simp only[List.mem_map,List.mem_filter,List.mem_finRange,true_and];exact⟨fun⟨x,h1,h2⟩=>by rw[←h2];exact h1,fun h=>⟨⟨b,hb⟩,h,rfl⟩⟩
     by_cases e:(⟨sa,sb,sc,sd⟩:Pv.S4).has b=true
     ·rw[if_pos (hm.2 e),if_pos e]
     ·rw[if_neg (fun h=>e (hm.1 h)),if_neg e]
    ·simp[intOf];omega
   case stop=>
    rintro D c' pre X _ _ h _;exact h.elim
  ·have e:k=ps.length:=by omega
   subst e;have hu:=Tryz.underlying190;have hload:(Instr.loadAt 190 (.pointer (some ⟨w.heap.size+1,0,none⟩))).run Tryz.prog W = .ok (.agg (cellsOf (outF ps ps.length))) W:=by simp only[Instr.loadAt,Instr.sureAddr,Sem.run_bind,Sem.run_pure,Result.andThen];exact run_loadVar_row _ _ _ 190 _ _ _ H3.out hu rfl (by rw[cellsOf_size];kernel_rfl)
   have hsc:(storeCells ⟨w.heap.size,0,none⟩ (cellsOf (outF ps ps.length)).toList).run Tryz.prog W = .ok () (W.setRow w.heap.size (cellsOf (outF ps ps.length))):=by
    have:=run_storeCells_from (P:=Tryz.prog) w.heap.size 190 (cellsOf (outF ps ps.length)).toList 0 _ W H2.out (by simp[cellsOf]) (fun v hv=>by simp only[cellsOf,List.mem_map]at hv;obtain⟨b,_,rfl⟩:=hv;rfl)
    simpa using this
   clear hu
   gi_wp2
   refine opIn_load rfl rfl hload ?_
   gi_wp2
   ·have h2:=setRow_blk (cs:=cellsOf (outF ps ps.length)) H2.out;refine leaves_marks (B:=w.heap.size) Ds _ (W.setRow w.heap.size (cellsOf (outF ps ps.length))) ⟨HM.out.nodup,HM.out.ge,fun D hD=>(setRow_ne fun e => ?_).trans (HM.out.open_ D hD)⟩ (Below.refl _ _) (by have:=HB.out.size;simpa [World.setRow] using this) (fun _ _ _ _ q=>q) ?_
    ·have h1:=HM.out.open_ D hD;rw[e,H2.out]at h1;cases h1
    ·intro W' hb' hc';have h3:=hc' _ _ _ _ h2;refine⟨.agg (cellsOf (outF ps ps.length)),?_,?_⟩
     ·exact results_cell_row Tryz.results129 _ W' w.heap.size 190 (cellsOf (outF ps ps.length)) (0,0) _ rfl h3 Tryz.underlying190 rfl (by rw[cellsOf_size];kernel_rfl)
     ·refine ⟨?_,(HB.out.trans (below_setRow (Nat.le_refl _))).trans hb'⟩;rw[cellsOf_congr fun b _=>outF_all ps b]
end Go.Proofs.YtamkfdlcdiadlaaGreatDoor
