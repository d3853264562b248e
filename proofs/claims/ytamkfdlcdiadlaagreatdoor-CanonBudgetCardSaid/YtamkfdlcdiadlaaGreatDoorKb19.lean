/- The walk of dfa.Build. -/
import Derived.Test.YtamkfdlcdiadlaaGreatDoorKb05
import Derived.Test.YtamkfdlcdiadlaaGreatDoorKb18
set_option linter.all false
namespace Go.Proofs.YtamkfdlcdiadlaaGreatDoor
open Go.RowKit Go.Maps
variable {H:Nat→Prop}
theorem zeroCellsDfa:Tryz.zeroCells205=dfaCells (fun _=>0) (.slice none 0 0) (.slice none 0 0) (.slice none 0 0) rest0:=by kernel_rfl
theorem fold_set:∀(L:List Value) (n:Nat) (cs:List Value),n+L.length≤cs.length→(L.zipIdx n).foldl (fun(cs:Array Value) (x:Value × Nat)=>cs.setIfInBounds x.2 x.1) cs.toArray=(cs.take n++(L++cs.drop (n+L.length))).toArray
 | [],n,cs,h=>by simp
 | v::L,n,cs,h=>by
   rw[List.zipIdx_cons,List.foldl_cons,List.setIfInBounds_toArray,fold_set L (n+1) (cs.set n v) (by simp at h ⊢;omega)];congr 1;simp only[List.length_cons]at h;rw[List.take_succ_eq_append_getElem (by simp;omega),List.getElem_set_self,List.append_assoc];congr 1
   ·rw[List.take_set,List.set_eq_of_length_le (by simp;omega)]
   ·simp only[List.cons_append,List.nil_append,List.length_cons];congr 1;rw[List.drop_set,if_pos (by omega)];congr 2;omega
theorem built_dfa (f:Nat→Nat):Array.foldl (fun(cs:Array Value) (x:Value × Nat)=>cs.setIfInBounds x.snd x.fst) Tryz.zeroCells205 (cellsOf f).zipIdx 0 256=dfaCells f (.slice none 0 0) (.slice none 0 0) (.slice none 0 0) rest0:=by
 have hs:(cellsOf f).zipIdx.size=256:=by simp[cellsOf]
 have e:=Array.foldl_toList (fun(cs:Array Value) (x:Value × Nat)=>cs.setIfInBounds x.snd x.fst) (init:=Tryz.zeroCells205) (xs:=(cellsOf f).zipIdx);rw[hs]at e;rw[←e,Array.toList_zipIdx,zeroCellsDfa,fold_set _ 0 _ (by simp[cellsOf,dfaList])];simp only[List.take_zero,List.nil_append];congr 1<;>simp[dfaList,cellsOf]
theorem head_val (p:Pv.S4):byteV (Pv.Dfa.head p) = .int .u8 ((p.least.getD 0:Nat):Int):=by
 have h:p.least.getD 0<256:=by
  by_cases hc:∃c,c<256∧p.has c=true
  ·obtain⟨m,e,h,_⟩:=Pv.least_spec hc;rw[e];exact h
  ·have:p.least=none:=by
    have:p=Pv.S4.zero:=Pv.S4.ext_has fun b hb=>by
     rw[Pv.S4.has_zero];cases hs:p.has b with
     | false=>rfl
     | true=>exact absurd ⟨b,hb,hs⟩ hc
    rw[this];decide +kernel
   rw[this];decide
 unfold Pv.Dfa.head;simp only[byteV];congr 2;simp;omega
theorem info_u8:(Tryz.prog.info? 5).map (fun i=>(i.zero,i.size,i.bytes))=some (some (.int .u8 0),1,1):=by kernel_rfl
theorem eg_state:Hid (Enters Tryz.prog 131):=enters_of Tryz.func131 (by kernel_rfl) rfl
theorem info_int:(Tryz.prog.info? 3).map (fun i=>(i.zero,i.size,i.bytes))=some (some (.int .i64 0),1,8):=by kernel_rfl
theorem info_ints:(Tryz.prog.info? 212).map (fun i=>(i.zero,i.size,i.bytes))=some (some (.slice none 0 0),1,24):=by kernel_rfl
theorem make_ints (n:Nat)(hc:n<1099511627776)(w:World):(Instr.makeSlice 212 (.int .i64 (n:Int)) (.int .i64 (n:Int))).run Tryz.prog w = .ok (.slice (some ⟨w.heap.size,0,none⟩) n n) (w.alloc (.cells (rowCells [] n).toArray 3)):=by
 obtain⟨i0,hi,hz0,hz1,hz2⟩:=info_parts info_int;have hr:=run_make (P:=Tryz.prog) w 212 3 i0 _ Tryz.underlying212 hi hz0 .i64 .i64 (n:Int) (n:Int) (by omega) (by omega) (by rw[hz2];omega) (by omega);simp only[Int.toNat_natCast]at hr;rw[hr,hz1];simp only[Value.cells,Nat.mul_one,madeCells_one,rowCells];simp;rfl
set_option maxRecDepth 20000 in
set_option maxHeartbeats 16000000 in
theorem build_main (R:Ending→World→Prop)(r:Pv.R)(b bb l u:Nat)(w:World)(hT:Tab w)(hat:ReAt H w r b)(hbud:BudAt w bb l u)(hbb:H bb)(hH:∀h,H h→h<w.heap.size)(hsz:Pv.size r<549755813888)(hl:l<274877906944)
  (r1:∀w',(Pv.build r l).2=none→BudAt w' bb (Pv.build r l).1 (u+(l-(Pv.build r l).1))→Keep (· = bb) w w'→R (.returned (.tuple #[.pointer none,.int .i64 5])) w')
  (r2:∀w' D d,(Pv.build r l).2=some D→DfaAt (fun k=>H k∨k=d) w' D d→w.heap.size≤d→BudAt w' bb (Pv.build r l).1 (u+(l-(Pv.build r l).1))→Keep (· = bb) w w'→R (.returned (.tuple #[Ptr d,.int .i64 0])) w'):
  Calls Tryz.prog 89 #[Ptr b,Ptr bb] w R:=by
 have hset:=sets_any (Pv.size r) H r b (w.alloc (.cells #[Ptr bb] 31)) (Nat.le_refl _) (hat.later ((Below.refl _ _).alloc (Nat.le_refl _) _)) hsz;have HSet:=Hy hset;have hsl:=allSets_len r;have HT:=Hy hT;have HA:=Hy hat;have HBud:=Hy hbud;have R1:=Hy r1;have R2:=Hy r2;clear hset hat hbud r1 r2 hT;go_enter Tryz.func89,Tryz.ntmps89;go_wp2_with fail;refine HSet.out.mono ?_;rintro e w1 ⟨v1,rfl,hr1,hb1⟩
 obtain⟨a1,c1,rfl,hsl1⟩:=hr1.form;have hB1:Below w.heap.size w w1:=((Below.refl _ _).alloc (Nat.le_refl _) _).trans (hb1.mono (by simp));have h31:w1.heap[w.heap.size]?=some (.cells #[Ptr bb] 31):=later_blk hb1 (blk_new rfl);have href:=refine_any (Pv.allSets r) a1 c1 w1 hsl1 (by omega);have HRef:=Hy href;clear href hsl1 hr1 hb1;go_wp2_with fail;refine HRef.out.mono ?_;rintro e w2 ⟨v2,rfl,hr2,hb2⟩
 obtain⟨parts,hparts⟩:∃parts,Pv.refine (Pv.allSets r)=parts:=⟨_,rfl⟩
 have hpl:parts.length≤256:=by rw[←hparts];exact Pv.refine_len _
 rw[hparts]at hr2;obtain⟨a2,c2,rfl,hsl2⟩:=hr2.form;have hB2:=hB1.trans (hb2.mono hB1.size);have h32:=later_blk hb2 h31;have hidx:=pindex_any parts a2 c2 w2 hsl2 hpl;have HIdx:=Hy hidx;have HS2:=Hy hsl2;clear hidx hsl2 hr2 hb2 h31;go_wp2_with fail;refine HIdx.out.mono ?_;rintro e w3 ⟨rfl,hb3⟩;have HS3:=Hy (HS2.out.later hb3);have hB3:=hB2.trans (hb3.mono hB2.size);have h33:=later_blk hb3 h32
 have hcs:(cellsOf (Pv.indexOf parts)).size=256:=cellsOf_size _;clear hb3 h32;go_wp2_with fail;rw[built_dfa]at *;obtain⟨w4,hw4⟩:∃w4,(w3.alloc (.cells (dfaCells (Pv.indexOf parts) (.slice none 0 0) (.slice none 0 0) (.slice none 0 0) rest0) 205)).alloc (.cells #[Ptr w3.heap.size] 152)=w4:=⟨_,rfl⟩
 have hB34:Below w3.heap.size w3 w4:=by rw[←hw4];exact((Below.refl _ _).alloc (Nat.le_refl _) _).alloc (by simp) _
 have hD4:w4.heap[w3.heap.size]?=some (.cells (dfaCells (Pv.indexOf parts) (.slice none 0 0) (.slice none 0 0) (.slice none 0 0) rest0) 205):=by rw[←hw4];exact blk_old (blk_new rfl)
 have hd4:w4.heap[w3.heap.size+1]?=some (.cells #[Ptr w3.heap.size] 152):=by rw[←hw4];exact blk_new (by simp)
 have hz4:w3.heap.size+1<w4.heap.size:=blk_lt hd4;rw[hw4];have HB4:=Hy (hB3.trans (hB34.mono hB3.size));have HS4:=Hy (HS3.out.later hB34);have H34:=Hy (later_blk hB34 h33);have HD4:=Hy hD4;have Hd4:=Hy hd4;have hz3:=hB3.size;have hlt3:=blk_lt h33;have HP:=Hy hparts;have HB34:=Hy hB34;clear hB34 hD4 hd4 hw4 hB1 hB2 hB3 h33 HS2 hcs hparts HSet HRef HIdx
 go_loopw [35] (fun i wr=>∃(k:Nat) (hv:Value),k≤parts.length∧i = .int .i64 k∧Hid (Row w4.heap.size 5 wr hv ((parts.take k).map fun p=>byteV (Pv.Dfa.head p))) ∧
  Hid (wr.heap[w3.heap.size]?=some (.cells (dfaCells (Pv.indexOf parts) hv (.slice none 0 0) (.slice none 0 0) rest0) 205))∧Hid (Keep (· = w3.heap.size) w4 wr)) (fun i _=>(parts.length-intOf i).toNat)
 case atStart=>exact⟨0,_,by omega,rfl,Row.nil _ _ _,HD4.out,Keep.refl _ _⟩
 case round=>
  obtain⟨k,hv,hk,rfl,HR,HD,HK⟩:=hrel;by_cases hkn:k<parts.length
  ·have hkn':(k:Int)<parts.length:=by omega
   have hk4:(k:Int)<1099511627776:=by omega
   obtain⟨blk,off,rfl,x0,x1,x2,x3⟩:=HS3.out.at_ k hkn;have hbe:¬blk=w3.heap.size:=by have:blk<w3.heap.size:=World.block_lt_of_cell? w3 _ x0;omega
   have c0:=HK.out.cell hbe (later HB34.out x0);have c1:=HK.out.cell hbe (later HB34.out x1);have c2:=HK.out.cell hbe (later HB34.out x2);have c3:=HK.out.cell hbe (later HB34.out x3);have htk:Hid ((parts.take (k+1)).map (fun p=>byteV (Pv.Dfa.head p))=(parts.take k).map (fun p=>byteV (Pv.Dfa.head p))++[byteV (Pv.Dfa.head parts[k])]):=by
    show _=_;rw[List.take_succ_eq_append_getElem hkn,List.map_append];rfl
   have hhv:=head_val parts[k];have htab:Tab wr:=(HT.out.later (Below.mono HB4.out (Nat.le_refl _))).keep HK.out (by intro e;have h1:=HT.out 0 (by decide);have:=World.block_lt_of_cell? w _ h1;simp only at this;omega)
   have hle:=least_any parts[k] (wr.alloc (.cells (S4C parts[k]) 87)) (htab.later ((Below.refl _ _).alloc (Nat.le_refl _) _));rw[hhv]at htk;generalize parts[k]=p at *;obtain⟨pa,pb,pc,pd⟩:=p;have HLe:=Hy hle;have hd:=HK.out.blk (by omega:¬w3.heap.size+1=w3.heap.size) Hd4.out;have HTK:=Hy htk.out;simp only at c0 c1 c2 c3;clear x0 x1 x2 x3 hle htab hhv htk;go_wp2_with fail;refine HLe.out.mono ?_
   rintro e w5 ⟨rfl,hb5⟩;clear c0 c1 c2 c3;go_wp2_with fail;have hB5:Below wr.heap.size wr w5:=((Below.refl _ _).alloc (Nat.le_refl _) _).trans (hb5.mono (by simp));have hd5:=later_blk hB5 hd;have hD5:=later_blk hB5 HD.out;have HR5:Hid (Row w4.heap.size 5 w5 hv ((parts.take k).map fun p=>byteV (Pv.Dfa.head p))):=HR.out.later hB5;have HK5:=Hy (HK.out.trans (Keep.of_below hB5))
   have x0:=cB (o:=0) hd5 rfl;have x1:=cB (o:=256) hD5 dfa_heads_;have n0:=HR5.out.ne hd5 (by decide);have n1:=HR5.out.ne hD5 (by decide);have HD5:=Hy hD5;obtain⟨i1,hi1,hy0,hy1,hy2⟩:=info_parts info_u8;have hyl:((parts.take k).map fun p=>byteV (Pv.Dfa.head p)).length<1099511627776:=by simp;omega
   have hz5:w4.heap.size≤w5.heap.size:=HK5.out.size;generalize hm:(Pv.S4.least ⟨pa,pb,pc,pd⟩).getD 0=m at *;clear hb5 hB5 hd5 hD5 hd;refine Eak.region (Keep fun k=>hv.ownBlock=some k) (.mov 0 (.mov 1 (.mov 2 (.mov 3 (.mov 4 (.mov 5 (.anc 6 (.anc 7 (.mov 8 (.mov 9 (.anc 10 Eag.Sch.fin))))))))))) [10] (by kernel_rfl) (by kernel_rfl) (fun K ops hops hK => ?_);iterate 6
    refine Eak.mov hops rfl rfl (fun w' hb => ?_) ?_
    ·have q0:=Keep.cell hb n0 x0;have q1:=Keep.cell hb n1 x1;clear hb;go_simp
    go_simp
   refine Eak.anc hops rfl rfl ?_;go_wp2_with fail;refine⟨(Keep.alloc _ _).trans (Keep.refl _ _),?_⟩;refine Eak.anc hops rfl rfl ?_;refine app1K_op 135 5 i1 _ 1 1 Tryz.underlying135 hi1 hy0 hy1 hy2 rfl (by omega) (by omega) _ _ rfl w4.heap.size _ hv _ rfl (RowK.later HR5.out ((Below.refl _ w5).alloc (Nat.le_refl _) _).drew) w5.heap.size [.int .u8 (m:Int)] rfl rfl (blk_new rfl)
    (fun u hu=>by rw[List.mem_singleton.1 hu];rfl) hyl (by simp;omega) ?_
   intro v7 w7 hr7 hb7 hg7 hm7;refine⟨.inr (Keep.of_grown hg7 fun x e=>e),?_⟩;have KY:Keep (fun k=>hv.ownBlock=some k) w5 w7:=((Keep.alloc w5 _).trans (Keep.drew _)).trans (Keep.of_grown hg7 fun x e=>e);have hr8:Row w4.heap.size 5 w7 v7 ((parts.take (k+1)).map fun p=>byteV (Pv.Dfa.head p)):=by unfold Row;rw[HTK.out,List.length_append];exact hr7
   obtain⟨a7,c7,e7,_,_⟩:=hr8.form;rw[List.length_map,List.length_take,Nat.min_eq_left (by omega)]at e7;have HE7:=Hy e7;subst e7;have hD7:=KY.blk n1 HD5.out;have HK7:Hid (Keep (· = w3.heap.size) w4 w7):=HK5.out.trans_ KY fun x e=> .inr (RowK.lt HR5.out e).1
   have HR7:=Hy hr8;have x2:=cB (o:=256) hD7 dfa_heads_;have x3:=fob (o:=256) hD7;have HD7:=Hy hD7;clear KY hr7 hb7 hg7 hm7 hr8 hD7 n0 n1;go_simp;iterate 2
    refine Eak.mov hops rfl rfl (fun w' hb => ?_) ?_
    ·clear hb;go_simp
    go_simp
   refine Eak.anc hops rfl rfl ?_;go_wp2_with fail;refine Eak.fin (hK _ _ ?_);clear hK hops;go_simp;go_wp2_with fail;go_roundw
   case rel=>
    refine⟨k+1,_,by omega,by go_num,HR7.out.keepK (H:=(· = w3.heap.size)) (Keep.set rfl) (fun g e e2 => ?_),?_,HK7.out.trans (Keep.set rfl)⟩
    ·have:=(RowK.lt HR7.out e).1;omega
    ·show _=_;rw[blk_set HD7.out,dfa_set_heads]
   case measure=>simp[intOf];omega
  ·have e:k=parts.length:=by omega
   subst e;have hR8:=HR.out;rw[List.take_length]at hR8;have hmm:=@run_makeMap Tryz.prog;have hmf:∀(fn:Fn) (first cap:Array Value) (w:World),(Instr.makeFunc fn first cap).run Tryz.prog w = .ok (.func fn first cap) w:=fun _ _ _ _=>rfl
   have HR8:=Hy hR8;have eg:=eg_state;clear hR8 HR;go_wp2_with fail;obtain⟨W0,hW0⟩:∃W0,((wr.alloc (.map #[] 0)).alloc (.cells #[.map (some wr.heap.size)] 208)).alloc (.cells #[.slice none 0 0] 101)=W0:=⟨_,rfl⟩
   have hB0:Below wr.heap.size wr W0:=by rw[←hW0];exact(((Below.refl _ _).alloc (Nat.le_refl _) _).alloc (by simp) _).alloc (by simp;omega) _
   have hM0:W0.heap[wr.heap.size]?=some (.map #[] 0):=by rw[←hW0];exact blk_old (blk_old (blk_new rfl))
   have hk0:W0.heap[wr.heap.size+1]?=some (.cells #[.map (some wr.heap.size)] 208):=by rw[←hW0];exact blk_old (blk_new (by simp))
   have ha0:W0.heap[wr.heap.size+1+1]?=some (.cells #[.slice none 0 0] 101):=by rw[←hW0];exact blk_new (by simp)
   rw[hW0];have hMD:w4.heap.size≤wr.heap.size:=HK.out.size;obtain⟨M,hM⟩:∃M,wr.heap.size=M:=⟨_,rfl⟩
   obtain⟨D,hD⟩:∃D,w3.heap.size=D:=⟨_,rfl⟩
   rw[hM]at hk0 ha0 hM0 hMD hB0 ⊢;have HKD:=HK.out;have hwD:=HD.out;have hBd:=Hd4.out;rw[hD]at HKD hwD hBd hz4 hz3 hlt3 ⊢;have hbbw:bb<w.heap.size:=hH bb hbb;have hw4:=HB4.out.size;have hKw:Keep (· = bb) w W0:=((Keep.of_below HB4.out).trans_ HKD fun x e=> .inr (by have e2:x=D:=e;omega)).trans (Keep.of_below (by rw[hM];exact hB0));have hsub:∀k,(H k∨k=M∨k=M+1+1∨k=D)→H k∨w.heap.size≤k:=fun k hk=>by
    rcases hk with hk|hk|hk|hk
    ·exact .inl hk
    all_goals exact .inr (by omega)
   have hBSt:BSt (fun k=>H k∨k=M∨k=M+1+1∨k=D) w4.heap.size bb w.heap.size (M+1) M (M+1+1) (D+1) D (Pv.indexOf parts) hv (.slice none 0 0) rest0 W0 [] (.slice none 0 0) (.slice none 0 0) l u:={
    b3:=later_blk (by rw[hM];exact hB0) (HKD.blk (fun e=>by have e2:w.heap.size=D:=e;omega) H34.out)
    bk:=hk0
    ba:=ha0
    bd:=later_blk (by rw[hM];exact hB0) (HKD.blk (fun e=>by have e2:D+1=D:=e;omega) hBd)
    d:=later_blk (by rw[hM];exact hB0) hwD
    m:=MapAt.new hM0
    all:=Row.nil _ _ _
    yes:=Row.nil _ _ _
    pr:=fun y h=>by cases h
    bud:=((HBud.out.later HB4.out).keep HKD (fun e=>by have:bb=D:=e;omega)).later (by rw[hM];exact hB0)
    hb:=⟨.inl hbb,.inr (.inl rfl),.inr (.inr (.inl rfl)),.inr (.inr (.inr rfl))⟩
    st:=Pv.States.nil }
   have hx0:ReAt (own2 (fun k=>H k∨k=M∨k=M+1+1∨k=D) (.slice none 0 0) (.slice none 0 0)) W0 r b:=by
    have h1:ReAt (own2 (fun k=>H k∨k=M∨k=M+1+1∨k=D) (.slice none 0 0) (.slice none 0 0)) w r b:=HA.out.widen fun k hk=>by
     rcases hk with hk|hk|hk
     ·exact hsub k hk
     ·cases hk
     ·cases hk
    refine((h1.keep (Keep.of_below HB4.out)).keep (HKD.wide fun k e=> .inl (.inl (.inr (.inr (.inr e)))))).keep (Keep.of_below (by rw[hM];exact hB0))
   have hN0:w4.heap.size≤W0.heap.size:=by have:=hB0.size;omega
   have HBS:=Hy hBSt;have HX0:=Hy hx0;have HKw:=Hy hKw;have hst:=state_any hBSt hN0 r b hx0 hsz (by simp);have HST:=Hy hst;have HSub:=Hy hsub;have HRv:Hid (Row w4.heap.size 5 W0 hv (parts.map fun p=>byteV (Pv.Dfa.head p))):=HR8.out.later (by rw[hM];exact hB0);clear hst hBSt hx0 hKw hB0 hk0 ha0 hM0 hW0 HKD hwD hBd hsub HK HD HR8 HS4 H34 HD4 Hd4;refine HST.out.mono ?_;rintro e W1 hpost
   cases hst:Pv.stateOf r [] l with
   | none=>
     rw[show(List.map (fun x=>x.2) ([]:List (Nat × Pv.R)))=[] from rfl,hst]at hpost;obtain⟨rfl,hb1,hk1⟩:=hpost;have hbn:Pv.build r l=(l,none):=by unfold Pv.build;simp only[hst]
     have r1:=R1.out W1;rw[hbn]at r1;have hR:=r1 rfl (by simpa using hb1) (HKw.out.trans_ hk1 fun k hk=>by
      rcases hk with hk|hk|hk|hk|hk|hk
      ·exact .inl hk
      ·exact .inr (by omega)
      ·exact .inr (by omega)
      ·exact .inr (by omega)
      ·cases hk
      ·cases hk)
     have HRR:=Hy hR;clear r1 hR hb1 hk1 R1 R2;go_wp2_with fail;exact HRR.out
   | some t=>
     obtain⟨all1,l1,q1⟩:=t;rw[show(List.map (fun x=>x.2) ([]:List (Nat × Pv.R)))=[] from rfl,hst]at hpost;obtain⟨rfl,ps1,av1,yv1,rfl,hB1,hps1,hm1,hm2,hk1⟩:=hpost;have hl1:l1≤l:=by obtain⟨_,_,h,_⟩:=Pv.stateOf_spec hst Pv.States.nil;simp at h;omega
     have hc1:ps1.length+l1=l:=by obtain⟨_,_,h,_⟩:=Pv.stateOf_spec hst Pv.States.nil;simpa using h
     have hkw1:Keep (· = bb) w W1:=HKw.out.trans_ hk1 fun k hk=>by
      rcases hk with hk|hk|hk|hk|hk|hk
      ·exact .inl hk
      ·exact .inr (by omega)
      ·exact .inr (by omega)
      ·exact .inr (by omega)
      ·cases hk
      ·cases hk
     have hL:L2 H w4.heap.size bb w.heap.size M D (Pv.indexOf parts) hv (parts.map Pv.Dfa.head) l u w (fun _=>False) 0 W1 ps1 av1 yv1 (.slice none 0 0) l1 [] []:={
      bst:=hB1.reH (fun k hk=>by
       rcases hk with hk|hk|hk|hk|hk|hk
       ·exact .inl (.inl hk)
       ·exact .inl (.inr (.inl hk))
       ·exact .inl (.inr (.inr (.inl hk)))
       ·exact .inl (.inr (.inr (.inr hk)))
       ·cases hk
       ·exact hk.elim) ⟨.inl hbb,.inr (.inl rfl),.inr (.inr (.inl rfl)),.inr (.inr (.inr (.inl rfl)))⟩
      nrow:=Row.nil _ _ _
      nxt:=⟨rfl,fun q row h=>by simp at h⟩
      hrow:=by
       have:=HRv.out.keepK hk1 (fun g e ht=>by obtain⟨c,hc⟩:=HRv.out.ty e;exact absurd (HBS.out.turn_ty ht hc) (by decide))
       rw[List.map_map];exact this
      cnt:=hc1
      qle:=Nat.zero_le _
      nlen:=rfl
      keep:=hkw1
      ge:=⟨hw4,by have:=hk1.size;omega,by omega,by omega,by omega,hMD⟩
      xlt:=fun k h=>h.elim
      hlt:=hH }
     have HL:=Hy hL;have hP0:0<ps1.length:=by
      obtain⟨_,_,_,h,_⟩:=Pv.stateOf_spec hst Pv.States.nil;have h2:q1<ps1.length:=by simpa using h
      omega
     obtain⟨G0,hG0⟩:∃G0,Pv.buildGo (parts.map Pv.Dfa.head) (l+2) 0 (ps1.map (·.2)) l1 []=G0:=⟨_,rfl⟩
     have hbg:Pv.build r l=ended parts G0:=by rw[←hG0,←HP.out];exact build_ended hst
     have RR1:Hid (∀lf w',G0=(lf,none)→BudAt w' bb lf (u+(l-lf))→Keep (· = bb) w w'→R (.returned (.tuple #[.pointer none,.int .i64 5])) w'):=fun lf w' hg h1 h2=>by have:=R1.out w';rw[hbg,hg]at this;exact this rfl h1 h2
     have RR2:Hid (∀lf all next w' d,G0=(lf,some (all,next))→DfaAt (fun k=>H k∨k=d) w' ⟨parts,next,all.map Pv.null⟩ d→w.heap.size≤d→BudAt w' bb lf (u+(l-lf))→Keep (· = bb) w w'→R (.returned (.tuple #[Ptr d,.int .i64 0])) w'):=fun lf all next w' d hg h0 h1 h2 h3=>by have:=R2.out w' ⟨parts,next,all.map Pv.null⟩ d;rw[hbg,hg]at this;exact this rfl h0 h1 h2 h3
     have HG0:=Hy hG0;clear hB1 hps1 hm1 hm2 hk1 hst hL hkw1 hbg hG0 HKw HBS HX0 HST HSub HRv hl1 hc1 R1 R2;go_wp2_with fail
     go_loopw [17] (fun i wr=>∃(q:Nat) (ps:List (Nat × Pv.R)) (av yv nv:Value) (l':Nat) (next:List (List Nat)) (rs:List Value),i = .int .i64 q∧q≤l∧Hid (L2 H w4.heap.size bb w.heap.size M D (Pv.indexOf parts) hv (parts.map Pv.Dfa.head) l u w (fun _=>False) q wr ps av yv nv l' next rs) ∧
      Hid (Pv.buildGo (parts.map Pv.Dfa.head) (l+2-q) q (ps.map (·.2)) l' next=G0)) (fun i _=>(l+2-intOf i).toNat)
     case atStart=>exact⟨0,ps1,av1,yv1,_,l1,[],[],rfl,by omega,HL.out,HG0.out⟩
     case round=>
      obtain⟨q,ps,av,yv,nv,l',next,rs,rfl,hql,HL2,HGo⟩:=hrel;obtain⟨aa,ac,eav,hsla,_⟩:=HL2.out.bst.all.form;rw[List.length_map]at eav;have hba:=cB (o:=0) HL2.out.bst.ba rfl;have hcnt:=HL2.out.cnt;have hqle:=HL2.out.qle;subst eav;by_cases hqn:q<ps.length
      ·have hqn':(q:Int)<ps.length:=by omega
       have hmk:=make_ints parts.length (by omega) wr;have hL5:=HL2.out.newX (rowCells [] parts.length).toArray 3;have hbR:(wr.alloc (.cells (rowCells [] parts.length).toArray 3)).heap[wr.heap.size]?=some (.cells (rowCells [] parts.length).toArray 3):=blk_new rfl;obtain⟨x,hxx⟩:∃x,ps[q]=x:=⟨_,rfl⟩
       obtain⟨bx,x⟩:=x;have hxq:ps[q]?=some (bx,x):=by rw[List.getElem?_eq_getElem hqn,hxx]
       have hgo:rowFin (parts.map Pv.Dfa.head) (l+1-q) q next (Pv.buildRow x (parts.map Pv.Dfa.head) (ps.map (·.2)) l' [])=G0:=by rw[←buildGo_row (by rw[List.getElem?_map,hxq];rfl),←HGo.out];congr 1;omega
       obtain⟨ah,ch,ehv,_,_⟩:=HL2.out.hrow.form;rw[List.length_map,List.length_map]at ehv;obtain⟨RB,hRB⟩:∃RB,wr.heap.size=RB:=⟨_,rfl⟩
       have hbd5:=cB (o:=0) hL5.bst.bd rfl;have hh5:=cB (o:=256) hL5.bst.d dfa_heads_;rw[hRB]at hL5 hbR;have HL5:=Hy hL5;have HbR:=Hy hbR;have HGO:=Hy hgo;subst ehv;clear hxx hL5 hbR hgo hsla HGo HL2;go_wp2_with fail;try rw[hRB]
       generalize wr.alloc (.cells (rowCells [] parts.length).toArray 3)=W5 at *;go_loopw [80] (fun i wi=>∃(i':Nat) (ps:List (Nat × Pv.R)) (av yv:Value) (l':Nat) (row:List Nat),i = .int .i64 i'∧i'≤parts.length∧row.length=i'∧Hid (L2 H w4.heap.size bb w.heap.size M D (Pv.indexOf parts) (.slice ah parts.length ch) (parts.map Pv.Dfa.head) l u w (fun k=>k=RB) q wi ps av yv nv l' next rs) ∧
        Hid (wi.heap[RB]?=some (.cells (rowCells row parts.length).toArray 3))∧Hid (ps[q]?=some (bx,x))∧Hid (rowFin (parts.map Pv.Dfa.head) (l+1-q) q next (Pv.buildRow x ((parts.map Pv.Dfa.head).drop i') (ps.map (·.2)) l' row)=G0)) (fun i _=>(parts.length-intOf i).toNat)
       case atStart=>exact⟨0,ps,_,yv,l',[],rfl,by omega,rfl,HL5.out,HbR.out,hxq,HGO.out⟩
       case round=>
        obtain⟨i,ps,av,yv,l',row,rfl,hi,hrl,HL6,HRB,HXQ,HRF⟩:=hrel;by_cases hin:i<parts.length
        ·have hin':(i:Int)<parts.length:=by omega
         have hi4:(i:Int)<1099511627776:=by omega
         obtain⟨aa,ac,eav,hsla,_⟩:=HL6.out.bst.all.form;rw[List.length_map]at eav;have hqn:q<ps.length:=(List.getElem?_eq_some_iff.1 HXQ.out).1;have hxe:ps[q]=(bx,x):=(List.getElem?_eq_some_iff.1 HXQ.out).2;have hqn':(q:Int)<ps.length:=by omega
         have hcnt:=HL6.out.cnt;have hq4:(q:Int)<1099511627776:=by omega
         obtain⟨blk,off,rfl,hbl,hcs⟩:=hsla.at_ (by rw[List.length_map];omega);have hcq:=hcs q (by rw[List.length_map];exact hqn);rw[List.getElem_map,hxe]at hcq;have hba:=cB (o:=0) HL6.out.bst.ba rfl;obtain⟨ah',ch',eh,hslh,_⟩:=HL6.out.hrow.form;rw[List.length_map,List.length_map]at eh;injection eh with eh1 _ eh2
         subst eh1;subst eh2;obtain⟨blkh,offh,rfl,_,hch⟩:=hslh.at_ (by rw[List.length_map,List.length_map];omega);have hchi:=hch i (by rw[List.length_map,List.length_map];exact hin);rw[List.getElem_map,List.getElem_map]at hchi;have hsz6:Pv.size x≤20000:=by have:=HL6.out.size_le hqn;rw[hxe]at this;exact this
         have hxat:ReAt (own2 (fun k=>H k∨k=M∨k=M+1+1∨k=D∨nv.ownBlock=some k∨k=RB) av yv) wr x bx:=by have:=HL6.out.bst.pr _ (List.getElem_mem hqn);rw[hxe]at this;exact this
         have hby:=by_any (Pv.Dfa.head parts[i]) (Pv.size x) _ x bx wr (Nat.le_refl _) hxat HL6.out.lts (by omega);have hszb:=size_by (Pv.Dfa.head parts[i]) (Pv.size x) x (Nat.le_refl _);have hsq:3*(Pv.size x*Pv.size x)≤1200000000:=by have:=Nat.mul_le_mul hsz6 hsz6;omega
         have hdr:(parts.map Pv.Dfa.head).drop i=Pv.Dfa.head parts[i]::(parts.map Pv.Dfa.head).drop (i+1):=by rw[List.drop_eq_getElem_cons (by simpa using hin),List.getElem_map]
         have hrf:=HRF.out;rw[hdr,Pv.buildRow]at hrf;have HRF2:=Hy hrf;have HBy:=Hy hby;subst eav;generalize Pv.Dfa.head parts[i]=hb at *;have hb256:((hb.toNat:Nat):Int)<256:=by have:=hb.toNat_lt;omega
         clear hsla hcs hslh hch hxat hby hdr hrf HRF hxe;go_wp2_with fail;refine HBy.out.mono ?_;rintro e w6 ⟨b6,rfl,hr6,hb6⟩;have HL7:=Hy (HL6.out.later hb6);have HR6:=Hy hr6;have HRB6:=Hy (later_blk hb6 HRB.out);clear hr6 hb6 hba hcq hchi;go_wp2_with fail
         refine HL7.out.call (Pv.by_ hb x) b6 HR6.out (by omega) (by omega) _ (fun hst w7 h1 h2 => ?_) (fun all l2 q2 w7 ps' av' yv' hst hall hL8 hRows hys hq2 => ?_)
         ·have hg:G0=(l',none):=by rw[←HRF2.out,hst];rfl
          have hR:=Hy (RR1.out l' w7 hg h1 h2);clear hst hg h1 h2;go_wp2_with fail;exact hR.out
         ·have hrf:=HRF2.out;rw[hst]at hrf;simp only at hrf;rw[hall]at hrf;have hrb7:=hRows RB _ _ HRB6.out;obtain⟨ys,hys⟩:=hys;have hxq7:ps'[q]?=some (bx,x):=by rw[hys,List.getElem?_append_left hqn];exact HXQ.out
          have hcl:w7.cell? ⟨RB,i,none⟩=some (.int .i64 0):=cB hrb7 (by unfold rowCells;rw[List.getElem?_toArray,List.getElem?_map,List.getElem?_append_right (by omega)];rw[List.getElem?_replicate,if_pos (by omega)];rfl)
          have hfr:=fob (o:=i) hrb7;have HRB7:=Hy hrb7;have HL8:=Hy hL8;have HRF3:=Hy hrf;have HXQ7:=Hy hxq7;clear hst hall hrb7 hL8 hRows hys hrf hxq7 HRF2;go_wp2_with fail;go_roundw
          case rel=>
           refine⟨i+1,ps',av',yv',l2,row++[q2],by go_num,by omega,by simp[hrl],HL8.out.setX HRB7.out,?_,HXQ7.out,HRF3.out⟩;show _=_;rw[blk_set HRB7.out,←hrl,rowCells_set (by omega)]
          case measure=>simp[intOf];omega
        ·have e:i=parts.length:=by omega
         subst e;have hrf:=HRF.out;rw[List.drop_of_length_le (by simp),Pv.buildRow]at hrf;have hrb:=HRB.out;rw[show rowCells row parts.length=row.map intV by unfold rowCells;rw[hrl];simp]at hrb;obtain⟨an,cn,env,_,_⟩:=HL6.out.nrow.form;have hqn:q<ps.length:=(List.getElem?_eq_some_iff.1 HXQ.out).1;have hcnt:=HL6.out.cnt;have hlr:=HL6.out.nxt.1;have hln:=HL6.out.nlen;have HRB2:=Hy hrb;have HRF2:=Hy hrf
         have x0:=cB (o:=0) HL6.out.bst.bd rfl;have x1:=cB (o:=257) HL6.out.bst.d dfa_next_;have n0:=HL6.out.nrow.ne HL6.out.bst.bd (by decide);have n1:=HL6.out.nrow.ne HL6.out.bst.d (by decide);obtain⟨i1,hi1,hy0,hy1,hy2⟩:=info_parts info_ints;have hge:=HL6.out.ge;clear hrf hrb env;go_wp2_with fail
         refine Eak.region (Keep fun k=>nv.ownBlock=some k) (.mov 0 (.mov 1 (.mov 2 (.mov 3 (.mov 4 (.mov 5 (.anc 6 (.anc 7 (.mov 8 (.mov 9 (.anc 10 Eag.Sch.fin))))))))))) [10] (by kernel_rfl) (by kernel_rfl) (fun K ops hops hK => ?_);iterate 6
          refine Eak.mov hops rfl rfl (fun w' hb => ?_) ?_
          ·have q0:=Keep.cell hb n0 x0;have q1:=Keep.cell hb n1 x1;clear hb;go_simp
          go_simp
         refine Eak.anc hops rfl rfl ?_;go_wp2_with fail;refine⟨(Keep.alloc _ _).trans (Keep.refl _ _),?_⟩;refine Eak.anc hops rfl rfl ?_
         refine app1K_op 192 212 i1 _ 1 24 Tryz.underlying192 hi1 hy0 hy1 hy2 rfl (by omega) (by omega) _ _ rfl w4.heap.size _ nv _ rfl (RowK.later HL6.out.nrow ((Below.refl _ wr).alloc (Nat.le_refl _) _).drew) wr.heap.size [.slice (some ⟨RB,0,none⟩) parts.length parts.length] rfl rfl (blk_new rfl)
          (fun u hu=>by rw[List.mem_singleton.1 hu];rfl) (by rw[hlr,hln];omega) (by simp;omega) ?_
         intro v7 w7 hr7 hb7 hg7 hm7;refine⟨.inr (Keep.of_grown hg7 fun x e=>e),?_⟩;have KY:Keep (fun k=>nv.ownBlock=some k) wr w7:=((Keep.alloc wr _).trans (Keep.drew _)).trans (Keep.of_grown hg7 fun x e=>e);have hr8:Row w4.heap.size 212 w7 v7 (rs++[.slice (some ⟨RB,0,none⟩) row.length row.length]):=by unfold Row;rw[List.length_append,hrl];exact hr7
         have hm8:Moved wr nv v7:=by
          rcases hm7 with e|⟨g,e,hg⟩
          ·exact .inl e
          ·exact .inr ⟨g,e,by simp at hg;omega⟩
         have hLE:=HL6.out.rowEnd HRB2.out hqn KY hr8 hm8;obtain⟨a7,c7,e7,_,_⟩:=hr8.form;rw[List.length_append,List.length_singleton,hlr,hln]at e7;have HLE:=Hy hLE;have hD7:=KY.blk n1 HL6.out.bst.d;have y0:=cB (o:=257) hD7 dfa_next_;have y1:=fob (o:=257) hD7;subst e7;clear KY hr7 hb7 hg7 hm7 hr8 hm8 hD7 n0 n1 hLE;go_simp;iterate 2
          refine Eak.mov hops rfl rfl (fun w' hb => ?_) ?_
          ·clear hb;go_simp
          go_simp
         refine Eak.anc hops rfl rfl ?_;go_wp2_with fail;refine Eak.fin (hK _ _ ?_);clear hK hops;go_simp;go_wp2_with fail;go_roundw
         case rel=>
          refine⟨q+1,ps,av,yv,_,l',next++[row],_,by go_num,by omega,HLE.out,?_⟩;show _=_;rw[show l+2-(q+1)=l+1-q by omega];exact HRF2.out
         case measure=>simp[intOf];omega
      ·have hq:q=ps.length:=by omega
       have hgo:=HGo.out;rw[show l+2-q=(l+1-q)+1 by omega,Pv.buildGo,List.getElem?_eq_none (by simp;omega)]at hgo;have hbd:=cB (o:=0) HL2.out.bst.bd rfl;have hD:DfaAt (fun k=>H k∨k=D) wr ⟨parts,next,(ps.map (·.2)).map Pv.null⟩ D:=by
        have hHN:∀k,(H k∨k=D)→k<w4.heap.size:=fun k hk=>by
         rcases hk with hk|hk
         ·have:=hH k hk;omega
         ·rw[hk];omega
        refine⟨hv,nv,yv,rest0,rs,HL2.out.bst.d,?_,SlH.of_row HL2.out.nrow hHN,⟨HL2.out.nxt.1,fun q' row' hq' => ?_⟩,?_,.inl rfl⟩
        ·exact SlH.of_row HL2.out.hrow hHN
        ·obtain⟨g,h1,h2,h3,_⟩:=HL2.out.nxt.2 q' row' hq';refine⟨_,h1,some ⟨g,0,none⟩,row'.length,by simp,?_,fun blk off e=>by cases e;exact⟨fun h=>by have:=hHN _ h;omega,blk_lt h2⟩⟩;have:=Sl.of_blk h2;simpa using this
        ·have:=SlH.of_row HL2.out.bst.yes hHN;have e:List.map Value.bool (List.map Pv.null (List.map (fun x=>x.snd) ps))=List.map (fun x=>Value.bool (Pv.null x.snd)) ps:=by rw[List.map_map,List.map_map];rfl
         exact e▸this
       have hR:=RR2.out l' (ps.map (·.2)) next wr D hgo.symm hD hz3 HL2.out.bst.bud HL2.out.keep
       have HR:=Hy hR;clear hgo hD hR;go_wp2_with fail;exact HR.out
end Go.Proofs.YtamkfdlcdiadlaaGreatDoor
