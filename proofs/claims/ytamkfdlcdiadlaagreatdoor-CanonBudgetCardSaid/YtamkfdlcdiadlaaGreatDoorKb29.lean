/- The walks of package split: heads and tails. -/
import Derived.Test.YtamkfdlcdiadlaaGreatDoorKb05
import Derived.Test.YtamkfdlcdiadlaaGreatDoorKb24
import Derived.Test.YtamkfdlcdiadlaaGreatDoorKb25
import Derived.Test.YtamkfdlcdiadlaaGreatDoorKb28
set_option linter.all false
namespace Go.Proofs.YtamkfdlcdiadlaaGreatDoor
open Go.RowKit
variable {H:Nat→Prop}
def bcells (f:Nat→Bool)(n:Nat):List Value:=(List.range n).map fun j=> .bool (f j)
theorem bcells_set (f:Nat→Bool)(n i:Nat)(b:Bool):(bcells f n).toArray.setIfInBounds i (.bool b)=(bcells (fun j=>if j=i then b else f j) n).toArray:=by
 rw[List.setIfInBounds_toArray];congr 1;apply List.ext_getElem
 ·simp[bcells]
 ·intro j h1 h2;simp only[bcells,List.getElem_set,List.getElem_map,List.getElem_range];by_cases e:i=j
  ·subst e;simp
  ·rw[if_neg e,if_neg (fun h=>e h.symm)]
theorem bcells_congr {f g:Nat→Bool}{n:Nat}(h:∀j,j<n→f j=g j):bcells f n=bcells g n:=List.map_congr_left fun j hj=>by rw[h j (List.mem_range.1 hj)]
theorem bcells_get (f:Nat→Bool)(n i:Nat)(h:i<n):(bcells f n).toArray[i]?=some (.bool (f i)):=by simp[bcells,h]
theorem make_bools (n:Nat)(hc:n<1099511627776)(w:World):(Instr.makeSlice 193 (.int .i64 (n:Int)) (.int .i64 (n:Int))).run Tryz.prog w = .ok (.slice (some ⟨w.heap.size,0,none⟩) n n) (w.alloc (.cells (bcells (fun _=>false) n).toArray 4)):=by
 obtain⟨i0,hi,hz0,hz1,hz2⟩:=info_parts info_bool;have hr:=run_make (P:=Tryz.prog) w 193 4 i0 _ Tryz.underlying193 hi hz0 .i64 .i64 (n:Int) (n:Int) (by omega) (by omega) (by rw[hz2];omega) (by omega);simp only[Int.toNat_natCast]at hr;rw[hr,hz1];simp only[Value.cells,Nat.mul_one,madeCells_one]
 rw[show(bcells (fun _=>false) n).toArray=Array.replicate n (.bool false) by unfold bcells;rw[List.map_const'];simp]
set_option maxRecDepth 20000 in
set_option maxHeartbeats 1000000 in
theorem sheads_any (S:Pv.Side)(hS:S.Ok)(s:Nat)(t:List UInt8)(w:World)(h:SideAt H w S s)(ht:t.length<549755813888):
  Calls Tryz.prog 214 #[Ptr s,Str t] w fun e w'=>
   e = .returned (.slice (some ⟨w.heap.size,0,none⟩) (t.length+1) (t.length+1))∧Below w.heap.size w w'∧w'.heap[w.heap.size]?=some (.cells (bcells (fun j=>S.fore.isYes (S.fore.run 0 (t.take j))) (t.length+1)).toArray 4):=by
 have hmk:=make_bools (t.length+1) (by omega) w;rw[show((t.length+1:Nat):Int)=(t.length:Int)+1 by omega]at hmk;have hwr:IntKind.i64.wrap ((t.length:Int)+1)=(t.length:Int)+1:=by rw[IntKind.wrap_i64]<;>omega
 obtain⟨hns,fo,ba,hs0,hd0,_⟩:=h;have HS0:=Hy hs0;have HD0:=Hy hd0;have HS:=Hy hS;clear hs0 hd0 hS;go_enter Tryz.func214,Tryz.ntmps214;go_wp2_with fail;generalize hw1:w.alloc (.cells (bcells (fun _=>false) (t.length+1)).toArray 4)=w1 at *;have hB1:Below w.heap.size w w1:=by rw[←hw1];exact(Below.refl _ _).alloc (Nat.le_refl _) _
 have hg1:w1.heap[w.heap.size]?=some (.cells (bcells (fun _=>false) (t.length+1)).toArray 4):=by rw[←hw1];exact blk_new rfl
 have HB1:=Hy hB1;have HG1:=Hy hg1;clear hB1 hg1 hw1 hmk;go_loopw [6,7] (fun v i wr=>∃(k:Nat) (f:Nat→Bool),k≤t.length∧v = .int .i64 (S.fore.run 0 (t.take k):Nat)∧i = .int .i64 k∧Hid (Below w.heap.size w wr)∧Hid (wr.heap[w.heap.size]?=some (.cells (bcells f (t.length+1)).toArray 4)) ∧
  Hid (∀j,j<k→f j=S.fore.isYes (S.fore.run 0 (t.take j)))) (fun _ i _=>(t.length-intOf i).toNat)
 case atStart=>exact⟨0,_,by omega,rfl,rfl,HB1.out,HG1.out,fun j hj=>by omega⟩
 case round=>
  obtain⟨k,f,hk,rfl,rfl,HB,HG,HF⟩:=hrel;have x0:=cB (o:=0) (later_blk HB.out HS0.out) rfl;have hlt:=HS.out.1.run_lt (t.take k) HS.out.1.pos;have hy:=yes_any S.fore fo (S.fore.run 0 (t.take k)) wr (HD0.out.later HB.out);have hcg:=cB (o:=k) (v:= .bool (f k)) HG.out (bcells_get f _ k (by omega));have hfg:=fob (o:=k) HG.out;have hk1:(k:Int)<(t.length:Int)+1:=by omega
  have hset:=bcells_set f (t.length+1) k (S.fore.isYes (S.fore.run 0 (t.take k)));have hb2:=blk_set (o:=k) (v:= .bool (S.fore.isYes (S.fore.run 0 (t.take k)))) HG.out;rw[hset]at hb2;have hff:∀j,j<k+1→(if j=k then S.fore.isYes (S.fore.run 0 (t.take k)) else f j)=S.fore.isYes (S.fore.run 0 (t.take j)):=fun j hj=>by
   by_cases e:j=k
   ·rw[if_pos e,e]
   ·rw[if_neg e];exact HF.out j (by omega)
  have HFF:=Hy hff;have HG2:=Hy hb2;have hws:=HB.out.size;have hB2:=(HB.out.setCell (p:=⟨w.heap.size,k,none⟩) (Nat.le_refl _) (.bool (S.fore.isYes (S.fore.run 0 (t.take k)))))
  have hst:k<t.length→Calls Tryz.prog 201 #[Ptr fo,.int .i64 (S.fore.run 0 (t.take k):Nat),.int .u8 ((t.getD k 0).toNat:Int)] (wr.setCell ⟨w.heap.size,k,none⟩ (.bool (S.fore.isYes (S.fore.run 0 (t.take k))))).drew fun e w'=>e = .returned (.int .i64 (S.fore.run 0 (t.take (k+1)):Nat))∧w'=(wr.setCell ⟨w.heap.size,k,none⟩ (.bool (S.fore.isYes (S.fore.run 0 (t.take k))))).drew.drew:=fun hkn=>by
   have hd1:=HD0.out.later hB2.drew;rw[run_take S.fore 0 t k hkn,List.getD_eq_getElem?_getD,List.getElem?_eq_getElem hkn];exact step_any S.fore HS.out.1 fo _ _ _ hd1 hlt (by have:=t[k].toNat_lt;simpa using this)
  have x0':(wr.setCell ⟨w.heap.size,k,none⟩ (.bool (S.fore.isYes (S.fore.run 0 (t.take k))))).cell? ⟨s,0,none⟩=some (Ptr fo):=cB (o:=0) (later_blk hB2 HS0.out) rfl;have HSt:=Hy hst;have HB2:=Hy hB2;clear hset hb2 hff hst hB2;obtain⟨q2,hq2⟩:∃q2,S.fore.run 0 (t.take (k+1))=q2:=⟨_,rfl⟩
  have Hq2:=Hy hq2;rw[hq2]at HSt;clear hq2;generalize S.fore.isYes (S.fore.run 0 (t.take k))=yv at *;generalize S.fore.run 0 (t.take k)=q at *;by_cases hkn:k<t.length
  ·have hkn':(k:Int)<t.length:=by omega
   have hk40:(k:Int)<1099511627776:=by omega
   have hne:((k:Int)==(t.length:Int))=false:=by simp;omega
   have hst2:=HSt.out hkn;rw[List.getD_eq_getElem?_getD,List.getElem?_eq_getElem hkn,Option.getD_some]at hst2;clear HSt;go_wp2_with fail;refine hy.mono ?_;rintro e w' ⟨rfl,rfl⟩;go_wp2_with fail;refine Eag.region (.mov 0 (.mov 1 (.mov 2 (.mov 3 (.mov 4 (.mov 5 (.mov 6 (.mov 7 (.anc 8 (.mov 9 Eag.Sch.fin)))))))))) [] (by kernel_rfl) (by kernel_rfl) (fun K ops hops hK => ?_);iterate 8
    refine Eag.mov hops rfl rfl (fun w' hb => ?_) ?_
    ·have q0:=later hb x0';clear hb;go_simp
    go_simp
   refine Eag.anc hops rfl rfl ?_;go_wp2_with fail;refine hst2.mono ?_;rintro e w' ⟨rfl,rfl⟩;refine⟨(Below.refl _ _).drew,?_⟩;clear hst2 x0' x0 hy;iterate 1
    refine Eag.mov hops rfl rfl (fun w' hb => ?_) ?_
    ·clear hb;go_simp
    go_simp
   refine Eag.fin (hK _ _ ?_);clear hK hops;go_simp;go_wp2_with fail;go_roundw
   case rel=>exact⟨k+1,_,by omega,by rw[Hq2.out],by go_num,HB2.out.drew.drew,HG2.out,HFF.out⟩
   case measure=>simp[intOf];omega
  ·have e:k=t.length:=by omega
   subst e;clear HSt;go_wp2_with fail;refine hy.mono ?_;rintro e w' ⟨rfl,rfl⟩;go_wp2_with fail;go_ret;refine⟨rfl,HB2.out,HG2.out.trans ?_⟩;rw[bcells_congr HFF.out]
theorem run_drop (D:Pv.Dfa)(q:Nat)(s:List UInt8)(k:Nat)(h0:0<k)(h:k≤s.length):D.run q (s.drop (k-1)).reverse=D.step (D.run q (s.drop k).reverse) (s[k-1]'(by omega)).toNat:=by
 have e:s.drop (k-1)=s[k-1]'(by omega)::s.drop k:=by rw[List.drop_eq_getElem_cons (by omega)];congr 2;omega
 rw[e,List.reverse_cons,Pv.Dfa.run_snoc]
set_option maxRecDepth 20000 in
set_option maxHeartbeats 1000000 in
theorem stails_any (S:Pv.Side)(hS:S.Ok)(s:Nat)(t:List UInt8)(w:World)(h:SideAt H w S s)(ht:t.length<549755813888):
  Calls Tryz.prog 213 #[Ptr s,Str t] w fun e w'=>
   e = .returned (.slice (some ⟨w.heap.size,0,none⟩) (t.length+1) (t.length+1))∧Below w.heap.size w w'∧w'.heap[w.heap.size]?=some (.cells (bcells (fun j=>S.back.isYes (S.back.run 0 (t.drop j).reverse)) (t.length+1)).toArray 4):=by
 have hmk:=make_bools (t.length+1) (by omega) w;rw[show((t.length+1:Nat):Int)=(t.length:Int)+1 by omega]at hmk;have hwr:IntKind.i64.wrap ((t.length:Int)+1)=(t.length:Int)+1:=by rw[IntKind.wrap_i64]<;>omega
 obtain⟨hns,ba,fo,hs0,_,hd0⟩:=h;have HS0:=Hy hs0;have HD0:=Hy hd0;have HS:=Hy hS;clear hs0 hd0 hS;go_enter Tryz.func213,Tryz.ntmps213;go_wp2_with fail;generalize hw1:w.alloc (.cells (bcells (fun _=>false) (t.length+1)).toArray 4)=w1 at *;have hB1:Below w.heap.size w w1:=by rw[←hw1];exact(Below.refl _ _).alloc (Nat.le_refl _) _
 have hg1:w1.heap[w.heap.size]?=some (.cells (bcells (fun _=>false) (t.length+1)).toArray 4):=by rw[←hw1];exact blk_new rfl
 have HB1:=Hy hB1;have HG1:=Hy hg1;clear hB1 hg1 hw1 hmk;go_loopw [6,7] (fun v i wr=>∃(k:Nat) (f:Nat→Bool),k≤t.length∧v = .int .i64 (S.back.run 0 (t.drop k).reverse:Nat)∧i = .int .i64 k∧Hid (Below w.heap.size w wr)∧Hid (wr.heap[w.heap.size]?=some (.cells (bcells f (t.length+1)).toArray 4)) ∧
  Hid (∀j,k<j→j<t.length+1→f j=S.back.isYes (S.back.run 0 (t.drop j).reverse))) (fun _ i _=>(intOf i).toNat)
 case atStart=>exact⟨t.length,_,by omega,by rw[List.drop_length];rfl,rfl,HB1.out,HG1.out,fun j hj hj2=>by omega⟩
 case round=>
  obtain⟨k,f,hk,rfl,rfl,HB,HG,HF⟩:=hrel;have x0:=cB (o:=1) (later_blk HB.out HS0.out) rfl;have hlt:=HS.out.2.run_lt (t.drop k).reverse HS.out.2.pos;have hy:=yes_any S.back fo (S.back.run 0 (t.drop k).reverse) wr (HD0.out.later HB.out);have hcg:=cB (o:=k) (v:= .bool (f k)) HG.out (bcells_get f _ k (by omega));have hfg:=fob (o:=k) HG.out;have hk1:(k:Int)<(t.length:Int)+1:=by omega
  have hset:=bcells_set f (t.length+1) k (S.back.isYes (S.back.run 0 (t.drop k).reverse));have hb2:=blk_set (o:=k) (v:= .bool (S.back.isYes (S.back.run 0 (t.drop k).reverse))) HG.out;rw[hset]at hb2;have hff:∀j,k≤j→j<t.length+1→(if j=k then S.back.isYes (S.back.run 0 (t.drop k).reverse) else f j)=S.back.isYes (S.back.run 0 (t.drop j).reverse):=fun j hj hj2=>by
   by_cases e:j=k
   ·rw[if_pos e,e]
   ·rw[if_neg e];exact HF.out j (by omega) hj2
  have HFF:=Hy hff;have HG2:=Hy hb2;have hws:=HB.out.size;have hB2:=(HB.out.setCell (p:=⟨w.heap.size,k,none⟩) (Nat.le_refl _) (.bool (S.back.isYes (S.back.run 0 (t.drop k).reverse))))
  have hst:0<k→Calls Tryz.prog 201 #[Ptr fo,.int .i64 (S.back.run 0 (t.drop k).reverse:Nat),.int .u8 ((t.getD (k-1) 0).toNat:Int)] (wr.setCell ⟨w.heap.size,k,none⟩ (.bool (S.back.isYes (S.back.run 0 (t.drop k).reverse)))).drew fun e w'=>e = .returned (.int .i64 (S.back.run 0 (t.drop (k-1)).reverse:Nat))∧w'=(wr.setCell ⟨w.heap.size,k,none⟩ (.bool (S.back.isYes (S.back.run 0 (t.drop k).reverse)))).drew.drew:=fun hkn=>by
   have hd1:=HD0.out.later hB2.drew;rw[run_drop S.back 0 t k hkn hk,List.getD_eq_getElem?_getD,List.getElem?_eq_getElem (show k-1<t.length by omega)];exact step_any S.back HS.out.2 fo _ _ _ hd1 hlt (by have:=t[k-1].toNat_lt;simpa using this)
  have x0':(wr.setCell ⟨w.heap.size,k,none⟩ (.bool (S.back.isYes (S.back.run 0 (t.drop k).reverse)))).cell? ⟨s,1,none⟩=some (Ptr fo):=cB (o:=1) (later_blk hB2 HS0.out) rfl;have HSt:=Hy hst;have HB2:=Hy hB2;clear hset hb2 hff hst hB2;obtain⟨q2,hq2⟩:∃q2,S.back.run 0 (t.drop (k-1)).reverse=q2:=⟨_,rfl⟩
  have Hq2:=Hy hq2;rw[hq2]at HSt;clear hq2;generalize S.back.isYes (S.back.run 0 (t.drop k).reverse)=yv at *;generalize S.back.run 0 (t.drop k).reverse=q at *;by_cases hkn:0<k
  ·have hkn':(0:Int)<k:=by omega
   have hk40:(k:Int)<1099511627776:=by omega
   have hne:((k:Int)==0)=false:=by simp;omega
   have hwm:IntKind.i64.wrap ((k:Int)-1)=((k-1:Nat):Int):=by rw[IntKind.wrap_i64]<;>omega
   have hk1n:((k-1:Nat):Int)<t.length:=by omega
   have hst2:=HSt.out hkn;rw[List.getD_eq_getElem?_getD,List.getElem?_eq_getElem (show k-1<t.length by omega),Option.getD_some]at hst2;clear HSt;go_wp2_with fail;refine hy.mono ?_;rintro e w' ⟨rfl,rfl⟩;go_wp2_with fail
   refine Eag.region (.mov 0 (.mov 1 (.mov 2 (.mov 3 (.mov 4 (.mov 5 (.mov 6 (.mov 7 (.mov 8 (.anc 9 (.mov 10 Eag.Sch.fin))))))))))) [] (by kernel_rfl) (by kernel_rfl) (fun K ops hops hK => ?_);iterate 9
    refine Eag.mov hops rfl rfl (fun w' hb => ?_) ?_
    ·have q0:=later hb x0';clear hb;go_simp
    go_simp
   refine Eag.anc hops rfl rfl ?_;go_wp2_with fail;refine hst2.mono ?_;rintro e w' ⟨rfl,rfl⟩;refine⟨(Below.refl _ _).drew,?_⟩;clear hst2 x0' x0 hy;iterate 1
    refine Eag.mov hops rfl rfl (fun w' hb => ?_) ?_
    ·clear hb;go_simp
    go_simp
   refine Eag.fin (hK _ _ ?_);clear hK hops;go_simp;go_wp2_with fail;go_roundw
   case rel=>exact⟨k-1,_,by omega,by rw[Hq2.out],by go_num,HB2.out.drew.drew,HG2.out,fun j hj=>HFF.out j (by omega)⟩
   case measure=>simp[intOf];omega
  ·have e:k=0:=by omega
   subst e;clear HSt;go_wp2_with fail;refine hy.mono ?_;rintro e w' ⟨rfl,rfl⟩;go_wp2_with fail;go_ret;refine⟨rfl,HB2.out,HG2.out.trans ?_⟩;rw[bcells_congr fun j hj=>HFF.out j (by omega) hj]
end Go.Proofs.YtamkfdlcdiadlaaGreatDoor
namespace Pv
theorem headsGo_len (D:Dfa):∀(s:List UInt8) (q:Nat),(headsGo D q s).length=s.length+1
 | [],_=>rfl
 | _::s,q=>by simp[headsGo,headsGo_len D s]
theorem headsGo_get (D:Dfa):∀(s:List UInt8) (q i:Nat),i≤s.length→(headsGo D q s).getD i false=D.isYes (D.run q (s.take i))
 | [],q,i,h=>by
   have:i=0:=by simpa using h
   subst this;rfl
 | b::s,q,0,_=>rfl
 | b::s,q,i+1,h=>by simp only[headsGo,List.getD_cons_succ,List.take_succ_cons];rw[headsGo_get D s _ i (by simpa using h)];rfl
theorem tailsOf_get (S:Side)(t:List UInt8)(i:Nat)(h:i≤t.length):(S.tailsOf t).getD i false=S.back.isYes (S.back.run 0 (t.drop i).reverse):=by
 unfold Side.tailsOf;have hl:=headsGo_len S.back t.reverse 0;rw[List.getD_eq_getElem?_getD,List.getElem?_reverse (by rw[hl,List.length_reverse];omega),←List.getD_eq_getElem?_getD,hl,List.length_reverse,
  headsGo_get _ _ _ _ (by rw[List.length_reverse];omega),List.take_reverse]
 congr 4;omega
theorem places_eq (x y:Side)(t:List UInt8):places x y t=(List.range (t.length+1)).filter fun i=>x.fore.isYes (x.fore.run 0 (t.take i))&&y.back.isYes (y.back.run 0 (t.drop i).reverse):=by
 unfold places;refine List.filter_congr fun i hi => ?_
 have hi:=List.mem_range.1 hi;rw[tailsOf_get _ _ _ (by omega)];unfold Side.headsOf;rw[headsGo_get _ _ _ _ (by omega)]
end Pv
namespace Go.Proofs.YtamkfdlcdiadlaaGreatDoor
open Go.RowKit
variable {H:Nat→Prop}
set_option maxRecDepth 20000 in
set_option maxHeartbeats 1000000 in
theorem places_any (R:Ending→World→Prop)(S T:Pv.Side)(hS:S.Ok)(hT:T.Ok)(s u b:Nat)(f:Pv.Fuel)(t:List UInt8)(w:World)(h1:SideAt H w S s)(h2:SideAt H w T u)(hf:FuelAt w b f)(ht:t.length<549755813888)(hb:H b)
  (r1:∀w',(f.burn (2*(t.length+1))).2=31→FuelAt w' b (f.burn (2*(t.length+1))).1→Keep (· = b) w w'→R (.returned (.tuple #[.slice none 0 0,.int .i64 31])) w')
  (r2:∀w' v,(f.burn (2*(t.length+1))).2=0→FuelAt w' b (f.burn (2*(t.length+1))).1→Keep (· = b) w w'→Row w.heap.size 3 w' v ((Pv.places S T t).map intV)→R (.returned (.tuple #[v,.int .i64 0])) w'):
  Calls Tryz.prog 193 #[Ptr s,Ptr u,Str t,Ptr b] w R:=by
 have hbu:=burn_any b (2*(t.length+1)) f w hf (by omega);rw[show((2*(t.length+1):Nat):Int)=2*((t.length:Int)+1) by omega]at hbu;have hwr:IntKind.i64.wrap ((t.length:Int)+1)=(t.length:Int)+1:=by rw[IntKind.wrap_i64]<;>omega
 have hwr2:IntKind.i64.wrap (2*((t.length:Int)+1))=2*((t.length:Int)+1):=by rw[IntKind.wrap_i64]<;>omega
 have hty:∀(k:Nat) (cs:Array Value) (fr:Nat × Nat),w.heap[k]?=some (.cells cs 205 fr)→¬k=b:=fun k cs fr e hk=>by have h2:=hf.2;rw[hk]at e;rw[e]at h2;cases h2
 have H1:=Hy h1;have H2:=Hy h2;have HTy:=Hy hty;have HS:=Hy hS;have HT:=Hy hT;have R1:=Hy r1;have R2:=Hy r2;have he:(f.burn (2*(t.length+1))).2=0∨(f.burn (2*(t.length+1))).2=31:=by unfold Pv.Fuel.burn;split<;>simp
 have hpl:=Hy (Pv.places_eq S T t);generalize (f.burn (2*(t.length+1))).2=e1 at *;generalize (f.burn (2*(t.length+1))).1=f1 at *;clear h1 h2 hf r1 r2 hty hS hT;go_enter Tryz.func193,Tryz.ntmps193;go_wp2_with fail;refine hbu.mono ?_;rintro e w1 ⟨rfl,hf1,hk1⟩;have HF1:=Hy hf1;have HK1:=Hy hk1;have HS1:=Hy (H1.out.keep hk1 (fun k e=> .inl (by rw[e];exact hb)) HTy.out)
 have HT1:=Hy (H2.out.keep hk1 (fun k e=> .inl (by rw[e];exact hb)) HTy.out);clear hf1 hk1 hbu H1 H2;rcases he with rfl|rfl
 ·have hta:=stails_any T HT.out u t w1 HT1.out ht;have HTa:=Hy hta;clear hta;go_wp2_with fail;refine HTa.out.mono ?_;rintro e w2 ⟨rfl,hb2,hg2⟩;have HB2:=Hy hb2;have HG2:=Hy hg2;have hhe:=sheads_any S HS.out s t w2 (HS1.out.later hb2) ht;have HHe:=Hy hhe;clear hb2 hg2 hhe HTa;go_wp2_with fail;refine HHe.out.mono ?_;rintro e w3 ⟨rfl,hb3,hg3⟩;have HB3:=Hy hb3;have HG3:=Hy hg3
  have HG23:=Hy (later_blk hb3 HG2.out);have hz1:=HB2.out.size;have hz2:=HB3.out.size;have hz3:=blk_lt HG2.out;have hz4:=blk_lt HG3.out;clear hb3 hg3 HHe;go_wp2_with fail;obtain⟨i0,hi,hy0,hy1,hy2⟩:=info_parts info_int
  go_loopw [11,37] (fun v i wr=>∃(k:Nat),k≤t.length+1∧i = .int .i64 k∧Hid (Row w3.heap.size 3 wr v (((List.range k).filter fun i=>S.fore.isYes (S.fore.run 0 (t.take i))&&T.back.isYes (T.back.run 0 (t.drop i).reverse)).map intV))∧Hid (Below w3.heap.size w3 wr)) (fun _ i _=>(t.length+1-intOf i).toNat)
  case atStart=>exact⟨0,by omega,rfl,Row.nil _ _ _,Below.refl _ _⟩
  case round=>
   obtain⟨k,hk,rfl,HR,HB⟩:=hrel;by_cases hkn:k<t.length+1
   ·have hkn':(k:Int)<(t.length:Int)+1:=by omega
    have x0:=cB (o:=k) (later_blk HB.out HG3.out) (bcells_get _ _ k hkn);have x1:=cB (o:=k) (later_blk HB.out HG23.out) (bcells_get _ _ k hkn);have hsu:=List.range_succ (n:=k)
    have hfl:(List.filter (fun i=>S.fore.isYes (S.fore.run 0 (t.take i))&&T.back.isYes (T.back.run 0 (t.drop i).reverse)) (List.range (k+1)))=(List.filter (fun i=>S.fore.isYes (S.fore.run 0 (t.take i))&&T.back.isYes (T.back.run 0 (t.drop i).reverse)) (List.range k))++(if(S.fore.isYes (S.fore.run 0 (t.take k))&&T.back.isYes (T.back.run 0 (t.drop k).reverse))=true then [k] else []):=by
     rw[hsu,List.filter_append];congr 1;rw[List.filter_cons,List.filter_nil]
    have hlen:=List.length_filter_le (fun i=>S.fore.isYes (S.fore.run 0 (t.take i))&&T.back.isYes (T.back.run 0 (t.drop i).reverse)) (List.range k);rw[List.length_range]at hlen;generalize hF:(List.filter (fun i=>S.fore.isYes (S.fore.run 0 (t.take i))&&T.back.isYes (T.back.run 0 (t.drop i).reverse)) (List.range k))=L at *;have HFl:=Hy hfl;clear hfl hsu
    generalize S.fore.isYes (S.fore.run 0 (t.take k))=y1 at *;generalize T.back.isYes (T.back.run 0 (t.drop k).reverse)=y2 at *;clear hF;by_cases hy:(y1&&y2)=true
    ·obtain⟨rfl,rfl⟩:y1=true∧y2=true:=by simpa using hy
     have hfl:=HFl.out;simp only[Bool.and_self,if_true]at hfl;have HFl2:=Hy hfl;have hzB:=HB.out.size;clear hfl HFl hy;go_wp2_with (at_builtin;refine app1 212 3 i0 _ 8 Tryz.underlying212 hi hy0 hy1 hy2 rfl (by omega) rfl _ _ rfl w3.heap.size _ _ rfl (HR.out.alloc _) wr.heap.size _ rfl (blk_new rfl) rfl ?c1 (by simp;omega) ?c2)
     case c1=>rw[List.length_map];omega
     case c2=>
      intro v4 w4 hr4 hb4 _;have HR4:Hid (Row w3.heap.size 3 w4 v4 ((L++[k]).map intV)):=by show Row _ _ _ _ _;rw[List.map_append];exact hr4
      have HB4:=Hy ((HB.out.alloc hzB _).trans hb4);clear hr4 hb4;go_wp2_with fail;go_roundw
      case rel=>exact⟨k+1,by omega,by go_num,by rw[HFl2.out];exact HR4.out,HB4.out⟩
      case measure=>simp[intOf];omega
    ·have hfl:=HFl.out;rw[if_neg hy,List.append_nil]at hfl;have HFl2:=Hy hfl;clear hfl HFl;cases y1 with
     | false=>
       go_wp2_with fail;go_roundw
       case rel=>exact⟨k+1,by omega,by go_num,by rw[HFl2.out];exact HR.out,HB.out⟩
       case measure=>simp[intOf];omega
     | true=>
       cases y2 with
       | true=>exact absurd rfl hy
       | false=>
         go_wp2_with fail;go_roundw
         case rel=>exact⟨k+1,by omega,by go_num,by rw[HFl2.out];exact HR.out,HB.out⟩
         case measure=>simp[intOf];omega
   ·have e:k=t.length+1:=by omega
    subst e;have hr:=HR.out;rw[←hpl.out]at hr;have hzk:=HK1.out.size;have hfin:=R2.out wr _ trivial ((((HF1.out.later HB2.out).later HB3.out).later HB.out)) (((HK1.out.trans (Keep.of_below HB2.out)).trans (Keep.of_below HB3.out)).trans (Keep.of_below HB.out)) (RowK.base hr (by omega));have HFin:=Hy hfin;obtain⟨a,c,rfl,_,_⟩:=hr.form;clear hfin hr;go_wp2_with fail;exact HFin.out
 ·go_wp2_with fail;exact R1.out w1 trivial HF1.out HK1.out
end Go.Proofs.YtamkfdlcdiadlaaGreatDoor
namespace Go.Proofs.YtamkfdlcdiadlaaGreatDoor
open Go.RowKit
variable {H:Nat→Prop}
theorem str_extract (t:List UInt8)(a b:Nat):(⟨t.toArray⟩:ByteArray).extract a b=⟨((t.take b).drop a).toArray⟩:=by apply ByteArray.ext;simp[ByteArray.data_extract,List.drop_take]
set_option maxRecDepth 20000 in
set_option maxHeartbeats 1000000 in
theorem scat_any (R:Ending→World→Prop)(S T:Pv.Side)(hS:S.Ok)(hT:T.Ok)(s u b:Nat)(f:Pv.Fuel)(t:List UInt8)(w:World)(h1:SideAt H w S s)(h2:SideAt H w T u)(hf:FuelAt w b f)(ht:t.length<549755813888)(hb:H b)
  (r1:∀w',(f.burn (2*(t.length+1))).2=31→FuelAt w' b (f.burn (2*(t.length+1))).1→Keep (· = b) w w'→R (.returned (.tuple #[Str [],Str [],.int .i64 31])) w')
  (r2:∀w',(f.burn (2*(t.length+1))).2=0→(Pv.places S T t).length≠1→FuelAt w' b (f.burn (2*(t.length+1))).1→Keep (· = b) w w'→R (.returned (.tuple #[Str [],Str [],.int .i64 30])) w')
  (r3:∀w' i,(f.burn (2*(t.length+1))).2=0→Pv.places S T t=[i]→FuelAt w' b (f.burn (2*(t.length+1))).1→Keep (· = b) w w'→R (.returned (.tuple #[Str (t.take i),Str (t.drop i),.int .i64 0])) w'):
  Calls Tryz.prog 159 #[Ptr s,Ptr u,Str t,Ptr b] w R:=by
 have H1:=Hy h1;have H2:=Hy h2;have HF:=Hy hf;have HS:=Hy hS;have HT:=Hy hT;have R1:=Hy r1;have R2:=Hy r2;have R3:=Hy r3;clear h1 h2 hf r1 r2 r3 hS hT;go_enter Tryz.func159,Tryz.ntmps159;go_wp2_with fail;refine places_any (H:=H) _ S T HS.out HT.out s u b f t w H1.out H2.out HF.out ht hb ?_ ?_
 ·intro w1 e1 hf1 hk1;have HR:=Hy (R1.out w1 e1 hf1 hk1);clear e1 hf1 hk1;go_wp2_with fail;refine bodyPost_ret (v:= .tuple #[Str [],Str [],.int .i64 31]) ?_ rfl HR.out;simp[results,Tryz.results159,go_sem]
 ·intro w1 v e1 hf1 hk1 hr1;obtain⟨a,c,rfl,hsl,_⟩:=hr1.form;rw[List.length_map];by_cases hl:(Pv.places S T t).length=1
  ·obtain⟨i,hi⟩:=List.length_eq_one_iff.1 hl;have hit:i≤t.length:=by
    have:i∈Pv.places S T t:=by rw[hi];simp
    unfold Pv.places at this;have:=(List.mem_filter.1 this).1;have:=List.mem_range.1 this;omega
   rw[hi]at hsl ⊢;obtain⟨blk,off,rfl,hc⟩:=hsl.cell 0 (by simp);simp only[List.map_cons,List.map_nil,List.getElem_cons_zero,Nat.add_zero]at hc;have HR:=Hy (R3.out w1.drew i e1 hi hf1 (hk1.trans (Keep.drew _)));have hti:(i:Int)≤t.length:=by omega
   have hi0:(0:Int)≤i:=by omega
   clear e1 hf1 hk1 hr1 hsl;go_wp2_with fail;refine Eag.region (.mov 0 (.mov 1 (.mov 2 (.mov 3 (.mov 4 (.mov 5 (.mov 6 (.mov 7 (.mov 8 (.mov 9 (.mov 10 (.mov 11 (.mov 12 Eag.Sch.fin))))))))))))) [] (by kernel_rfl) (by kernel_rfl) (fun K ops hops hK => ?_);unfold intV at hc;iterate 13
    refine Eag.mov hops rfl rfl (fun w' hb => ?_) ?_
    ·have q0:=later hb hc;clear hb;go_simp
    go_simp
   refine Eag.fin (hK _ _ ?_);clear hK hops;go_wp2_with fail;refine bodyPost_ret (v:= .tuple #[Str (t.take i),Str (t.drop i),.int .i64 0]) ?_ rfl HR.out;simp[results,Tryz.results159,go_sem,str_extract,hit]
  ·have HR:=Hy (R2.out w1 e1 hl hf1 hk1);have hl':(((Pv.places S T t).length:Int)!=1)=true:=by simp;omega
   clear e1 hf1 hk1 hr1 hsl;go_wp2_with fail;refine bodyPost_ret (v:= .tuple #[Str [],Str [],.int .i64 30]) ?_ rfl HR.out;simp[results,Tryz.results159,go_sem]
end Go.Proofs.YtamkfdlcdiadlaaGreatDoor
namespace Go.Proofs.YtamkfdlcdiadlaaGreatDoor
open Go.RowKit Go.Maps
variable {H:Nat→Prop}
theorem two_true (c bb:Nat)(w:World)(e2:Int)(tv:Value)(view:Bool):
  Calls Tryz.prog 172 #[Ptr c,.int .i64 0,.int .i64 e2,tv,.bool view,.agg #[Str [],.int .i64 0,.int .i64 0],.bool false] w fun en w'=>en = .returned (.bool true)∧Below w.heap.size w w':=by
 have ht:=told_true c bb (w.alloc (.cells #[Str [],.int .i64 0,.int .i64 0] 223)) e2 tv view [];go_enter Tryz.func172,Tryz.ntmps172;go_wp2_with fail;refine ht.mono ?_;rintro e w' ⟨rfl,rfl⟩;go_wp2_with fail;go_ret;exact⟨rfl,(Below.refl _ _).alloc (Nat.le_refl _) _⟩
set_option maxRecDepth 20000 in
theorem splits_none (x y:Pv.R)(bx by_ c bb l u:Nat)(w:World)(hT:Tab w)(hx:ReAt H w x bx)(hy:ReAt H w y by_)(hbud:BudAt w bb l u)(hbb:H bb)(hH:∀h,H h→h<w.heap.size)(hsx:Pv.size x<549755813888)(hsy:Pv.size y<549755813888)(hl:l<274877906944)
  (hhd:∀A B l1,Pv.build x l=(l1,some A)→(Pv.build y l1).2=some B→A.parts.length+B.parts.length≤12)
  (hc:CkAt w c bb {}) (tv:Value) (view:Bool) (hr:(Pv.ambigCat x y l).2=some none):
  Calls Tryz.prog 137 #[Ptr c,tv,.bool view,Ptr bx,Ptr by_] w fun en w'=>en = .returned (.bool true)∧CkAt w' c bb {}∧(∃u',BudAt w' bb (Pv.ambigCat x y l).1 u')∧Keep (· = bb) w w':=by
 have hok:=ok_any c bb {} w hc;have hne:=hc.ne_bud hbud;have hcat:=acat_any (H:=H) (fun e w'=>e = .returned (.tuple #[.agg #[Str [],.int .i64 0,.int .i64 0],.bool false,.int .i64 0])∧(∃u',BudAt w' bb (Pv.ambigCat x y l).1 u')∧Keep (· = bb) w w') x y bx by_ bb l u w hT hx hy hbud hbb hH hsx hsy hl hhd (by rw[hr];intro t e;cases e)
  (fun w' h=>by rw[hr]at h;cases h) (fun w' _ h1 h2=>⟨rfl,⟨_,h1⟩,h2⟩)
 have x0:w.cell? ⟨c,0,none⟩=some (Ptr bb):=cB (o:=0) hc rfl;have HOk:=Hy hok;have HCat:=Hy hcat;have HC:=Hy hc;clear hok hcat hc hT hx hy hbud hH hhd hr;go_enter Tryz.func137,Tryz.ntmps137;go_wp2_with fail;refine HOk.out.mono ?_;rintro e w' ⟨rfl,rfl⟩;go_wp2_with fail;refine HCat.out.mono ?_;rintro e w1 ⟨rfl,⟨u1,hb1⟩,hk1⟩;have HB1:=Hy hb1;have HK1:=Hy hk1;clear hb1 hk1 HCat x0;go_wp2_with fail
 refine(two_true c bb _ _ _ _).mono ?_;rintro e w2 ⟨rfl,hb2⟩;have hB:Below w1.heap.size w1 w2:=((Below.refl _ _).alloc (Nat.le_refl _) _).trans (hb2.mono (by simp));have HF:Hid (CkAt w2 c bb {}∧(∃u',BudAt w2 bb (Pv.ambigCat x y l).1 u')∧Keep (· = bb) w w2):=⟨(HC.out.keep HK1.out hne).later hB,⟨_,HB1.out.later hB⟩,HK1.out.trans (Keep.of_below hB)⟩
 clear hb2 hB;go_wp2_with fail;go_ret;exact⟨rfl,HF.out⟩
theorem side_any (r:Pv.R)(b c bb l u:Nat)(w:World)(hT:Tab w)(hat:ReAt H w r b)(hbud:BudAt w bb l u)(hbb:H bb)(hH:∀h,H h→h<w.heap.size)(hsz:Pv.size r<137438953472)(hl:l<274877906944)
  (hc:CkAt w c bb {}) (S:Pv.Side) (hr:(Pv.side r l).2=some S):
  Calls Tryz.prog 95 #[Ptr c,Ptr b] w fun en w'=>∃s,en = .returned (Ptr s)∧SideAt H w' S s∧S.Ok∧w.heap.size≤s∧CkAt w' c bb {}∧(∃u',BudAt w' bb (Pv.side r l).1 u')∧Keep (· = bb) w w':=by
 have hok:=ok_any c bb {} w hc;have hne:=hc.ne_bud hbud;have hsb:=sbuild_any (H:=H) (fun e w'=>∃s,e = .returned (.tuple #[Ptr s,.int .i64 0])∧SideAt H w' S s∧S.Ok∧w.heap.size≤s∧(∃u',BudAt w' bb (Pv.side r l).1 u')∧Keep (· = bb) w w') r b bb l u w hT hat hbud hbb hH hsz hl
  (fun w' h=>by rw[hr]at h;cases h) (fun w' S' s h h1 h2 h3 h4 h5=>by rw[hr]at h;cases h;exact⟨s,rfl,h1,h2,h3,⟨_,h4⟩,h5⟩)
 have x0:w.cell? ⟨c,0,none⟩=some (Ptr bb):=cB (o:=0) hc rfl;have HOk:=Hy hok;have HSb:=Hy hsb;have HC:=Hy hc;clear hok hsb hc hT hat hbud hH hr;go_enter Tryz.func95,Tryz.ntmps95;go_wp2_with fail;refine HOk.out.mono ?_;rintro e w' ⟨rfl,rfl⟩;go_wp2_with fail;refine HSb.out.mono ?_;rintro e w1 ⟨s,rfl,hs1,hs2,hs3,hb1,hk1⟩
 have HF:Hid (SideAt H w1 S s∧S.Ok∧w.heap.size≤s∧CkAt w1 c bb {}∧(∃u',BudAt w1 bb (Pv.side r l).1 u')∧Keep (· = bb) w w1):=⟨hs1,hs2,hs3,HC.out.keep hk1 hne,hb1,hk1⟩
 clear hs1 hs2 hs3 hb1 hk1 HSb x0;go_wp2_with fail;refine(told_true c bb _ _ _ _ []).mono ?_;rintro e w' ⟨rfl,rfl⟩;go_wp2_with fail;go_ret;exact⟨s,rfl,HF.out⟩
end Go.Proofs.YtamkfdlcdiadlaaGreatDoor
namespace Go.Proofs.YtamkfdlcdiadlaaGreatDoor
open Go.RowKit Go.Maps
variable {H:Nat→Prop}
abbrev termC (op:Nat)(at_:Int)(name:List UInt8)(re:Value)(text back:List UInt8)(kids:Value):Array Value:=#[.int .i64 (op:Int),.int .i64 at_,Str name,re,Str text,Str back,kids]
abbrev TermAt (w:World)(tb op:Nat)(at_:Int)(name:List UInt8)(re:Value)(text back:List UInt8)(kids:Value):Prop:=w.heap[tb]?=some (.cells (termC op at_ name re text back kids) 62)
abbrev CanC (tb:Nat)(wv cv kv sv1 sv2:Value):Array Value:=#[Ptr tb,wv,cv,kv,sv1,sv2]
theorem TermAt.head {w:World}{tb op:Nat}{at_:Int}{name text back:List UInt8}{re kids:Value}(h:TermAt w tb op at_ name re text back kids):HeadAt w tb op at_:=⟨_,h,rfl,rfl⟩
theorem shaped_keep (tb:Nat)(at_:Int)(name text back:List UInt8)(w:World)(rb:Nat)(h:TermAt w tb 16 at_ name (Ptr rb) text back (.slice none 0 0)):Pure 92 #[Ptr tb] w (.bool true):=by have h0:w.cell? ⟨tb,0,none⟩=some (.int .i64 16):=cB (o:=0) h rfl;have h3:=cB (o:=3) h rfl;have h6:=cB (o:=6) h rfl;clear h;simp at h3 h6;go_enter Tryz.func92,Tryz.ntmps92;go_wp2_with fail;go_ret;exact⟨rfl,rfl⟩
theorem shaped_norm (tb:Nat)(at_:Int)(name text back:List UInt8)(w:World)(rb:Nat)(h:TermAt w tb 17 at_ name (Ptr rb) text back (.slice none 0 0)):Pure 92 #[Ptr tb] w (.bool true):=by have h0:w.cell? ⟨tb,0,none⟩=some (.int .i64 17):=cB (o:=0) h rfl;have h3:=cB (o:=3) h rfl;have h6:=cB (o:=6) h rfl;clear h;simp at h3 h6;go_enter Tryz.func92,Tryz.ntmps92;go_wp2_with fail;go_ret;exact⟨rfl,rfl⟩
theorem shaped_cat (tb:Nat)(at_:Int)(name text back:List UInt8)(w:World)(re:Value)(ka:Option Addr)(kc:Nat)(h:TermAt w tb 8 at_ name (re) text back (.slice ka 2 kc)):Pure 92 #[Ptr tb] w (.bool true):=by
 have h0:w.cell? ⟨tb,0,none⟩=some (.int .i64 8):=cB (o:=0) h rfl;have h3:=cB (o:=3) h rfl;have h6:=cB (o:=6) h rfl;clear h;simp at h3 h6;go_enter Tryz.func92,Tryz.ntmps92;go_wp2_with fail;go_ret;exact⟨rfl,rfl⟩
set_option maxRecDepth 20000 in
theorem types_keep (c k tb rb:Nat)(at_:Int)(name text back:List UInt8)(kids kv:Value)(w:World)(hx:w.heap[k]?=some (.cells (CanC tb (.pointer none) (.pointer none) kv (.pointer none) (.pointer none)) 131))(ht:TermAt w tb 16 at_ name (Ptr rb) text back kids):
  Calls Tryz.prog 94 #[Ptr c,Ptr k] w fun e w'=>e = .returned (.bool true)∧w'.heap[k]?=some (.cells (CanC tb (Ptr rb) (Ptr rb) kv (.pointer none) (.pointer none)) 131)∧Keep (· = k) w w':=by
 have x0:w.cell? ⟨k,0,none⟩=some (Ptr tb):=cB (o:=0) hx rfl;have x1:w.cell? ⟨k,1,none⟩=some (.pointer none):=cB (o:=1) hx rfl;have x2:w.cell? ⟨k,2,none⟩=some (.pointer none):=cB (o:=2) hx rfl;have t0:w.cell? ⟨tb,0,none⟩=some (.int .i64 16):=cB (o:=0) ht rfl;have t3:w.cell? ⟨tb,3,none⟩=some (Ptr rb):=cB (o:=3) ht rfl;have fr:∀o,w.frozen? ⟨k,o,none⟩=false:=fun o=>fob hx
 have nf:∀x,¬(fun _:Nat=>False) x:=fun _ h=>h
 have HX:=Hy hx;clear hx ht;go_enter Tryz.func94,Tryz.ntmps94;go_wp2_with fail;have nft:=nf tb;refine Eaq.region (Keep fun _=>False) (.mov 0 (.mov 1 (.mov 2 (.mov 3 (.mov 4 (.mov 5 (.mov 6 (.mov 7 (.mov 8 (.mov 9 (.mov 10 (.mov 11 (.anc 12 (.mov 13 (.mov 14 (.anc 15 Eag.Sch.fin)))))))))))))))) [12,15] [1] (by kernel_rfl) (by kernel_rfl) (fun K ops hops hK => ?_);iterate 12
  first
   | (refine Eaq.mov hops rfl rfl rfl (fun w' hb => ?_) ?_
      ·have q0:=Keep.cell hb nft t3;clear hb;go_simp)
   | (refine Eaq.movA hops rfl rfl (fun w' => ?_) ?_
      ·go_simp)
  go_simp
 refine Eaq.anc hops rfl rfl ?_;go_wp2_with fail;iterate 2
  first
   | (refine Eaq.mov hops rfl rfl rfl (fun w' hb => ?_) ?_
      ·clear hb;go_simp)
   | (refine Eaq.movA hops rfl rfl (fun w' => ?_) ?_
      ·go_simp)
  go_simp
 refine Eaq.anc hops rfl rfl ?_;go_wp2_with fail;refine Eaq.fin (hK _ _ ?_);clear hK hops;go_simp;go_wp2_with fail;refine bodyPost_ret (v:= .bool true) ?_ rfl ⟨rfl,?_,?_⟩
 ·simp[results,Tryz.results94,go_sem]
 ·show((w.setCell ⟨k,1,none⟩ _).setCell ⟨k,2,none⟩ _).heap[k]?=_;rw[blk_set (blk_set HX.out)];rfl
 ·have K:∀(W:World) (o:Nat) (v:Value),Keep (· = k) W (W.setCell ⟨k,o,none⟩ v):=fun W o v=>Keep.set rfl
  exact((K _ _ _).trans (K _ _ _)).trans (Keep.drew _)
end Go.Proofs.YtamkfdlcdiadlaaGreatDoor
