/- The library's Sort at few bytes: insertion sort. -/
import Derived.Test.YtamkfdlcdiadlaaGreatDoorKb05
import Derived.Test.YtamkfdlcdiadlaaGreatDoorKb14
import Derived.Test.YtamkfdlcdiadlaaGreatDoorKb25
import Derived.Test.YtamkfdlcdiadlaaGreatDoorKb03
import Derived.BigQuiet
import Derived.Deep.QuietTactic
import Derived.Test.YtamkfdlcdiadlaaGreatDoorKb06
import Derived.Test.YtamkfdlcdiadlaaGreatDoorKb23
import Derived.Shelf.Strings.Builder1
import Derived.Shelf.Strings.Builder2
import Derived.Shelf.Strings.OnBuilder
import Derived.Shelf.Small.Bits
import Derived.Shelf.Strings.BuilderF
import Derived.Shelf.Strings.BuilderK
import Derived.Shelf.Strconv.Itoa0
import Derived.Shelf.Strconv.Itoa1
import Derived.Shelf.LaysM
import Derived.Shelf.Strconv.Itoa2
import Derived.Shelf.Strconv.Itoa3
import Derived.Ground.SlgnProg
import Derived.Shelf.SlicesE.Reverse
import Derived.Shelf.SlicesE.Compact
import Derived.Ground.SlgfProg
import Derived.Shelf.SlicesE.IndexFunc
import Derived.Shelf.SlicesE.DeleteFunc
import Derived.Ground.SlsfProg
import Derived.Test.YtamkfdlcdiadlaaGreatDoorProg
import Derived.Test.YtamkfdlcdiadlaaGreatDoorKb09
set_option linter.all false
namespace Go.Proofs.YtamkfdlcdiadlaaGreatDoor
open Go.RowKit
variable {H:Nat→Prop}
abbrev bV (b:UInt8):Value:= .int .u8 (b.toNat:Int)
theorem isnanb_any (x:UInt8)(w:World):Pure 244 #[bV x] w (.bool false):=by
 have h:((x.toNat:Int)!=(x.toNat:Int))=false:=by simp
 go_enter Tryz.func244,Tryz.ntmps244;go_wp2_with fail;go_ret;exact⟨rfl,rfl⟩
theorem blessb_any (x y:UInt8)(w:World)(z:Bool)(hz:z=decide (x<y)):Calls Tryz.prog 230 #[bV x,bV y] w fun e w'=>e = .returned (.bool z)∧w=w':=by
 have hn:=isnanb_any x w;have e:decide (x.toNat<y.toNat)=z:=by rw[hz];simp[UInt8.lt_iff_toNat_lt]
 clear hz;go_enter Tryz.func230,Tryz.ntmps230;go_wp2_with fail;refine hn.mono ?_;rintro e1 w' ⟨rfl,rfl⟩;go_wp2_with fail;go_ret;exact⟨by rw[←e];rfl,rfl⟩
abbrev bRow (l:List UInt8)(sp:List Value):Array Value:=(l.map bV++sp).toArray
theorem bRow_get {l:List UInt8}{sp:List Value}{i:Nat}{b:UInt8}(h:l[i]?=some b):(bRow l sp)[i]?=some (bV b):=by have hi:=(List.getElem?_eq_some_iff.1 h).1;simp only[bRow,List.getElem?_toArray];rw[List.getElem?_append_left (by simpa using hi),List.getElem?_map,h];rfl
theorem bRow_set {l:List UInt8}{sp:List Value}{i:Nat}(b:UInt8)(h:i<l.length):(bRow l sp).setIfInBounds i (bV b)=bRow (l.set i b) sp:=by simp only[bRow,List.setIfInBounds_toArray];rw[List.set_append_left _ _ (by simpa using h),List.map_set]
set_option maxRecDepth 20000 in
set_option maxHeartbeats 1000000 in
theorem bins_any (g cap:Nat)(xs:List UInt8)(sp:List Value)(w:World)(hw:w.heap[g]?=some (.cells (bRow xs sp) 5))(hn:xs.length<1099511627776):
  Calls Tryz.prog 224 #[.slice (some ⟨g,0,none⟩) xs.length cap,.int .i64 0,.int .i64 (xs.length:Int)] w fun e w'=>
   e = .returned (.tuple #[])∧w'.heap[g]?=some (.cells (bRow (Pv.sortB xs) sp) 5)∧Keep (· = g) w w':=by
 have HW:=Hy hw;clear hw;by_cases h0:xs.length=0
 ·have e0:=List.length_eq_zero_iff.1 h0;subst e0;go_enter Tryz.func224,Tryz.ntmps224;go_wp2_with fail;go_loopw [6] (fun i wr=>i = .int .i64 1∧wr=w) (fun _ _=>0)
  case atStart=>exact⟨rfl,rfl⟩
  case round=>
   obtain⟨rfl,rfl⟩:=hrel;go_wp2_with fail;go_end0;exact⟨rfl,HW.out,Keep.refl _ _⟩
 go_enter Tryz.func224,Tryz.ntmps224;go_wp2_with fail;go_loopw [6] (fun i wr=>∃k:Nat,1≤k∧k≤xs.length∧i = .int .i64 k∧Hid (wr.heap[g]?=some (.cells (bRow (Pv.sortTake xs k++xs.drop k) sp) 5))∧Hid (Keep (· = g) w wr)) (fun i _=>(xs.length-intOf i).toNat)
 case atStart=>
  refine⟨1,by omega,by omega,rfl,?_,Keep.refl _ _⟩;show w.heap[g]?=_;rw[HW.out];congr 2;have e1:Pv.sortTake xs 1=[xs[0]]:=by rw[Pv.sortTake_succ xs 0 (by omega)];rfl
  rw[e1];have:=List.drop_eq_getElem_cons (l:=xs) (i:=0) (by omega);rw[List.drop_zero]at this;rw[List.singleton_append];show bRow xs sp=_;congr 1
 case round=>
  obtain⟨k,hk1,hk,rfl,HB,HKp⟩:=hrel;by_cases hkn:k<xs.length
  ·obtain⟨acc,hacc⟩:∃acc,Pv.sortTake xs k=acc:=⟨_,rfl⟩
   obtain⟨b,hb⟩:∃b,xs[k]=b:=⟨_,rfl⟩
   have hlen:=Pv.sortTake_len xs k hk;have hasc:=Pv.sortTake_asc xs k hk;have hsuc:=Pv.sortTake_succ xs k hkn;have hdrop:=List.drop_eq_getElem_cons hkn;rw[hb]at hdrop hsuc;rw[hacc]at hlen hasc hsuc HB;rw[hdrop]at HB;have hst:=Pv.midRow_start acc b (xs.drop (k+1));rw[hlen]at hst;rw[←hst]at HB;have hrl:(xs.drop (k+1)).length=xs.length-(k+1):=by simp
   have HSuc:=Hy hsuc;have HAsc:=Hy hasc;obtain⟨rest,hrest⟩:∃rest,xs.drop (k+1)=rest:=⟨_,rfl⟩
   rw[hrest]at HB hrl;have HRest:=Hy hrest;have hkn':(k:Int)<xs.length:=by omega
   have hk40:(k:Int)<1099511627776:=by omega
   have HLen:=Hy hlen;have HRl:=Hy hrl;clear hacc hb hdrop hsuc hasc hst hrest hlen hrl;go_wp2_with fail;go_loopw [7] (fun j wr=>∃m:Nat,m≤k∧j = .int .i64 m∧Hid (wr.heap[g]?=some (.cells (bRow (Pv.midRow acc b m rest) sp) 5))∧Hid (∀x∈acc.drop m,b<x)∧Hid (Keep (· = g) w wr)) (fun j _=>(intOf j).toNat)
   case atStart=>exact⟨k,by omega,rfl,HB.out,Hy (fun x hx=>by rw[List.drop_of_length_le (by rw[HLen.out];omega)]at hx;cases hx),HKp.out⟩
   case round=>
    obtain⟨m,hm,rfl,HB2,HG,HK2⟩:=hrel;clear HB HKp;by_cases hm0:0<m
    ·have hlenm:=Pv.midRow_len acc b m rest (by rw[HLen.out];omega);have hg0:=Pv.midRow_get acc b m rest (by rw[HLen.out];omega);have hg1:=Pv.midRow_prev acc b m rest hm0 (by rw[HLen.out];omega);have hsw:=Pv.midRow_swap acc b m rest hm0 (by rw[HLen.out];omega);have hdr:=Pv.drop_one acc m hm0 (by rw[HLen.out];omega)
     have hend:=fun(hq:acc[m-1]'(by rw[HLen.out];omega)≤b)=>Pv.midRow_end acc b m rest HAsc.out (by rw[HLen.out];omega) (fun _=>hq)
     obtain⟨z,hz⟩:∃z,acc[m-1]'(by rw[HLen.out];omega)=z:=⟨_,rfl⟩
     rw[hz]at hg1 hsw hdr hend;have c0:=cB HB2.out (bRow_get hg0);have c1:=cB HB2.out (bRow_get hg1);have fr:∀o,wr.frozen? ⟨g,o,none⟩=false:=fun o=>fob HB2.out
     have hm1:(0:Int)<m:=by omega
     have hm2:(m:Int)<xs.length:=by omega
     have hm3:(m:Int)<1099511627776:=by omega
     have hwm:IntKind.i64.wrap ((m:Int)-1)=((m-1:Nat):Int):=by rw[IntKind.wrap_i64]<;>omega
     have hm4:((m-1:Nat):Int)<xs.length:=by omega
     have HSw:=Hy hsw;have HDr:=Hy hdr;have HEnd:=Hy hend;have HLm:=Hy hlenm;clear hz hg0 hg1 hsw hdr hend hlenm;by_cases hlt:b<z
     ·have hcall:=blessb_any b z;have hd:true=decide (b<z):=by simp[hlt]
      have HC:Hid (∀w,Calls Tryz.prog 230 #[bV b,bV z] w fun e w'=>e = .returned (.bool true)∧w=w'):=fun w=>hcall w true hd
      clear hcall hd;go_wp2_with fail;go_quiet ((go_at_call 230;refine Calls.quiet_of_same ((HC.out _).mono fun _ _ h=>⟨h.1,h.2.symm⟩)));replace c0:(wr.drewN nq).cell? ⟨g,m,none⟩=_:=c0;replace c1:(wr.drewN nq).cell? ⟨g,m-1,none⟩=_:=c1;replace fr:∀o,(wr.drewN nq).frozen? ⟨g,o,none⟩=false:=fr;have HB3:Hid ((wr.drewN nq).heap[g]?=_):=HB2.out
      have HK3:Hid (Keep (· = g) w (wr.drewN nq)):=⟨HK2.out.os,HK2.out.tape,HK2.out.output,HK2.out.size,HK2.out.block⟩
      generalize wr.drewN nq=w3 at *;go_wp2_with fail;have nf:¬(fun _:Nat=>False) g:=fun h=>h
      refine Eaq.region (Keep fun _=>False) (.mov 0 (.mov 1 (.mov 2 (.mov 3 (.mov 4 (.mov 5 (.mov 6 (.mov 7 (.mov 8 (.mov 9 (.mov 10 (.mov 11 (.mov 12 (.mov 13 (.mov 14 (.anc 15 (.mov 16 (.anc 17 Eag.Sch.fin)))))))))))))))))) [15,17] [2,3,4] (by kernel_rfl) (by kernel_rfl) (fun K ops hops hK => ?_);iterate 15
       first
        | (refine Eaq.mov hops rfl rfl rfl (fun w' hb => ?_) ?_
           ·have q0:=Keep.cell hb nf c0;have q1:=Keep.cell hb nf c1;clear hb;go_simp)
        | (refine Eaq.movA hops rfl rfl (fun w' => ?_) ?_
           ·go_simp)
       go_simp
      refine Eaq.anc hops rfl rfl ?_;go_wp2_with fail;iterate 1
       first
        | (refine Eaq.mov hops rfl rfl rfl (fun w' hb => ?_) ?_
           ·clear hb;go_simp)
        | (refine Eaq.movA hops rfl rfl (fun w' => ?_) ?_
           ·go_simp)
       go_simp
      refine Eaq.anc hops rfl rfl ?_;go_wp2_with fail;refine Eaq.fin (hK _ _ ?_);clear hK hops;go_simp;go_wp2_with fail;go_roundw
      case rel=>
       refine⟨m-1,by omega,by go_num,?_,?_,?_⟩
       ·have:=HLen.out;have h1:=blk_set (w:=(w3.drew).setCell ⟨g,m,none⟩ (bV z)) (o:=m-1) (v:=bV b) (blk_set (w:=w3.drew) (o:=m) (v:=bV z) HB3.out);rw[bRow_set _ (by rw[HLm.out];omega),bRow_set _ (by rw[List.length_set,HLm.out];omega),HSw.out]at h1;exact h1
       ·refine Hy (fun x hx => ?_);rw[HDr.out]at hx;rcases List.mem_cons.1 hx with rfl|hx
        ·exact hlt
        ·exact HG.out x hx
       ·exact((HK3.out.trans (Keep.drew _)).trans (Keep.set rfl)).trans (Keep.set rfl)
      case measure=>simp[intOf];omega
     ·have hcall:=blessb_any b z;have hd:false=decide (b<z):=by simp[hlt]
      have HC:Hid (∀w,Calls Tryz.prog 230 #[bV b,bV z] w fun e w'=>e = .returned (.bool false)∧w=w'):=fun w=>hcall w false hd
      have hzb:z≤b:=by rw[UInt8.lt_iff_toNat_lt]at hlt;rw[UInt8.le_iff_toNat_le];omega
      have hrow:=HEnd.out hzb HG.out;have HRow:=Hy hrow;clear hcall hd hrow;go_wp2_with fail;go_quiet ((go_at_call 230;refine Calls.quiet_of_same ((HC.out _).mono fun _ _ h=>⟨h.1,h.2.symm⟩)));go_wp2_with fail;go_roundw
      case rel=>
       refine⟨k+1,by omega,by omega,by go_num,?_,⟨HK2.out.os,HK2.out.tape,HK2.out.output,HK2.out.size,HK2.out.block⟩⟩;show wr.heap[g]?=_;rw[HB2.out,HRow.out,HSuc.out,HRest.out]
      case measure=>simp[intOf];omega
    ·have e0:m=0:=by omega
     subst e0;have hrow:=Pv.midRow_end acc b 0 rest HAsc.out (by omega) (fun h=>by omega) HG.out;have HRow:=Hy hrow;clear hrow hm0;go_wp2_with fail;go_quiet (fail);go_wp2_with fail;go_roundw
     case rel=>
      refine⟨k+1,by omega,by omega,by go_num,?_,⟨HK2.out.os,HK2.out.tape,HK2.out.output,HK2.out.size,HK2.out.block⟩⟩;show wr.heap[g]?=_;rw[HB2.out,HRow.out,HSuc.out,HRest.out]
     case measure=>simp[intOf];omega
  ·have e:k=xs.length:=by omega
   subst e;go_wp2_with fail;go_end0;refine⟨rfl,?_,HKp.out⟩;rw[HB.out,List.drop_length,List.append_nil];unfold Pv.sortTake;rw[List.take_length,Pv.sortB_foldl]
set_option maxRecDepth 20000 in
theorem bpdq_any (g cap:Nat)(xs:List UInt8)(sp:List Value)(lim:Int)(w:World)(hw:w.heap[g]?=some (.cells (bRow xs sp) 5))(hn:xs.length≤12):
  Calls Tryz.prog 202 #[.slice (some ⟨g,0,none⟩) xs.length cap,.int .i64 0,.int .i64 (xs.length:Int),.int .i64 lim] w fun e w'=>
   e = .returned (.tuple #[])∧w'.heap[g]?=some (.cells (bRow (Pv.sortB xs) sp) 5)∧Keep (· = g) w w':=by
 have hs:=bins_any g cap xs sp w hw (by omega);have h1:(xs.length:Int)≤12:=by omega
 have HS:=Hy hs;clear hs hw;go_enter Tryz.func202,Tryz.ntmps202;go_wp2_with fail;go_loopw [1,2] (fun a b wr=>a = .int .i64 0∧b = .int .i64 (xs.length:Int)∧wr=w) (fun _ _ _=>0)
 case atStart=>exact⟨rfl,rfl,rfl⟩
 case round=>
  obtain⟨rfl,rfl,rfl⟩:=hrel;go_wp2_with fail;refine HS.out.mono ?_;rintro e w' ⟨rfl,h2,h3⟩;have H2:=Hy h2;have H3:=Hy h3;clear h2 h3;go_wp2_with fail;refine bodyPost_ret (results_none rfl _ _ _) rfl ?_;exact⟨rfl,H2.out,H3.out⟩
theorem bsort_any (g cap:Nat)(xs:List UInt8)(sp:List Value)(w:World)(hw:w.heap[g]?=some (.cells (bRow xs sp) 5))(hn:xs.length≤12):
  Calls Tryz.prog 177 #[.slice (some ⟨g,0,none⟩) xs.length cap] w fun e w'=>
   e = .returned (.tuple #[])∧w'.heap[g]?=some (.cells (bRow (Pv.sortB xs) sp) 5)∧Keep (· = g) w w':=by
 have hp:=fun lim=>bpdq_any g cap xs sp lim w hw hn
 have HP:=Hy hp;have hl:=Go.Proofs.Tryz.bits_Len (xs.length:Int) w (by omega) (by omega);have h1:(xs.length:Int)≤12:=by omega
 clear hp hw;go_enter Tryz.func177,Tryz.ntmps177;go_wp2_with fail;refine hl.mono ?_;rintro e w' ⟨rfl,rfl⟩;go_wp2_with fail;refine(HP.out _).mono ?_;rintro e w' ⟨rfl,h2,h3⟩;have H2:=Hy h2;have H3:=Hy h3;clear h2 h3;go_wp2_with fail;go_end0;exact⟨rfl,H2.out,H3.out⟩
end Go.Proofs.YtamkfdlcdiadlaaGreatDoor
namespace Go.Proofs.YtamkfdlcdiadlaaGreatDoor
open Go.RowKit Go.Lib Go.Sort
variable {H:Nat→Prop}
theorem compactUpTo_eq (l:List UInt8):∀m,m≤l.length→compactUpTo l.toArray m=Pv.compactB (l.take m)
 | 0,_=>rfl
 | m+1,h=>by
   rw[compactUpTo_succ,compactUpTo_eq l m (by omega),List.take_succ_eq_append_getElem (by omega),Pv.compactB_snoc];have e0:l.toArray[m]! = l[m]:=by simp[getElem!_pos,show m<l.length by omega]
   rw[e0];by_cases h0:m=0
   ·subst h0;simp[keeps]
   ·have e1:l.toArray[m-1]! = l[m-1]:=by simp[getElem!_pos,show m-1<l.length by omega]
    have e2:(l.take m).getLast?=some (l[m-1]'(by omega)):=by rw[List.getLast?_eq_getElem?,List.length_take,Nat.min_eq_left (by omega),List.getElem?_take,if_pos (by omega),List.getElem?_eq_getElem]
    rw[e2];by_cases h1:l[m]=l[m-1]
    ·rw[keeps_neg (by omega) (by rw[e0,e1,h1])];simp[h1]
    ·rw[keeps_pos (by rw[e0,e1];exact h1)];have h2:¬(some (l[m-1]'(by omega))=some l[m]):=fun e=>h1 (Option.some.inj e).symm
     rw[if_neg h2];simp
theorem bcompact_any (g cap:Nat)(xs:List UInt8)(sp:List Value)(w:World)(hw:w.heap[g]?=some (.cells (bRow xs sp) 5))(hn:xs.length<1099511627776)(hcap:xs.length≤cap):
  Calls Tryz.prog 178 #[.slice (some ⟨g,0,none⟩) xs.length cap] w fun e w'=>
   e = .returned (.slice (some ⟨g,0,none⟩) (Pv.compactB xs).length cap)∧(∃sp',w'.heap[g]?=some (.cells (bRow (Pv.compactB xs) sp') 5))∧Keep (· = g) w w':=by
 have hH:Holds bV w g 0 xs.toArray:=fun j hj=>by
  have hj':j<xs.length:=by simpa using hj
  refine⟨?_,fob hw⟩;rw[Nat.zero_add];refine cB hw ?_;rw[bRow_get (b:=xs[j]) (List.getElem?_eq_getElem hj')];simp[getElem!_pos,hj']
 have hc:=Tryz.slices_Compact bV (fun _=>rfl) ⟨fun x y w=>by
  have:((x.toNat:Int)==(y.toNat:Int))=decide (x=y):=by
   by_cases h:x=y
   ·subst h;simp
   ·have h2:¬x.toNat=y.toNat:=fun e=>h (UInt8.toNat_inj.1 e)
    simp[h];omega
  simp[binOp,Op.intCmp,this],fun op a b x y w=>by rw[eqGuard_at_int];rfl⟩ ⟨fun x y w=>by
  have:((x.toNat:Int)!=(y.toNat:Int)) = !decide (x=y):=by
   by_cases h:x=y
   ·subst h;simp
   ·have h2:¬x.toNat=y.toNat:=fun e=>h (UInt8.toNat_inj.1 e)
    simp[h];omega
  simp[binOp,Op.intCmp,this],fun op a b x y w=>by rw[eqGuard_at_int];rfl⟩ (0:UInt8) (fun w=>Tryz.zeroValue5 w) g 0 cap xs.toArray w hH (by simp;omega) (by simpa using hcap)
 have e1:compactUpTo xs.toArray xs.toArray.size=Pv.compactB xs:=by have:=compactUpTo_eq xs xs.length (Nat.le_refl _);rw[List.take_length]at this;simpa using this
 rw[e1]at hc;refine hc.mono ?_;rintro e w' ⟨rfl,q,rfl⟩;refine⟨by simp,?_,?_⟩
 ·have hle:(Pv.compactB xs).length≤xs.length:=by have h1:=compactUpTo_eq xs xs.length (Nat.le_refl _);rw[List.take_length]at h1;rw[←h1];unfold compactUpTo;rw[List.length_map];exact Nat.le_trans (List.length_filter_le _ _) (by simp)
  have hb:(putRow bV (Sort.ahead w q) g 0 (Pv.compactB xs++List.replicate (xs.toArray.size-(Pv.compactB xs).length) 0).toArray).heap[g]?=some (.cells (putCells bV 0 (Pv.compactB xs++List.replicate (xs.toArray.size-(Pv.compactB xs).length) 0).toArray (bRow xs sp)) 5):=by show(w.heap.modify g _)[g]?=_;rw[Array.getElem?_modify,if_pos rfl,hw];rfl
  generalize Pv.compactB xs=C at *;refine⟨(putCells bV 0 (C++List.replicate (xs.toArray.size-C.length) 0).toArray (bRow xs sp)).toList.drop C.length,?_⟩;rw[hb];congr 2;apply Array.ext_getElem?;intro i;simp only[bRow,List.getElem?_toArray];by_cases hi:i<C.length
  ·rw[List.getElem?_append_left (by simpa using hi),List.getElem?_map,List.getElem?_eq_getElem hi];unfold putCells;rw[Array.getElem?_mapIdx];have h2:(xs.map bV++sp).toArray[i]?=some (bV (xs[i]'(by omega))):=by simp only[List.getElem?_toArray];rw[List.getElem?_append_left (by simp;omega),List.getElem?_map,List.getElem?_eq_getElem (by omega)];rfl
   rw[h2];simp only[Option.map_some,Nat.zero_le,true_and,Nat.sub_zero,Nat.zero_add];rw[if_pos (by simp;omega)];congr 2;rw[getElem!_pos _ i (by simp;omega)];simp[List.getElem_append,hi]
  ·rw[List.getElem?_append_right (by simp;omega),List.getElem?_drop,List.length_map,Array.getElem?_toList];congr 1;omega
 ·refine ⟨rfl,rfl,rfl,?_,fun k hk hn => ?_⟩
  ·show w.heap.size≤(w.heap.modify g _).size;simp
  ·show(w.heap.modify g _)[k]?=_;rw[Array.getElem?_modify,if_neg (Ne.symm hn)]
end Go.Proofs.YtamkfdlcdiadlaaGreatDoor
namespace Go.Proofs.YtamkfdlcdiadlaaGreatDoor
open Go.RowKit Go.Maps
variable {H:Nat→Prop}
def TrOk (A B:Pv.Dfa)(tr:Pv.Trail):Prop:=∀y∈tr,SpotOk A B y.1∧y.1.q<549755813888
theorem freeOf_ok {A B:Pv.Dfa}(hB:B.Ok){x y:Pv.Spot}(h:Pv.freeOf A x=some y)(hx:SpotOk A B x)(hq:x.q<549755813888):SpotOk A B y∧y.q<549755813888:=by
 obtain⟨ph,p,q,mv⟩:=x;obtain⟨h1,h2,h3,h4⟩:=hx;unfold Pv.freeOf at h;simp only at h h1 h2 h3 h4 hq;split at h
 ·rename_i hc;injection h with h;subst h
  exact⟨⟨by simp,fun _=>h2 (by omega),fun e=>by simp at e,fun _=>hB.pos⟩,by simp⟩
 ·split at h
  ·rename_i hc;injection h with h;subst h
   exact⟨⟨by simp,fun e=>by simp at e,fun _=>h4 (by omega),fun _=>hB.pos⟩,by simp⟩
  ·cases h
theorem byOf_eq (A B:Pv.Dfa)(x:Pv.Spot)(b:UInt8):Pv.byOf A B x b=if(byV A B x b.toNat).2=true then some (byV A B x b.toNat).1 else none:=by
 unfold Pv.byOf byV;split
 ·rfl
 ·split<;>rfl
theorem byV_ok {A B:Pv.Dfa}(hA:A.Ok)(hB:B.Ok)(hnA:A.yes.length<549755813888)(hnB:B.yes.length<549755813888){x:Pv.Spot}(b:Nat)(hx:SpotOk A B x):SpotOk A B (byV A B x b).1∧(byV A B x b).1.q<549755813888:=by
 obtain⟨ph,p,q,mv⟩:=x;obtain⟨h1,h2,h3,h4⟩:=hx;unfold byV;simp only at h1 h2 h3 h4 ⊢;split
 ·exact⟨⟨by simp,fun _=>hA.step_lt (h2 (by omega)) _,fun e=>by simp at e,fun e=>by simp at e⟩,by simp⟩
 ·split
  ·have:=hB.step_lt (h4 (by omega)) b;exact⟨⟨by simp,fun _=>hA.step_lt (h2 (by omega)) _,fun e=>by simp at e,fun e=>this⟩,Nat.lt_trans this hnB⟩
  ·have:=hB.step_lt (h4 (by omega)) b;exact⟨⟨by simp,fun e=>by simp at e,fun _=>hB.step_lt (h3 (by omega)) _,fun e=>this⟩,Nat.lt_trans this hnB⟩
theorem TrOk.add {A B:Pv.Dfa}{tr tr':Pv.Trail}{l l':Nat}{x:Pv.Spot}{st:Pv.Step}(h:TrOk A B tr)(hx:SpotOk A B x∧x.q<549755813888)(ha:Pv.addSpot x st tr l=some (tr',l')):TrOk A B tr':=by
 rcases Pv.addSpot_cases ha with⟨rfl,_⟩|⟨rfl,_⟩
 ·exact h
 ·intro y hy;rcases List.mem_append.1 hy with hy|hy
  ·exact h y hy
  ·rw[List.mem_singleton.1 hy];exact hx
structure CS (H:Nat→Prop)(N0 bb LU S r g:Nat)(harr:Array Value)(w:World)(s a b M:Nat)(A B:Pv.Dfa)(wr:World)(tr:Pv.Trail)(l:Nat):Prop where
 ex:∃lv sv u,SrAt H N0 wr s a b M bb A B lv sv tr l u∧l+u=LU
 kp:Keep (· = bb) w wr
 ok:TrOk A B tr
 hg:wr.heap[g]?=some (.cells harr 5)
 rr:wr.heap[r]?=some (.cells #[Str [],.int .i64 0,.int .i64 0] 223)
 sum:l+tr.length=S
 lo:w.heap.size≤s∧w.heap.size≤a∧w.heap.size≤b∧w.heap.size≤M∧w.heap.size≤N0∧N0≤wr.heap.size
 hA:A.Ok∧B.Ok∧A.yes.length<549755813888∧B.yes.length<549755813888∧S<549755813888
 gd:Pv.Good A B tr
variable {N0 bb LU S r g s a b M:Nat}{harr:Array Value}{w wr:World}{A B:Pv.Dfa}{tr:Pv.Trail}{l:Nat}
theorem CS.later (h:CS H N0 bb LU S r g harr w s a b M A B wr tr l){w':World}(hb:Below wr.heap.size wr w'):CS H N0 bb LU S r g harr w s a b M A B w' tr l:=
 ⟨let ⟨lv,sv,u,hs,e⟩:=h.ex;⟨lv,sv,u,hs.later hb,e⟩,h.kp.trans (Keep.of_below hb),h.ok,later_blk hb h.hg,later_blk hb h.rr,h.sum,⟨h.lo.1,h.lo.2.1,h.lo.2.2.1,h.lo.2.2.2.1,h.lo.2.2.2.2.1,Nat.le_trans h.lo.2.2.2.2.2 hb.size⟩,h.hA,h.gd⟩
theorem CS.len_lt (h:CS H N0 bb LU S r g harr w s a b M A B wr tr l):tr.length<549755813888:=by have:=h.sum;have:=h.hA.2.2.2.2;omega
theorem CS.cells (h:CS H N0 bb LU S r g harr w s a b M A B wr tr l)(h0:0<tr.length):∃gl cap,wr.cell? ⟨s,3,none⟩=some (.slice (some ⟨gl,0,none⟩) tr.length cap) ∧
  ∀(i:Nat) (x:Pv.Spot) (st:Pv.Step),tr[i]?=some (x,st)→∀(j:Nat) (v:Value),(spotC x)[j]?=some v→wr.cell? ⟨gl,4*i+j,none⟩=some v:=by
 obtain⟨lv,sv,u,hs,_⟩:=h.ex;rcases RowK.blk hs.list with⟨_,e,_⟩|⟨gl,cap,cur,rfl,_,hcur,hn,_,hsz,htk⟩
 ·omega
 ·refine ⟨gl,cap,cB (o:=3) hs.sr rfl,fun i x st hi j v hj => ?_⟩;have hil:=(List.getElem?_eq_some_iff.1 hi).1;have hjl:j<4:=by have:=(List.getElem?_eq_some_iff.1 hj).1;simpa using this
  refine cB hcur ?_;have h1:(cur.toList.take (tr.length*4))[4*i+j]?=some v:=by
   rw[htk];clear htk hs hcur hsz hn h h0;induction tr generalizing i with
   | nil=>simp at hi
   | cons y tr ih=>
     cases i with
     | zero=>
       simp at hi;subst hi;rw[List.flatMap_cons,List.getElem?_append_left (by simpa using hjl)];simpa using hj
     | succ i=>
       rw[List.flatMap_cons,List.getElem?_append_right (by simp;omega)];have:=ih i (by simpa using hi) (by simpa using hil);rw[←this];congr 1;simp;omega
  rw[List.getElem?_take,if_pos (by omega)]at h1;simpa using h1
theorem CS.spots (h:CS H N0 bb LU S r g harr w s a b M A B wr tr l)(h0:0<tr.length):∃gl cap,wr.cell? ⟨s,3,none⟩=some (.slice (some ⟨gl,0,none⟩) tr.length cap) ∧
  ∀(i:Nat) (x:Pv.Spot) (st:Pv.Step),tr[i]?=some (x,st)→wr.cell? ⟨gl,i*4,none⟩=some (.int .i64 (x.phase:Int))∧wr.cell? ⟨gl,i*4+1,none⟩=some (.int .i64 (x.p:Int)) ∧
   wr.cell? ⟨gl,i*4+2,none⟩=some (.int .i64 (x.q:Int))∧wr.cell? ⟨gl,i*4+3,none⟩=some (.bool x.moved):=by
 obtain⟨gl,cap,h1,h2⟩:=h.cells h0;refine⟨gl,cap,h1,fun i x st hi => ?_⟩;rw[Nat.mul_comm i 4];exact⟨h2 i x st hi 0 _ rfl,h2 i x st hi 1 _ rfl,h2 i x st hi 2 _ rfl,h2 i x st hi 3 _ rfl⟩
theorem cs_add_some (h:CS H N0 bb LU S r g harr w s a b M A B wr tr l)(x:Pv.Spot)(st:Pv.Step)(hx:SpotOk A B x∧x.q<549755813888){tr':Pv.Trail}{l':Nat}(ha:Pv.addSpot x st tr l=some (tr',l'))(hgd:Pv.Good A B tr'):
  Calls Tryz.prog 179 #[Ptr s,spotV x,stepV st] wr fun e w'=>e = .returned (.int .i64 0)∧CS H N0 bb LU S r g harr w s a b M A B w' tr' l':=by
 obtain⟨lv,sv,u,hs,hlu⟩:=h.ex;have hp:∀z:Pv.Spot,SpotOk A B z→z.phase<4611686018427387904∧z.p<4611686018427387904:=fun z hz=>by
  have h1:=hz.ph;refine⟨by omega,?_⟩;have hA:=h.hA;by_cases hz1:z.phase≤1
  ·have:=hz.p0 hz1;omega
  ·have:=hz.p2 (by omega);omega
 refine add_any _ hs x st ⟨(hp x hx.1).1,(hp x hx.1).2,by omega⟩ (fun y hy=>⟨(hp _ (h.ok y hy).1).1,(hp _ (h.ok y hy).1).2,by have:=(h.ok y hy).2;omega⟩) h.lo.2.2.2.2.2 h.len_lt ?_ ?_
 ·intro w' hn _ _;rw[ha]at hn;cases hn
 ·intro w' lv' sv' tr2 l2 he hs' hk;rw[ha]at he;injection he with he
  injection he with e1 e2
  subst e1;subst e2;have hsum:=Pv.addSpot_sum ha;have ho:=hs.others hk;refine⟨rfl,⟨lv',sv',_,hs',by omega⟩,?_,h.ok.add hx ha,ho _ _ _ _ h.hg (by decide) (by decide) (by decide) (by decide) (by decide),ho _ _ _ _ h.rr (by decide) (by decide) (by decide) (by decide) (by decide),by have:=h.sum;omega,⟨h.lo.1,h.lo.2.1,h.lo.2.2.1,h.lo.2.2.2.1,h.lo.2.2.2.2.1,Nat.le_trans h.lo.2.2.2.2.2 hk.size⟩,h.hA,hgd⟩
  have hN:=h.lo.2.2.2.2.1;refine h.kp.trans_ hk fun k hk => ?_
  rcases hk with e|e|e|e|e
  ·exact .inr (by rw[e];exact h.lo.1)
  ·exact .inl e
  ·exact .inr (by rw[e];exact h.lo.2.2.2.1)
  ·exact .inr (by have:=(RowK.lt hs.list e).1;omega)
  ·exact .inr (by have:=(RowK.lt hs.steps e).1;omega)
theorem cs_add_none (h:CS H N0 bb LU S r g harr w s a b M A B wr tr l)(x:Pv.Spot)(st:Pv.Step)(hx:SpotOk A B x∧x.q<549755813888)(ha:Pv.addSpot x st tr l=none):
  Calls Tryz.prog 179 #[Ptr s,spotV x,stepV st] wr fun e w'=>e = .returned (.int .i64 5)∧BudAt w' bb l (LU-l)∧Keep (· = bb) w w'∧w'.heap[r]?=some (.cells #[Str [],.int .i64 0,.int .i64 0] 223):=by
 obtain⟨lv,sv,u,hs,hlu⟩:=h.ex;have hp:∀z:Pv.Spot,SpotOk A B z→z.phase<4611686018427387904∧z.p<4611686018427387904:=fun z hz=>by
  have h1:=hz.ph;refine⟨by omega,?_⟩;have hA:=h.hA;by_cases hz1:z.phase≤1
  ·have:=hz.p0 hz1;omega
  ·have:=hz.p2 (by omega);omega
 refine add_any _ hs x st ⟨(hp x hx.1).1,(hp x hx.1).2,by omega⟩ (fun y hy=>⟨(hp _ (h.ok y hy).1).1,(hp _ (h.ok y hy).1).2,by have:=(h.ok y hy).2;omega⟩) h.lo.2.2.2.2.2 h.len_lt ?_ ?_
 ·intro w' _ hb hk;have hl0:=Pv.addSpot_none ha;have ho:=hs.others hk;have hN:=h.lo.2.2.2.2.1;refine⟨rfl,by rw[show l=0 from hl0,show LU-0=u by omega];exact hb,?_,ho _ _ _ _ h.rr (by decide) (by decide) (by decide) (by decide) (by decide)⟩;refine h.kp.trans_ hk fun k hk => ?_
  rcases hk with e|e|e|e|e
  ·exact .inr (by rw[e];exact h.lo.1)
  ·exact .inl e
  ·exact .inr (by rw[e];exact h.lo.2.2.2.1)
  ·exact .inr (by have:=(RowK.lt hs.list e).1;omega)
  ·exact .inr (by have:=(RowK.lt hs.steps e).1;omega)
 ·intro w' lv' sv' tr2 l2 he _ _;rw[ha]at he;cases he
theorem cs_free (h:CS H N0 bb LU S r g harr w s a b M A B wr tr l)(x y:Pv.Spot)(ok:Bool)(hy:freeV A x=(y,ok)):
  Calls Tryz.prog 180 #[Ptr s,spotV x] wr fun e w'=>e = .returned (.tuple #[spotV y,.bool ok])∧CS H N0 bb LU S r g harr w s a b M A B w' tr l:=by
 obtain⟨lv,sv,u,hs,hlu⟩:=h.ex;exact(free_body A x s a b M bb lv sv wr y ok hy hs.sr hs.da).mono fun e w' ⟨h1,h2⟩=>⟨h1,h.later h2⟩
theorem cs_by (h:CS H N0 bb LU S r g harr w s a b M A B wr tr l)(x:Pv.Spot)(hx:SpotOk A B x)(c:Nat)(hc:c<256):
  Calls Tryz.prog 183 #[Ptr s,spotV x,.int .u8 (c:Int)] wr fun e w'=>e = .returned (.tuple #[spotV (byV A B x c).1,.bool (byV A B x c).2])∧CS H N0 bb LU S r g harr w s a b M A B w' tr l:=by
 obtain⟨lv,sv,u,hs,hlu⟩:=h.ex;have hH:∀k,own2 H lv sv k→k<wr.heap.size:=fun k hk=>by
  rcases hk with hk|hk|hk
  ·exact hs.hlt k hk
  ·exact(RowK.lt hs.list hk).2
  ·exact(RowK.lt hs.steps hk).2
 refine(sby_any A B h.hA.1 h.hA.2.1 x hx c s a b M bb lv sv wr hc hs.sr hs.da hs.db hs.ab (.inl hs.hh.2.1) (.inl hs.hh.2.2.1) hH h.hA.2.2.1 h.hA.2.2.2.1).mono ?_;rintro e w' ⟨he,hda,hdb,hk⟩;have hn:∀(k:Nat) (cs:Array Value) (t:TypeId) (fr:Nat × Nat),wr.heap[k]?=some (.cells cs t fr)→t≠205→¬(k=a∨k=b):=fun k cs t fr hb ht e=>by
  obtain⟨c1,h1⟩:=hs.da.blk;obtain⟨c2,h2⟩:=hs.db.blk;rcases e with e|e
  ·subst e;rw[hb]at h1;injection h1 with h1;injection h1 with _ h1;exact ht h1
  ·subst e;rw[hb]at h2;injection h2 with h2;injection h2 with _ h2;exact ht h2
 have hrow:∀ {base e2 k n:Nat} {v:Value} {xs:List Value},RowK base e2 k wr v n xs→e2≠205→RowK base e2 k w' v n xs:=fun h1 h2=>h1.kept hk fun g hg e=>by obtain⟨cs,hb⟩:=h1.ty hg;exact hn g _ _ _ hb h2 e
 refine⟨he,⟨lv,sv,u,⟨hk.blk (hn _ _ _ _ hs.sr (by decide)) hs.sr,hda,hdb,hs.m.keep hk (fun e => ?_),hrow hs.list (by decide),hrow hs.steps (by decide),hs.bud.keep hk (hn _ _ _ _ hs.bud.2 (by decide)),hs.hh,hs.ab,fun k hk2=>Nat.lt_of_lt_of_le (hs.hlt k hk2) hk.size⟩,hlu⟩,?_,h.ok,hk.blk (hn _ _ _ _ h.hg (by decide)) h.hg,hk.blk (hn _ _ _ _ h.rr (by decide)) h.rr,h.sum,⟨h.lo.1,h.lo.2.1,h.lo.2.2.1,h.lo.2.2.2.1,h.lo.2.2.2.2.1,Nat.le_trans h.lo.2.2.2.2.2 hk.size⟩,h.hA,h.gd⟩
 ·obtain⟨c1,h1⟩:=hs.da.blk;obtain⟨c2,h2⟩:=hs.db.blk;rcases e with e|e
  ·exact hs.m.ne h1 e
  ·exact hs.m.ne h2 e
 ·refine h.kp.trans_ hk fun k hk => ?_
  rcases hk with e|e
  ·exact .inr (by rw[e];exact h.lo.2.1)
  ·exact .inr (by rw[e];exact h.lo.2.2.1)
theorem CS.sr (h:CS H N0 bb LU S r g harr w s a b M A B wr tr l):∃lv sv,wr.heap[s]?=some (.cells #[Ptr a,Ptr b,.map (some M),lv,sv,Ptr bb] 264)∧DfaAt (own2 H lv sv) wr A a∧DfaAt (own2 H lv sv) wr B b:=by obtain⟨lv,sv,u,hs,hlu⟩:=h.ex;exact⟨lv,sv,hs.sr,hs.da,hs.db⟩
theorem CS.bud (h:CS H N0 bb LU S r g harr w s a b M A B wr tr l):BudAt wr bb l (LU-l):=by obtain⟨lv,sv,u,hs,hlu⟩:=h.ex;rw[show LU-l=u by omega];exact hs.bud
end Go.Proofs.YtamkfdlcdiadlaaGreatDoor
namespace Go.Proofs
open Go.Shelf
def Tryz.laysSlE35_f204_ren:Go.Shelf.Ren:=⟨fun|35=>204|n=>n,fun|22=>135|23=>5|3=>3|4=>4|0=>0|n=>n,fun|n=>n⟩
theorem Tryz.laysSlE35_f204:Go.Proofs.SlLaysE.n35 Tryz.prog Tryz.laysSlE35_f204_ren:={
 mixed:=by kernel_rfl
 f35:=⟨Tryz.f204.name,by decide,Tryz.func204.trans (congrArg some (by kernel_rfl))⟩
 t0:=Tryz.underlying0
 a0:=Tryz.isAgg0
 z0:=Tryz.sizeOf0
 v0:=Tryz.zeroValue0
 t3:=Tryz.underlying3
 a3:=Tryz.isAgg3
 z3:=Tryz.sizeOf3
 v3:=Tryz.zeroValue3
 t4:=Tryz.underlying4
 a4:=Tryz.isAgg4
 z4:=Tryz.sizeOf4
 v4:=Tryz.zeroValue4
 t22:=Tryz.underlying135
 a22:=Tryz.isAgg135
 z22:=Tryz.sizeOf135
 v22:=Tryz.zeroValue135
 a23:=Tryz.isAgg5
 z23:=Tryz.sizeOf5 }
open Go.RowKit Go.Lib Go.Sort in
theorem Tryz.slices_Reverse_f204 {α:Type}[Inhabited α](enc:α→Value)(h1:OneCell enc)(blk off cap:Nat)(zs:List α)(w:World)(hH:Holds enc w blk off zs.toArray)(hsz:zs.length≤9223372036854775807):
 Calls Tryz.prog 204 #[.slice (some ⟨blk,off,none⟩) zs.length cap] w fun e w'=>e = .returned (.tuple #[])∧∃n,w'=putRow enc (Sort.ahead w n) blk off zs.reverse.toArray:=AnyE.slices_Reverse Tryz.laysSlE35_f204 enc h1 blk off cap zs w hH hsz
open Go.RowKit Go.Lib Go.Sort in
theorem Tryz.slices_Reverse_empty_f204 {α:Type}[Inhabited α](a:Option Addr)(cap:Nat)(w:World):
 Calls Tryz.prog 204 #[.slice a 0 cap] w fun e w'=>e = .returned (.tuple #[])∧w'=w:=AnyE.slices_Reverse_empty Tryz.laysSlE35_f204 a cap w
end Go.Proofs
