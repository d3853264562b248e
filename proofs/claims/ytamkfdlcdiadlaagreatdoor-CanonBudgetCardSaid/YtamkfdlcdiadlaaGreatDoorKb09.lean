/- CompactFunc of expressions. -/
import Derived.Test.YtamkfdlcdiadlaaGreatDoorKb05
import Derived.Test.YtamkfdlcdiadlaaGreatDoorKb08
import Derived.Shelf.Strings.Builder1
import Derived.Shelf.Strings.Builder2
import Derived.Shelf.Strings.OnBuilder
import Derived.Shelf.Small.Bits
import Derived.Shelf.Strings.BuilderF
import Derived.Shelf.Strings.BuilderK
import Derived.Shelf.Strconv.Itoa0
import Derived.Shelf.Strconv.Itoa1
import Derived.Shelf.LaysM
import Derived.Shelf.Strconv.Itoa2
import Derived.Shelf.Strconv.Itoa3
import Derived.Ground.SlgnProg
import Derived.Shelf.SlicesE.Reverse
import Derived.Shelf.SlicesE.Compact
import Derived.Ground.SlgfProg
import Derived.Shelf.SlicesE.IndexFunc
import Derived.Shelf.SlicesE.DeleteFunc
import Derived.Ground.SlsfProg
import Derived.Shelf.SlSortCmp.Insertion
import Derived.Shelf.SlSortCmp.SiftDown1
import Derived.Shelf.SlSortCmp.HeapSort1
import Derived.Shelf.SlSortCmp.Insertion1
import Derived.Shelf.SlSortCmp.Median1
import Derived.Shelf.SlSortCmp.Pivot1
import Derived.Shelf.SlSortCmp.ReverseRange1
import Derived.Shelf.SlSortCmp.PartialInsertion1
import Derived.Shelf.SlSortCmp.PartitionEqual1
import Derived.Shelf.SlSortCmp.Partition1
import Derived.Shelf.SlSortCmp.Pdq1
import Derived.Shelf.SlSortCmp.Whole1
import Derived.Shelf.SlSortCmp.NoneTotal
import Derived.Test.YtamkfdlcdiadlaaGreatDoorProg
import Derived.Test.YtamkfdlcdiadlaaGreatDoorKb06
import Derived.Sort.Walk0
set_option linter.all false
namespace Go.Proofs.YtamkfdlcdiadlaaGreatDoor
open Go.RowKit
variable {H:Nat→Prop}
def keepC (o:Option (Nat × Pv.R))(x:Nat × Pv.R):Bool:=match o with
 | none=>true
 | some y => !Pv.same x.2 y.2
theorem keepC_at (ps:List (Nat × Pv.R))(k:Nat)(h0:k≠0)(h:k<ps.length):keepC (if k=0 then none else ps[k-1]?) ps[k] = !Pv.same ps[k].2 (ps[k-1]'(by omega)).2:=by rw[if_neg h0,List.getElem?_eq_getElem (by omega)];rfl
set_option maxRecDepth 20000 in
set_option maxHeartbeats 4000000 in
theorem compactf_any (ps:List (Nat × Pv.R))(base:Nat)(v:Value)(w:World)(h:ReRowX H base w v ps)(hb:base≤w.heap.size)(hl:ps.length<1099511627776):
  Calls Tryz.prog 165 #[v,.func (.func 60) #[] #[]] w fun e w'=>∃v',e = .returned v'∧v'.ownBlock=v.ownBlock∧ReRowX H base w' v' (keptGo keepC none ps)∧Ext (hideV v w) w'∧Below base w w':=by
 obtain⟨hrow,hps⟩:=h;have Hrow:=Hy hrow;have Hps:=Hy hps;clear hrow hps;by_cases hn2:ps.length<2
 ·obtain⟨a0,c0,rfl,hsl,hown⟩:=Hrow.out.form;have hkeep:keptGo keepC none ps=ps:=by
   match ps,hn2 with
   | [],_=>rfl
   | [x],_=>rfl
  have hn2':((vals ps).length:Int)<2:=by rw[List.length_map];omega
  have Hkeep:=Hy hkeep;clear hkeep hsl hown;go_enter Tryz.func165,Tryz.ntmps165;go_wp2_with fail;go_ret;refine⟨_,rfl,rfl,?_,Ext.unhideV _ _,Below.refl _ _⟩;rw[Hkeep.out];exact⟨Hrow.out,Hps.out⟩
 ·rcases Hrow.out.blk with⟨_,e⟩|⟨g,cap,cur,rfl,hg,hblk,hle,hmax,hsz,htk⟩
  ·have:ps=[]:=List.map_eq_nil_iff.1 e;subst this;simp at hn2
  ·rw[List.length_map]at hle htk;have Hblk:=Hy hblk;have Htk:=Hy htk;have Hsz:=Hy hsz;have hn2':¬((ps.length:Int)<2):=by omega
   clear hblk htk hsz;rw[List.length_map];have Hg:Hid (hideV (.slice (some ⟨g,0,none⟩) (vals ps).length cap) w=hide g w):=rfl;have HX:Hid (hideV (.slice (some ⟨g,0,none⟩) ps.length cap) w=hide g w):=rfl;go_enter Tryz.func165,Tryz.ntmps165;go_wp2_with fail
   go_loopw [5] (fun i wr=>∃(k:Nat),i = .int .i64 k∧0<k∧k≤ps.length∧Hid (keptGo keepC none (ps.take k)=ps.take k)∧Hid (wr.heap[g]?=some (.cells cur 59)) ∧
    Hid (Ext (hide g w) wr)∧Hid (Below base w wr)) (fun i _=>(ps.length-intOf i).toNat)
   case atStart=>
    refine⟨1,rfl,by omega,by omega,?_,Hblk.out,Ext.unhide _ _,Below.refl _ _⟩
    match ps with
    | []=>rfl
    | _::_=>rfl
   case round=>
    obtain⟨k,rfl,hk0,hk,HK,HB,HE,HW1⟩:=hrel;by_cases hlt:k<ps.length
    ·have hcur:∀i (h:i<ps.length),cur[i]?=some (Ptr ps[i].1):=fun i h=>by
      have:(cur.toList.take ps.length)[i]?=some (Ptr ps[i].1):=by rw[Htk.out];simp[h]
      rw[List.getElem?_take,if_pos h]at this;simpa using this
     have hck:=cB HB.out (hcur k hlt);have hck1:=cB HB.out (hcur (k-1) (by omega));have hat:=(Hps.out ps[k] (List.getElem_mem hlt)).ext HE.out;have hat1:=(Hps.out (ps[k-1]'(by omega)) (List.getElem_mem _)).ext HE.out;have hcall:=fun W' (hE:Ext wr W')=>same_any ps[k].2 (ps[k-1]'(by omega)).2 ps[k].1 (ps[k-1]'(by omega)).1 W' (hat.ext hE) (hat1.ext hE)
     have hkt:=keptGo_take keepC ps k hlt;rw[keepC_at ps k (by omega) hlt]at hkt;have hpk:∃q,Pv.same ps[k].2 (ps[k-1]'(by omega)).2=q:=⟨_,rfl⟩
     obtain⟨q,hpk⟩:=hpk;simp only[hpk]at hcall hkt;have Hkeep:=Hy (show keepC (if k=0 then none else ps[k-1]?) ps[k] = !q by rw[keepC_at ps k (by omega) hlt,hpk]);have hlt':(k:Int)<ps.length:=by omega
     have hk41:(k:Int)<1099511627776:=by omega
     have hk42:(0:Int)<k:=by omega
     have hk1:(k:Int)-1=((k-1:Nat):Int):=by omega
     have hk43:((k-1:Nat):Int)<ps.length:=by omega
     have hk44:((k-1:Nat):Int)<1099511627776:=by omega
     have hk45:(0:Int)≤((k-1:Nat):Int):=by omega
     have hk46:IntKind.i64.wrap ((k-1:Nat):Int)=((k-1:Nat):Int):=by rw[IntKind.wrap_i64];omega
     have Hcall:=Hy hcall;have Hkt:=Hy hkt;clear hcall hkt hpk hat hat1 hcur;generalize hbb:ps[k].1=bb at *;generalize hbc:(ps[k-1]'(by omega)).1=bc at *;clear hbb hbc;go_wp2_with fail;refine Eag.region (.mov 0 (.mov 1 (.mov 2 (.mov 3 (.mov 4 (.mov 5 (.mov 6 (.mov 7 (.mov 8 (.mov 9 (.anc 10 Eag.Sch.fin))))))))))) [] (by kernel_rfl) (by kernel_rfl) (fun K ops hops hK => ?_);iterate 10
      refine Eag.mov hops rfl rfl (fun w' hb => ?_) ?_
      ·have q0:=later hb hck;have q1:=later hb hck1;clear hb;go_simp
      go_simp
     refine Eag.anc hops rfl rfl ?_;go_wp2_with fail;refine(Hcall.out wr.drew ⟨Nat.le_refl _,fun _ _ _ _ h _=>h⟩).mono ?_;rintro e w' ⟨rfl,rfl⟩;refine⟨Below.refl _ _,?_⟩;refine Eag.fin (hK _ _ ?_);clear hK;cases q
     ·go_wp2_with fail;go_roundw
      case rel=>
       refine⟨k+1,by go_num,by omega,by omega,?_,HB.out,HE.out.drew_,HW1.out.drew⟩;rw[Hkt.out,HK.out,List.take_succ_eq_append_getElem hlt];rfl
      case measure=>simp[intOf];omega
     ·have hI0:=((Inp.start (keep:=keepC) Hsz.out hle Htk.out hk HK.out).skip hlt Hkeep.out)
      have HI0:=Hy hI0;have hprev0:∀h:k<ps.length,cur[k]?=some (Ptr (ps[k]'h).1):=fun h=>by
       have:(cur.toList.take ps.length)[k]?=some (Ptr (ps[k]'h).1):=by rw[Htk.out];simp[h]
       rw[List.getElem?_take,if_pos h]at this;simpa using this
      have Hprev0:=Hy hprev0;clear hI0 hprev0 hck hck1 Hkt Hcall HK;have hk47:(k:Int)≤ps.length:=by omega
      have hk48:k≤ps.length:=hk;clear hk1 hk43 hk44 hk45 hk46;go_wp2_with fail;go_loopw [5,7] (fun i m wr=>∃(ni nm:Nat) (cur:Array Value),i = .int .i64 ni∧m = .int .i64 nm∧0<nm∧ni<k+nm∧Hid (Inp keepC ps cap cur ni (k+nm))∧Hid (∀h:k+nm-1<ps.length,cur[k+nm-1]?=some (Ptr (ps[k+nm-1]'h).1)) ∧
       Hid (wr.heap[g]?=some (.cells cur 59))∧Hid (Ext (hide g w) wr)∧Hid (Below base w wr)) (fun _ m _=>(ps.length-intOf m).toNat)
      case atStart=>
       exact⟨k,1,cur,rfl,rfl,by omega,by omega,HI0.out,Hprev0.out,HB.out,HE.out.drew_,HW1.out.drew⟩
      case round=>
       clear HB HE HW1 Htk Hsz Hblk;obtain⟨ni,nm,cur,rfl,rfl,hm0,him,HI,HP,HB,HE,HW1⟩:=hrel;by_cases hlt2:k+nm<ps.length
       ·have hcj:=cB HB.out (HI.out.high (k+nm) (Nat.le_refl _) hlt2);have hcj1:=cB HB.out (HP.out (by omega));obtain⟨ci,hci⟩:∃ci,cur[ni]?=some ci:=⟨cur[ni]'(by have:=HI.out.size;omega),Array.getElem?_eq_getElem _⟩
        have hci1:=cB HB.out hci;have hfi:=fob (o:=ni) HB.out;have hat:=(Hps.out ps[k+nm] (List.getElem_mem hlt2)).ext HE.out;have hat1:=(Hps.out (ps[k+nm-1]'(by omega)) (List.getElem_mem _)).ext HE.out;have hcall:=fun W' (hE:Ext wr W')=>same_any ps[k+nm].2 (ps[k+nm-1]'(by omega)).2 ps[k+nm].1 (ps[k+nm-1]'(by omega)).1 W' (hat.ext hE) (hat1.ext hE)
        have hpk:∃q,Pv.same ps[k+nm].2 (ps[k+nm-1]'(by omega)).2=q:=⟨_,rfl⟩
        obtain⟨q,hpk⟩:=hpk;simp only[hpk]at hcall;have Hkeep2:=Hy (show keepC (if k+nm=0 then none else ps[k+nm-1]?) ps[k+nm] = !q by rw[keepC_at ps (k+nm) (by omega) hlt2,hpk]);have Hcall:=Hy hcall;have hm41:(nm:Int)<((ps.length-k:Nat):Int):=by omega
        have hm42:(nm:Int)<1099511627776:=by omega
        have hm43:(0:Int)<nm:=by omega
        have hm1:(nm:Int)-1=((nm-1:Nat):Int):=by omega
        have hm44:((nm-1:Nat):Int)<((ps.length-k:Nat):Int):=by omega
        have hm46:IntKind.i64.wrap ((nm-1:Nat):Int)=((nm-1:Nat):Int):=by rw[IntKind.wrap_i64];omega
        have hi42:(ni:Int)<ps.length:=by omega
        have hi43:(ni:Int)<1099511627776:=by omega
        have hprev2:cur[k+nm]?=some (Ptr ps[k+nm].1):=HI.out.high (k+nm) (Nat.le_refl _) hlt2;have Hprev2:=Hy hprev2;clear hcall hpk hat hat1 hci hprev2;generalize hbb:ps[k+nm].1=bb at *;generalize hbc:(ps[k+nm-1]'(by omega)).1=bc at *;have Hbb:=Hy hbb;clear hbb hbc;rw[show k+nm-1=k+(nm-1) by omega]at hcj1;go_wp2_with fail
        refine Eag.region (.mov 0 (.mov 1 (.mov 2 (.mov 3 (.mov 4 (.mov 5 (.mov 6 (.mov 7 (.mov 8 (.mov 9 (.anc 10 (.mov 11 Eag.Sch.fin)))))))))))) [] (by kernel_rfl) (by kernel_rfl) (fun K ops hops hK => ?_);iterate 10
         refine Eag.mov hops rfl rfl (fun w' hb => ?_) ?_
         ·have q0:=later hb hcj;have q1:=later hb hcj1;clear hb;go_simp
         go_simp
        refine Eag.anc hops rfl rfl ?_;go_wp2_with fail;refine(Hcall.out wr.drew ⟨Nat.le_refl _,fun _ _ _ _ h _=>h⟩).mono ?_;rintro e w' ⟨rfl,rfl⟩;refine⟨Below.refl _ _,?_⟩;iterate 1
         refine Eag.mov hops rfl rfl (fun w' hb => ?_) ?_
         ·have q0:=later hb hcj;clear hb;go_simp
         go_simp
        refine Eag.fin (hK _ _ ?_);clear hK hops hm1 hm44 hm46 hcj1;cases q
        ·go_simp;go_wp2_with fail;go_roundw
         case rel=>
          have hI2:=HI.out.keep hle hlt2 Hkeep2.out;rw[Hbb.out]at hI2;refine⟨ni+1,nm+1,cur.setIfInBounds ni (Ptr bb),by go_num,by go_num,by omega,by omega,hI2,fun h => ?_,blk_set (w:=wr) HB.out,HE.out.set.drew_,HW1.out.drew.setCell hg _⟩;rw[Array.getElem?_setIfInBounds_ne (by omega)];have:=Hprev2.out;rw[←Hbb.out]at this;exact this
         case measure=>simp[intOf];omega
        ·go_simp;go_wp2_with fail;go_roundw
         case rel=>
          refine⟨ni,nm+1,cur,rfl,by go_num,by omega,by omega,HI.out.skip hlt2 Hkeep2.out,fun h => ?_,HB.out,HE.out.drew_,HW1.out.drew⟩;have:=Hprev2.out;rw[←Hbb.out]at this;exact this
         case measure=>simp[intOf];omega
       ·have e:k+nm=ps.length:=by have:=HI.out.jn;omega
        have hcells:∀t,t<ps.length-ni→(wr.cell? ⟨g,0+ni+t,none⟩).isSome=true:=fun t ht=>by have h1:cur[0+ni+t]?=some (cur[0+ni+t]'(by have:=HI.out.size;omega)):=Array.getElem?_eq_getElem _;rw[cB HB.out h1];rfl
        have hfr:∀t,t<ps.length-ni→wr.frozen? ⟨g,0+ni+t,none⟩=false:=fun t _=>fob HB.out
        have hcl:=fun ty=>Lib.run_clear_slice wr 101 59 ty (.pointer none) Tryz.underlying101 (Tryz.zeroValue59) rfl rfl g (0+ni) (ps.length-ni) (cap-ni) (by omega) hcells hfr
        rw[Nat.zero_add]at hcl;have Hcl:=Hy hcl;clear hcells hfr hcl;have hi42:(ni:Int)≤ps.length:=by omega
        have hm49:¬((nm:Int)<((ps.length-k:Nat):Int)):=by omega
        go_wp2_with fail;rw[Hcl.out];go_simp;go_wp2_with fail;go_ret;obtain⟨cur',h1,h2,h3⟩:=setCells_blk (List.replicate (ps.length-ni) (.pointer none)) ni wr cur HB.out;have hlen:=HI.out.len;have hlow:=HI.out.low;rw[e,List.take_length]at hlen hlow;have hlv:(vals (keptGo keepC none ps)).length=ni:=by rw[List.length_map];exact hlen
        refine⟨_,rfl,rfl,⟨?_,?_⟩,?_,setCells_below hg _ _ _ _ HW1.out⟩
        ·have:=Row.of_cells (xs:=vals (keptGo keepC none ps)) hg h1 (by rw[hlv];omega) hmax (by rw[h2];exact HI.out.size) (by
          rw[hlv,←hlow];apply List.ext_getElem?;intro k;rw[List.getElem?_take,List.getElem?_take];split
          ·have:=h3 k (by omega);simpa using this
          ·rfl)
         rw[hlv]at this;exact this
        ·have hE2:Ext (hide g w) (hide g (wr.setCells g ni (List.replicate (ps.length-ni) (.pointer none)))):=(ext_setCells HE.out).hide_;intro x hx;exact(Hps.out x (keptGo_sub _ _ _ x hx)).ext hE2
        ·exact ext_setCells HE.out
    ·have e:k=ps.length:=by omega
     subst e;go_wp2_with fail;go_ret;have hk:=HK.out;rw[List.take_length]at hk;refine⟨_,rfl,rfl,?_,HE.out,HW1.out⟩;rw[hk];refine⟨?_,Hps.out.ext HE.out.hide_⟩;have:=Row.of_cells (xs:=vals ps) hg HB.out (by rw[List.length_map];omega) hmax Hsz.out (by rw[List.length_map];exact Htk.out);rw[List.length_map]at this;exact this
end Go.Proofs.YtamkfdlcdiadlaaGreatDoor
namespace Go.Proofs
open Go.Shelf
def Tryz.laysSlE35_f84_ren:Go.Shelf.Ren:=⟨fun|35=>84|n=>n,fun|22=>101|23=>59|3=>3|4=>4|0=>0|n=>n,fun|n=>n⟩
theorem Tryz.laysSlE35_f84:Go.Proofs.SlLaysE.n35 Tryz.prog Tryz.laysSlE35_f84_ren:={
 mixed:=by kernel_rfl
 f35:=⟨Tryz.f84.name,by decide,Tryz.func84.trans (congrArg some (by kernel_rfl))⟩
 t0:=Tryz.underlying0
 a0:=Tryz.isAgg0
 z0:=Tryz.sizeOf0
 v0:=Tryz.zeroValue0
 t3:=Tryz.underlying3
 a3:=Tryz.isAgg3
 z3:=Tryz.sizeOf3
 v3:=Tryz.zeroValue3
 t4:=Tryz.underlying4
 a4:=Tryz.isAgg4
 z4:=Tryz.sizeOf4
 v4:=Tryz.zeroValue4
 t22:=Tryz.underlying101
 a22:=Tryz.isAgg101
 z22:=Tryz.sizeOf101
 v22:=Tryz.zeroValue101
 a23:=Tryz.isAgg59
 z23:=Tryz.sizeOf59 }
open Go.RowKit Go.Lib Go.Sort in
theorem Tryz.slices_Reverse_f84 {α:Type}[Inhabited α](enc:α→Value)(h1:OneCell enc)(blk off cap:Nat)(zs:List α)(w:World)(hH:Holds enc w blk off zs.toArray)(hsz:zs.length≤9223372036854775807):
 Calls Tryz.prog 84 #[.slice (some ⟨blk,off,none⟩) zs.length cap] w fun e w'=>e = .returned (.tuple #[])∧∃n,w'=putRow enc (Sort.ahead w n) blk off zs.reverse.toArray:=AnyE.slices_Reverse Tryz.laysSlE35_f84 enc h1 blk off cap zs w hH hsz
def Tryz.laysSlF6_f162_ren:Go.Shelf.Ren:=⟨fun|6=>162|15=>195|14=>194|28=>223|29=>207|20=>215|21=>216|22=>217|23=>218|24=>219|25=>220|26=>221|27=>222|46=>236|47=>237|48=>238|49=>239|50=>240|57=>247|n=>n,fun|22=>101|24=>59|25=>246|3=>3|39=>95|0=>0|53=>195|55=>85|4=>4|46=>309|45=>308|50=>29|5=>5|9=>9|66=>322|70=>28|76=>331|77=>332|n=>n,fun|n=>n⟩
theorem Tryz.laysSlF6_f162:Go.Proofs.SlLaysF.n6 Tryz.prog Tryz.laysSlF6_f162_ren:={
 mixed:=by kernel_rfl
 f6:=⟨Tryz.f162.name,by decide,Tryz.func162.trans (congrArg some (by kernel_rfl))⟩
 f14:=⟨Tryz.f194.name,by decide,Tryz.func194.trans (congrArg some (by kernel_rfl))⟩
 f15:=Tryz.func195.trans (congrArg some (by kernel_rfl))
 f20:=⟨Tryz.f215.name,by decide,Tryz.func215.trans (congrArg some (by kernel_rfl))⟩
 f21:=⟨Tryz.f216.name,by decide,Tryz.func216.trans (congrArg some (by kernel_rfl))⟩
 f22:=⟨Tryz.f217.name,by decide,Tryz.func217.trans (congrArg some (by kernel_rfl))⟩
 f23:=⟨Tryz.f218.name,by decide,Tryz.func218.trans (congrArg some (by kernel_rfl))⟩
 f24:=⟨Tryz.f219.name,by decide,Tryz.func219.trans (congrArg some (by kernel_rfl))⟩
 f25:=⟨Tryz.f220.name,by decide,Tryz.func220.trans (congrArg some (by kernel_rfl))⟩
 f26:=⟨Tryz.f221.name,by decide,Tryz.func221.trans (congrArg some (by kernel_rfl))⟩
 f27:=⟨Tryz.f222.name,by decide,Tryz.func222.trans (congrArg some (by kernel_rfl))⟩
 f28:=Tryz.func223.trans (congrArg some (by kernel_rfl))
 f29:=Tryz.func207.trans (congrArg some (by kernel_rfl))
 f46:=⟨Tryz.f236.name,by decide,Tryz.func236.trans (congrArg some (by kernel_rfl))⟩
 f47:=Tryz.func237.trans (congrArg some (by kernel_rfl))
 f48:=Tryz.func238.trans (congrArg some (by kernel_rfl))
 f49:=⟨Tryz.f239.name,by decide,Tryz.func239.trans (congrArg some (by kernel_rfl))⟩
 f50:=⟨Tryz.f240.name,by decide,Tryz.func240.trans (congrArg some (by kernel_rfl))⟩
 f57:=⟨Tryz.f247.name,by decide,Tryz.func247.trans (congrArg some (by kernel_rfl))⟩
 t0:=Tryz.underlying0
 a0:=Tryz.isAgg0
 z0:=Tryz.sizeOf0
 v0:=Tryz.zeroValue0
 t3:=Tryz.underlying3
 a3:=Tryz.isAgg3
 z3:=Tryz.sizeOf3
 v3:=Tryz.zeroValue3
 t4:=Tryz.underlying4
 a4:=Tryz.isAgg4
 z4:=Tryz.sizeOf4
 v4:=Tryz.zeroValue4
 t5:=Tryz.underlying5
 a5:=Tryz.isAgg5
 z5:=Tryz.sizeOf5
 v5:=Tryz.zeroValue5
 t9:=Tryz.underlying9
 a9:=Tryz.isAgg9
 z9:=Tryz.sizeOf9
 v9:=Tryz.zeroValue9
 t22:=Tryz.underlying101
 a22:=Tryz.isAgg101
 z22:=Tryz.sizeOf101
 v22:=Tryz.zeroValue101
 a24:=Tryz.isAgg59
 z24:=Tryz.sizeOf59
 t25:=Tryz.underlying246
 a25:=Tryz.isAgg246
 z25:=Tryz.sizeOf246
 v25:=Tryz.zeroValue246
 t39:=Tryz.underlying95
 a39:=Tryz.isAgg95
 z39:=Tryz.sizeOf95
 v39:=Tryz.zeroValue95
 t45:=Tryz.underlying308
 a45:=Tryz.isAgg308
 z45:=Tryz.sizeOf308
 v45:=Tryz.zeroValue308
 t46:=Tryz.underlying309
 a46:=Tryz.isAgg309
 z46:=Tryz.sizeOf309
 v46:=Tryz.zeroValue309
 t50:=Tryz.underlying29
 a50:=Tryz.isAgg29
 z50:=Tryz.sizeOf29
 v50:=Tryz.zeroValue29
 t53:=Tryz.underlying195
 a53:=Tryz.isAgg195
 z53:=Tryz.sizeOf195
 v53:=Tryz.zeroValue195
 t55:=Tryz.underlying85
 a55:=Tryz.isAgg85
 z55:=Tryz.sizeOf85
 v55:=Tryz.zeroValue85
 t66:=Tryz.underlying322
 a66:=Tryz.isAgg322
 z66:=Tryz.sizeOf322
 v66:=Tryz.zeroValue322
 t70:=Tryz.underlying28
 a70:=Tryz.isAgg28
 z70:=Tryz.sizeOf28
 v70:=Tryz.zeroValue28
 t76:=Tryz.underlying331
 a76:=Tryz.isAgg331
 z76:=Tryz.sizeOf331
 v76:=Tryz.zeroValue331
 t77:=Tryz.underlying332
 a77:=Tryz.isAgg332
 z77:=Tryz.sizeOf332
 v77:=Tryz.zeroValue332 }
open Go.RowKit Go.Lib Go.Sort in
theorem Tryz.slices_SortFunc {α:Type}[Inhabited α](enc:α→Value)(h1:OneCell enc)(cf:α→α→Int)(hO:SWO (ltOf cf))(g:Nat)(cb:Array Value)(blk off cap:Nat)(d:Array α)(w:World)(eg:∀args w,(callFunc g args).run Tryz.prog w = .ok (.enter g args) w)(hcmp:CmpLays1 Tryz.prog g cb enc cf blk off d.size w)(hH:Holds enc w blk off d)(hblk:blk<w.heap.size)(hsz:d.size<4611686018427387904):
 Calls Tryz.prog 162 #[.slice (some ⟨blk,off,none⟩) d.size cap,.func (.func g) #[] cb] w fun e w'=>
  e = .returned (.tuple #[])∧∃d' n os,PermIn 0 d.size d d'∧SortedIn (ltOf cf) 0 d.size d'∧w'=sortWorld enc w blk off n d' os:=Any.slices_SortFunc Tryz.laysSlF6_f162 enc h1 cf hO g cb blk off cap d w eg hcmp hH hblk hsz
def Tryz.laysSlF06_f162_ren:Go.Shelf.Ren:=⟨fun|6=>162|15=>195|14=>194|28=>223|29=>207|20=>215|21=>216|22=>217|23=>218|24=>219|25=>220|26=>221|27=>222|46=>236|47=>237|48=>238|49=>239|50=>240|57=>247|n=>n,fun|22=>101|24=>59|25=>246|3=>3|39=>95|0=>0|53=>195|55=>85|4=>4|46=>309|45=>308|50=>29|5=>5|9=>9|66=>322|70=>28|76=>331|77=>332|n=>n,fun|n=>n⟩
theorem Tryz.laysSlF06_f162:Go.Proofs.SlLaysF0.n6 Tryz.prog Tryz.laysSlF06_f162_ren:={
 mixed:=by kernel_rfl
 f6:=⟨Tryz.f162.name,by decide,Tryz.func162.trans (congrArg some (by kernel_rfl))⟩
 f14:=⟨Tryz.f194.name,by decide,Tryz.func194.trans (congrArg some (by kernel_rfl))⟩
 f15:=Tryz.func195.trans (congrArg some (by kernel_rfl))
 f20:=⟨Tryz.f215.name,by decide,Tryz.func215.trans (congrArg some (by kernel_rfl))⟩
 f21:=⟨Tryz.f216.name,by decide,Tryz.func216.trans (congrArg some (by kernel_rfl))⟩
 f22:=⟨Tryz.f217.name,by decide,Tryz.func217.trans (congrArg some (by kernel_rfl))⟩
 f23:=⟨Tryz.f218.name,by decide,Tryz.func218.trans (congrArg some (by kernel_rfl))⟩
 f24:=⟨Tryz.f219.name,by decide,Tryz.func219.trans (congrArg some (by kernel_rfl))⟩
 f25:=⟨Tryz.f220.name,by decide,Tryz.func220.trans (congrArg some (by kernel_rfl))⟩
 f26:=⟨Tryz.f221.name,by decide,Tryz.func221.trans (congrArg some (by kernel_rfl))⟩
 f27:=⟨Tryz.f222.name,by decide,Tryz.func222.trans (congrArg some (by kernel_rfl))⟩
 f28:=Tryz.func223.trans (congrArg some (by kernel_rfl))
 f29:=Tryz.func207.trans (congrArg some (by kernel_rfl))
 f46:=⟨Tryz.f236.name,by decide,Tryz.func236.trans (congrArg some (by kernel_rfl))⟩
 f47:=Tryz.func237.trans (congrArg some (by kernel_rfl))
 f48:=Tryz.func238.trans (congrArg some (by kernel_rfl))
 f49:=⟨Tryz.f239.name,by decide,Tryz.func239.trans (congrArg some (by kernel_rfl))⟩
 f50:=⟨Tryz.f240.name,by decide,Tryz.func240.trans (congrArg some (by kernel_rfl))⟩
 f57:=⟨Tryz.f247.name,by decide,Tryz.func247.trans (congrArg some (by kernel_rfl))⟩
 t0:=Tryz.underlying0
 a0:=Tryz.isAgg0
 z0:=Tryz.sizeOf0
 v0:=Tryz.zeroValue0
 t3:=Tryz.underlying3
 a3:=Tryz.isAgg3
 z3:=Tryz.sizeOf3
 v3:=Tryz.zeroValue3
 t4:=Tryz.underlying4
 a4:=Tryz.isAgg4
 z4:=Tryz.sizeOf4
 v4:=Tryz.zeroValue4
 t5:=Tryz.underlying5
 a5:=Tryz.isAgg5
 z5:=Tryz.sizeOf5
 v5:=Tryz.zeroValue5
 t9:=Tryz.underlying9
 a9:=Tryz.isAgg9
 z9:=Tryz.sizeOf9
 v9:=Tryz.zeroValue9
 t22:=Tryz.underlying101
 a22:=Tryz.isAgg101
 z22:=Tryz.sizeOf101
 v22:=Tryz.zeroValue101
 t25:=Tryz.underlying246
 a25:=Tryz.isAgg246
 z25:=Tryz.sizeOf246
 v25:=Tryz.zeroValue246
 t39:=Tryz.underlying95
 a39:=Tryz.isAgg95
 z39:=Tryz.sizeOf95
 v39:=Tryz.zeroValue95
 t45:=Tryz.underlying308
 a45:=Tryz.isAgg308
 z45:=Tryz.sizeOf308
 v45:=Tryz.zeroValue308
 t46:=Tryz.underlying309
 a46:=Tryz.isAgg309
 z46:=Tryz.sizeOf309
 v46:=Tryz.zeroValue309
 t50:=Tryz.underlying29
 a50:=Tryz.isAgg29
 z50:=Tryz.sizeOf29
 v50:=Tryz.zeroValue29
 t53:=Tryz.underlying195
 a53:=Tryz.isAgg195
 z53:=Tryz.sizeOf195
 v53:=Tryz.zeroValue195
 t55:=Tryz.underlying85
 a55:=Tryz.isAgg85
 z55:=Tryz.sizeOf85
 v55:=Tryz.zeroValue85
 t66:=Tryz.underlying322
 a66:=Tryz.isAgg322
 z66:=Tryz.sizeOf322
 v66:=Tryz.zeroValue322
 t70:=Tryz.underlying28
 a70:=Tryz.isAgg28
 z70:=Tryz.sizeOf28
 v70:=Tryz.zeroValue28
 t76:=Tryz.underlying331
 a76:=Tryz.isAgg331
 z76:=Tryz.sizeOf331
 v76:=Tryz.zeroValue331
 t77:=Tryz.underlying332
 a77:=Tryz.isAgg332
 z77:=Tryz.sizeOf332
 v77:=Tryz.zeroValue332 }
open Go.RowKit Go.Lib Go.Sort in
theorem Tryz.slices_SortFunc_none {α:Type}[Inhabited α](p:Option Addr)(cap:Nat)(fv:Value)(w:World):
 Calls Tryz.prog 162 #[.slice p 0 cap,fv] w fun e w'=>e = .returned (.tuple #[])∧w'=w:=AnyF.slices_SortFunc_none Tryz.laysSlF06_f162 p cap fv w
end Go.Proofs
namespace Go.Proofs.YtamkfdlcdiadlaaGreatDoor
open Go.RowKit
variable {H:Nat→Prop}
theorem keyLt_eq:∀x y:List UInt8,Pv.keyLt x y=decide (x<y)
 | [],[]=>by simp[Pv.keyLt]
 | [],_::_=>by simp[Pv.keyLt]
 | _::_,[]=>by simp[Pv.keyLt]
 | a::x,b::y=>by
   rw[Pv.keyLt,keyLt_eq x y];by_cases h1:a<b
   ·rw[if_pos h1];symm;simp[List.cons_lt_cons_iff,h1]
   ·rw[if_neg h1];by_cases h2:b<a
    ·rw[if_pos h2];symm;have:a≠b:=fun e=>by subst e;exact h1 h2
     simp[List.cons_lt_cons_iff,h1,this]
    ·rw[if_neg h2];have e:a=b:=UInt8.le_antisymm (UInt8.not_lt.1 h2) (UInt8.not_lt.1 h1);subst e;simp[List.cons_lt_cons_iff]
def cmpK (a b:List UInt8):Int:=if Pv.keyLt a b then -1 else if Pv.keyLt b a then 1 else 0
theorem isNaN_any (a:List UInt8)(w:World):Pure 196 #[Str a] w (.bool false):=by go_enter Tryz.func196,Tryz.ntmps196;go_wp2_with fail;go_ret;exact⟨by simp,rfl⟩
set_option maxHeartbeats 1000000 in
theorem cmp_any (a b:List UInt8)(w:World):Pure 164 #[Str a,Str b] w (.int .i64 (cmpK a b)):=by
 have hlt:Op.bytesLess a b=Pv.keyLt a b:=by rw[keyLt_eq,bytesLess_eq]
 have hgt:(!Op.bytesLess a b && !(a==b))=(!Pv.keyLt a b&&Pv.keyLt b a):=by
  rw[hlt,keyLt_eq,keyLt_eq];by_cases h:a<b
  ·simp[h]
  ·by_cases h2:b<a
   ·have:a≠b:=fun e=>by subst e;exact h h2
    simp[h,h2,this]
   ·have:a=b:=List.le_antisymm (List.not_lt.1 h2) (List.not_lt.1 h);simp[h,h2,this]
 go_enter Tryz.func164,Tryz.ntmps164;go_wp2_with fail;refine(isNaN_any _ _).mono ?_;rintro e w' ⟨rfl,rfl⟩;go_wp2_with fail;refine(isNaN_any _ _).mono ?_;rintro e w' ⟨rfl,rfl⟩;go_wp2_with fail
 ·go_ret;rename_i h;exact⟨by simp[cmpK,h],rfl⟩
 ·rename_i h _ _ _ _ _ _;have e:binOp .gtr 9 (Str a) (Str b)=pure (.bool (Pv.keyLt b a)):=by rw[h]at hgt;simp at hgt;simp[binOp,Op.stringOp,hgt]
  rw[e];cases h2:Pv.keyLt b a
  ·go_simp;go_wp2_with fail;go_ret;exact⟨by simp[cmpK,h,h2],rfl⟩
  ·go_simp;go_wp2_with fail;go_ret;exact⟨by simp[cmpK,h,h2],rfl⟩
set_option maxHeartbeats 1000000 in
theorem cmpf_any (r q:Pv.R)(b d:Nat)(w:World)(h:ReAt H w r b)(h2:ReAt H w q d):Calls Tryz.prog 163 #[Ptr b,Ptr d] w fun e w'=>e = .returned (.int .i64 (cmpK (Pv.key r) (Pv.key q)))∧∃k,w'=w.drewN k:=by
 obtain⟨_,_,_,_,_,_,_,_,_,_,h7,_⟩:=h.cells;obtain⟨_,_,_,_,_,_,_,_,_,_,h17,_⟩:=h2.cells;go_enter Tryz.func163,Tryz.ntmps163;go_wp2_with fail;refine Eag.region (.mov 0 (.mov 1 (.mov 2 (.mov 3 (.mov 4 (.mov 5 (.mov 6 (.mov 7 (.anc 8 (.mov 9 Eag.Sch.fin)))))))))) [] (by kernel_rfl) (by kernel_rfl) (fun K ops hops hK => ?_);iterate 8
  refine Eag.mov hops rfl rfl (fun w' hb => ?_) ?_
  ·have q0:=later hb h7;have q1:=later hb h17;clear hb;go_simp
  go_simp
 refine Eag.anc hops rfl rfl ?_;go_wp2_with fail;refine(cmp_any _ _ _).mono ?_;rintro e w' ⟨rfl,rfl⟩;refine⟨Below.refl _ _,?_⟩;iterate 1
  refine Eag.mov hops rfl rfl (fun w' hb => ?_) ?_
  ·have q0:=later hb h7;clear hb;go_simp
  go_simp
 refine Eag.fin (hK _ _ ?_);clear hK;go_wp2_with fail;go_ret;exact⟨rfl,1,rfl⟩
open Go.Sort Go.Lib in
theorem sw_blk {α:Type}[Inhabited α](enc:α→Value)(w:World)(g m:Nat)(dk:Array α)(os:Array Obj){cur:Array Value}{t:TypeId}(h:w.heap[g]?=some (.cells cur t)):
  (sortWorld enc w g 0 m dk os).heap[g]?=some (.cells (putCells enc 0 dk cur) t):=by
 unfold sortWorld;rw[heap_grow_old _ _ (by show g<(putRow enc (Sort.ahead w m) g 0 dk).heap.size;rw[size_putRow];exact blk_lt h)];show(w.heap.modify g _)[g]?=_;rw[Array.getElem?_modify,if_pos rfl,h];rfl
open Go.Sort Go.Lib in
theorem sw_ne {α:Type}[Inhabited α](enc:α→Value)(w:World)(g m:Nat)(dk:Array α)(os:Array Obj){b:Nat}(hb:b<w.heap.size)(hn:b≠g):(sortWorld enc w g 0 m dk os).heap[b]?=w.heap[b]?:=by unfold sortWorld;rw[heap_grow_old _ _ (by show b<(putRow enc (Sort.ahead w m) g 0 dk).heap.size;rw[size_putRow];exact hb)];show(w.heap.modify g _)[b]?=_;rw[Array.getElem?_modify,if_neg (Ne.symm hn)]
open Go.Sort Go.Lib in
theorem sw_below {α:Type}[Inhabited α](enc:α→Value)(w:World)(base g m:Nat)(dk:Array α)(os:Array Obj)(hg:base≤g)(hs:g<w.heap.size):Below base w (sortWorld enc w g 0 m dk os) where
 os:=rfl
 tape:=rfl
 output:=rfl
 size:=by show w.heap.size≤((putRow enc (Sort.ahead w m) g 0 dk).heap++os).size;rw[Array.size_append,size_putRow];show w.heap.size≤w.heap.size+_;omega
 block:=fun k hk=>sw_ne enc w g m dk os (by omega) (by omega)
open Go.Sort Go.Lib in
theorem sw_ext {α:Type}[Inhabited α](enc:α→Value)(w:World)(g m:Nat)(dk:Array α)(os:Array Obj):Ext (hide g w) (sortWorld enc w g 0 m dk os):=⟨by
 rw[hide_size];show w.heap.size≤((putRow enc (Sort.ahead w m) g 0 dk).heap++os).size;rw[Array.size_append,size_putRow];show w.heap.size≤w.heap.size+_;omega,fun b cs t fr q hp=>by
 obtain⟨h1,h2⟩:=hide_cells q hp;rw[sw_ne enc w g m dk os (blk_lt h2) h1];exact h2⟩
open Go.Sort Go.Lib in
theorem sw_row {α:Type}[Inhabited α](enc:α→Value){w:World}{base g m cap t:Nat}{dk:Array α}{os:Array Obj}{cur:Array Value}(h:w.heap[g]?=some (.cells cur t))(hg:base≤g)(hc:cur.size=cap)(hd:dk.size≤cap)(hm:cap≤maxLen):
  Row base t (sortWorld enc w g 0 m dk os) (.slice (some ⟨g,0,none⟩) dk.size cap) (dk.toList.map enc):=by
 have:=Row.of_cells (base:=base) (e:=t) (w:=sortWorld enc w g 0 m dk os) (xs:=dk.toList.map enc) hg (sw_blk enc w g m dk os h) (by simpa using hd) hm (by unfold putCells;simpa using hc) (by
  apply List.ext_getElem?;intro k;rw[List.getElem?_take];by_cases hk:k<dk.size
  ·rw[if_pos (by simpa using hk)];have hk2:k<cur.size:=by omega
   unfold putCells;simp[hk,hk2]
  ·rw[if_neg (by simpa using hk),List.getElem?_map,List.getElem?_eq_none (by simpa using hk)];rfl)
 simpa using this
theorem cmpK_lt (a b:List UInt8):decide (cmpK a b<0)=decide (a<b):=by
 unfold cmpK;rw[keyLt_eq,keyLt_eq];by_cases h:a<b
 ·simp[h]
 ·by_cases h2:b<a<;>simp[h,h2]
theorem swo_key {α:Type}(f:α→List UInt8):Go.Sort.SWO (Go.Proofs.ltOf fun x y=>cmpK (f x) (f y)) where
 irrefl x:=by unfold ltOf;rw[cmpK_lt];simp
 trans x y z h1 h2:=by unfold ltOf at *;rw[cmpK_lt]at *;simp at *;exact List.lt_trans h1 h2
 ntrans x y z h1 h2:=by unfold ltOf at *;rw[cmpK_lt]at *;simp at *;exact List.le_trans h2 h1
open Go.Sort Go.Lib in
theorem sortf_any (ps:List (Nat × Pv.R))(base:Nat)(v:Value)(w:World)(h:ReRowX H base w v ps)(hl:ps.length<1099511627776):
  Calls Tryz.prog 162 #[v,.func (.func 163) #[] #[]] w fun e w'=>e = .returned (.tuple #[])∧∃ps':List (Nat × Pv.R),ps'.Perm ps ∧
   ps'.Pairwise (fun x y=>¬Pv.key y.2<Pv.key x.2)∧ReRowX H base w' v ps'∧Ext (hideV v w) w'∧Below base w w':=by
 obtain⟨hrow,hps⟩:=h;rcases hrow.blk with⟨rfl,e⟩|⟨g,cap,cur,rfl,hg,hblk,hle,hmax,hsz,htk⟩
 ·have:ps=[]:=List.map_eq_nil_iff.1 e;subst this;refine(Tryz.slices_SortFunc_none (α:=Nat) none 0 _ w).mono ?_;rintro e w' ⟨rfl,rfl⟩;exact⟨rfl,[],List.Perm.refl _,List.Pairwise.nil,⟨hrow,hps⟩,Ext.unhideV _ _,Below.refl _ _⟩
 ·match ps,hl with
  | [],_=>
    refine(Tryz.slices_SortFunc_none (α:=Nat) (some ⟨g,0,none⟩) cap _ w).mono ?_;rintro e w' ⟨rfl,rfl⟩;exact⟨rfl,[],List.Perm.refl _,List.Pairwise.nil,⟨hrow,hps⟩,Ext.unhideV _ _,Below.refl _ _⟩
  | p0::pr,hl=>
    generalize hpp:p0::pr=ps at *;have h0:p0∈ps:=by rw[←hpp];simp
    have hidV:hideV (.slice (some ⟨g,0,none⟩) (vals ps).length cap) w=hide g w:=rfl;rw[hidV]at hps;rw[List.length_map]at hle htk;let α:={x:Nat × Pv.R // ReAt H (hide g w) x.2 x.1}
    have:Inhabited α:=⟨⟨p0,hps p0 h0⟩⟩
    let enc:α→Value:=fun x=>Ptr x.1.1
    let d:Array α:=(ps.attach.map fun x=>(⟨x.1,hps x.1 x.2⟩:α)).toArray;have hds:d.size=ps.length:=by simp[d]
    have hdl:∀j (h:j<ps.length),enc d[j]! = Ptr ps[j].1:=fun j h=>by rw[getElem!_pos d j (by omega)];simp[d,enc]
    have hH:Holds enc w g 0 d:=fun j hj=>by
     have hj':j<ps.length:=by omega
     rw[hdl j hj',Nat.zero_add];refine⟨cB hblk ?_,fob hblk⟩;have:(cur.toList.take ps.length)[j]?=some (Ptr ps[j].1):=by rw[htk];simp[hj']
     rw[List.getElem?_take,if_pos hj']at this;simpa using this
    have hcmp:CmpReads Tryz.prog 163 #[] enc (fun x y:α=>cmpK (Pv.key x.1.2) (Pv.key y.1.2)) g 0 d.size w:=fun m os dk _ x y=>by have hE:=sw_ext enc w g m dk os;exact cmpf_any x.1.2 y.1.2 x.1.1 y.1.1 _ (x.2.ext hE) (y.2.ext hE)
    have hcon:=Tryz.slices_SortFunc enc (fun _=>rfl) (fun x y:α=>cmpK (Pv.key x.1.2) (Pv.key y.1.2)) (swo_key fun x:α=>Pv.key x.1.2) 163 #[] g 0 cap d w
     (enters_of Tryz.func163 (by kernel_rfl) rfl) hcmp.lays hH (blk_lt hblk) (by omega)
    rw[hds]at hcon;rw[List.length_map];refine hcon.mono ?_;rintro e w' ⟨rfl,d',n,os,⟨hp1,_,hp2⟩,hs,rfl⟩;have hsz':d'.size=ps.length:=by omega
    have hdm:d.toList.map (·.1)=ps:=by simp[d,List.map_map,Function.comp_def];exact List.attach_map_subtype_val ps
    have hperm:(d'.toList.map (·.1)).Perm ps:=by
     rw[←hdm];refine List.Perm.map _ ?_;have e1:d'.extract 0 ps.length=d':=by rw[←hsz'];simp
     have e2:d.extract 0 ps.length=d:=by rw[←hds];simp
     rw[e1,e2]at hp2;exact hp2
    refine⟨rfl,d'.toList.map (·.1),hperm,?_,⟨?_,?_⟩,?_,sw_below enc w base g n d' os hg (blk_lt hblk)⟩
    ·rw[List.pairwise_iff_getElem];intro i j hi hj hij;have hi':i<d'.size:=by simpa using hi
     have hj':j<d'.size:=by simpa using hj
     have:=hs i j (by omega) hij (by omega);rw[getElem!_pos d' i hi',getElem!_pos d' j hj']at this;unfold ltOf at this;rw[cmpK_lt]at this;simpa using this
    ·have:=sw_row enc (m:=n) (os:=os) (dk:=d') hblk hg hsz (by omega) hmax;rw[hsz']at this;have e:vals (d'.toList.map (·.1))=d'.toList.map enc:=by simp[vals,enc,List.map_map,Function.comp_def]
     rw[e];exact this
    ·have hE:=(sw_ext enc w g n d' os).hide_;intro x hx;exact(hps x (hperm.mem_iff.1 hx)).ext hE
    ·exact sw_ext enc w g n d' os
end Go.Proofs.YtamkfdlcdiadlaaGreatDoor
