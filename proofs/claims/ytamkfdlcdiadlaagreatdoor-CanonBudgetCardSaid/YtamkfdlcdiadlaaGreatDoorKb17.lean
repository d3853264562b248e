/- The walk of part.Refine. -/
import Derived.Test.YtamkfdlcdiadlaaGreatDoorKb05
import Derived.Test.YtamkfdlcdiadlaaGreatDoorKb14
import Derived.Test.YtamkfdlcdiadlaaGreatDoorKb13
import Derived.Test.YtamkfdlcdiadlaaGreatDoorKb02
import Derived.Shelf.Spec.TrailingZeros
import Derived.Test.YtamkfdlcdiadlaaGreatDoorKb12
set_option linter.all false
namespace Go.Proofs.YtamkfdlcdiadlaaGreatDoor
open Go.RowKit
theorem RowK.base {base base' e k n:Nat}{w:World}{v:Value}{xs:List Value}(h:RowK base e k w v n xs)(hb:base'≤base):RowK base' e k w v n xs:=by
 obtain⟨h1,h2⟩:=h;refine⟨h1,?_⟩;rcases h2 with h2|⟨g,cap,cur,a,b,c⟩
 ·exact .inl h2
 ·exact .inr ⟨g,cap,cur,a,by omega,c⟩
def cut (s p:Pv.S4):List Pv.S4:=[p.and s,p.minus s].filter fun q => !q.isEmpty
theorem refineStep_take {parts:List Pv.S4}{s:Pv.S4}(j:Nat)(h:j<parts.length):Pv.refineStep (parts.take (j+1)) s=Pv.refineStep (parts.take j) s++cut s parts[j]:=by unfold Pv.refineStep;rw[List.take_succ_eq_append_getElem h,List.flatMap_append];simp[cut]
theorem SlS.of_blk2 {w:World}{g:Nat}{p q:Pv.S4}{t:TypeId}(h:w.heap[g]?=some (.cells #[W64 p.a,W64 p.b,W64 p.c,W64 p.d,W64 q.a,W64 q.b,W64 q.c,W64 q.d] t)):SlS w (some ⟨g,0,none⟩) 2 [p,q]:=
 ⟨by simp,(fun h=>by cases h),fun i hi=>⟨g,0,rfl,fun j hj=>by
  match i,hi,j,hj with
  | 0,_,0,_=>exact cB h rfl
  | 0,_,1,_=>exact cB h rfl
  | 0,_,2,_=>exact cB h rfl
  | 0,_,3,_=>exact cB h rfl
  | 1,_,0,_=>exact cB h rfl
  | 1,_,1,_=>exact cB h rfl
  | 1,_,2,_=>exact cB h rfl
  | 1,_,3,_=>exact cB h rfl⟩⟩
set_option maxRecDepth 20000 in
set_option maxHeartbeats 8000000 in
theorem refine_any (ss:List Pv.S4)(a:Option Addr)(c:Nat)(w:World)(h:SlS w a c ss)(hn:ss.length<1099511627776):
  Calls Tryz.prog 127 #[.slice a ss.length c] w fun e w'=>∃v,e = .returned v∧RowS w.heap.size w' v (Pv.refine ss)∧Below w.heap.size w w':=by
 have HS:=Hy h;clear h;go_enter Tryz.func127,Tryz.ntmps127;go_wp2_with fail;refine(all_any w).mono ?_;rintro e w1 ⟨rfl,hb1⟩;have hz1:=hb1.size;have HB1:=Hy hb1;clear hb1;go_wp2_with fail;go_loopw [3,15] (fun v i wr=>∃k:Nat,k≤ss.length∧i = .int .i64 k∧Hid (RowS w.heap.size wr v ((ss.take k).foldl Pv.refineStep [Pv.S4.all]))∧Hid (Below w.heap.size w wr)) (fun _ i _=>(ss.length-intOf i).toNat)
 case atStart=>
  exact⟨0,by omega,rfl,RowS.lit hz1 (blk_new rfl),(HB1.out.alloc hz1 _)⟩
 case round=>
  obtain⟨k,hk,rfl,HR,HB⟩:=hrel;by_cases hkn:k<ss.length
  ·obtain⟨blk,off,rfl,c0,c1,c2,c3⟩:=(HS.out.later HB.out).at_ k hkn;have hkn':(k:Int)<ss.length:=by omega
   have hk4:(k:Int)<1099511627776:=by omega
   have hl1:((ss.take (k+1)).foldl Pv.refineStep [Pv.S4.all]).length≤256:=Pv.parts_len _;have hl0:((ss.take k).foldl Pv.refineStep [Pv.S4.all]).length≤256:=Pv.parts_len _;have htk:(ss.take (k+1)).foldl Pv.refineStep [Pv.S4.all]=Pv.refineStep ((ss.take k).foldl Pv.refineStep [Pv.S4.all]) ss[k]:=by rw[List.take_succ_eq_append_getElem hkn,List.foldl_append];rfl
   rw[htk]at hl1;have HTK:=Hy htk;clear htk;generalize (ss.take k).foldl Pv.refineStep [Pv.S4.all]=parts at *;generalize ss[k]=s at *;obtain⟨sa,sb,sc,sd⟩:=s;simp only at c0 c1 c2 c3;obtain⟨a3,cc3,rfl,hsl3⟩:=HR.out.form;have HSL3:=Hy hsl3;have HL1:=Hy hl1;clear hsl3 hl1;go_wp2_with fail;clear c0 c1 c2 c3;obtain⟨W0,hW0⟩:∃W0,wr.alloc (.cells #[W64 sa,W64 sb,W64 sc,W64 sd] 87)=W0:=⟨_,rfl⟩
   have hB0:Below wr.heap.size wr W0:=by rw[←hW0];exact(Below.refl _ _).alloc (Nat.le_refl _) _
   have hs0:W0.heap[wr.heap.size]?=some (.cells (S4C ⟨sa,sb,sc,sd⟩) 87):=by rw[←hW0];exact blk_new rfl
   rw[hW0];have HS0:=Hy hs0;have HB0:=Hy (HB.out.trans (hB0.mono HB.out.size));have HSL0:=Hy (HSL3.out.later hB0);have HRp:Hid (RowS w.heap.size W0 (.slice a3 parts.length cc3) parts):=HR.out.later hB0;clear hB0 hs0 hW0
   go_loopw [6,21] (fun v i wj=>∃j:Nat,j≤parts.length∧i = .int .i64 j∧Hid (RowS W0.heap.size wj v (Pv.refineStep (parts.take j) ⟨sa,sb,sc,sd⟩))∧Hid (Below W0.heap.size W0 wj)) (fun _ i _=>(parts.length-intOf i).toNat)
   case atStart=>exact⟨0,by omega,rfl,RowS.nil _ _,Below.refl _ _⟩
   case round=>
    obtain⟨j,hj,rfl,HN,HV⟩:=hrel;by_cases hjn:j<parts.length
    ·have hj':(j:Int)<parts.length:=by omega
     have hj4:(j:Int)<1099511627776:=by omega
     obtain⟨blk3,off3,rfl,d0,d1,d2,d3⟩:=(HSL0.out.later HV.out).at_ j hjn;obtain⟨s0,s1,s2,s3⟩:=S4C_at (later_blk HV.out HS0.out);have hst:=Hy (refineStep_take (s:=⟨sa,sb,sc,sd⟩) j hjn);have hln:=Hy (Pv.step_take_len parts ⟨sa,sb,sc,sd⟩ (j+1));generalize parts[j]=p at *;obtain⟨pa,pb,pc,pd⟩:=p;simp only at d0 d1 d2 d3 s0 s1 s2 s3;go_wp2_with fail;clear d0 d1 d2 d3
     obtain⟨W1,hW1⟩:∃W1,wr.alloc (.cells #[W64 pa,W64 pb,W64 pc,W64 pd] 87)=W1:=⟨_,rfl⟩
     have hV1:Below wr.heap.size wr W1:=by rw[←hW1];exact(Below.refl _ _).alloc (Nat.le_refl _) _
     have hp1:W1.heap[wr.heap.size]?=some (.cells (S4C ⟨pa,pb,pc,pd⟩) 87):=by rw[←hW1];exact blk_new rfl
     rw[hW1];have r0:=later hV1 s0;have r1:=later hV1 s1;have r2:=later hV1 s2;have r3:=later hV1 s3;have HV1:=Hy (HV.out.trans (hV1.mono HV.out.size));have HN1:Hid (RowS W0.heap.size W1 u6 (Pv.refineStep (parts.take j) ⟨sa,sb,sc,sd⟩)):=HN.out.later hV1;obtain⟨q0,q1,q2,q3⟩:=S4C_at hp1;simp only at q0 q1 q2 q3;clear hV1 hp1 hW1 s0 s1 s2 s3
     refine Eag.region (.mov 0 (.mov 1 (.mov 3 (.mov 4 (.mov 8 (.anc 2 (.anc 5 (.anc 6 (.mov 7 Eag.Sch.fin))))))))) [] (by kernel_rfl) (by kernel_rfl) (fun K ops hops hK => ?_);iterate 5
      refine Eag.mov hops rfl rfl (fun w' hb => ?_) ?_
      ·have q0:=later hb q0;have q1:=later hb q1;have q2:=later hb q2;have q3:=later hb q3;have q4:=later hb r0;have q5:=later hb r1;have q6:=later hb r2;have q7:=later hb r3;clear hb;go_simp
      go_simp
     refine Eag.anc hops rfl rfl ?_;go_wp2_with fail;refine(and_any ⟨pa,pb,pc,pd⟩ ⟨sa,sb,sc,sd⟩ W1.drew).mono ?_;rintro e W2 ⟨rfl,hb2⟩;refine⟨hb2,?_⟩;have HV2:=Hy (HV1.out.drew.trans (hb2.mono (show W0.heap.size≤W1.drew.heap.size from HV1.out.size)));have HN2:Hid (RowS W0.heap.size W2 u6 (Pv.refineStep (parts.take j) ⟨sa,sb,sc,sd⟩)):=RowS.later (w:=W1.drew) HN1.out hb2;clear hb2;go_simp
     refine Eag.anc hops rfl rfl ?_;go_wp2_with fail;refine(minus_any ⟨pa,pb,pc,pd⟩ ⟨sa,sb,sc,sd⟩ W2).mono ?_;rintro e W3 ⟨rfl,hb3⟩;refine⟨hb3,?_⟩;have HV3:=Hy (HV2.out.trans (hb3.mono HV2.out.size));have HN3:Hid (RowS W0.heap.size W3 u6 (Pv.refineStep (parts.take j) ⟨sa,sb,sc,sd⟩)):=HN2.out.later hb3;clear hb3 q0 q1 q2 q3 r0 r1 r2 r3;have hst2:=hst.out;unfold cut at hst2;clear hst
     generalize hx:Pv.S4.and ⟨pa,pb,pc,pd⟩ ⟨sa,sb,sc,sd⟩=x at *;generalize hy:Pv.S4.minus ⟨pa,pb,pc,pd⟩ ⟨sa,sb,sc,sd⟩=y at *;have hst:=Hy hst2;clear hst2 hx hy;go_simp;refine Eag.anc hops rfl rfl ?_;go_wp2_with fail;refine⟨(Below.refl _ _).alloc (Nat.le_refl _) _,?_⟩;obtain⟨W4,hW4⟩:∃W4,W3.alloc (.cells #[W64 x.a,W64 x.b,W64 x.c,W64 x.d,W64 y.a,W64 y.b,W64 y.c,W64 y.d] 87)=W4:=⟨_,rfl⟩
     have hV4:Below W3.heap.size W3 W4:=by rw[←hW4];exact(Below.refl _ _).alloc (Nat.le_refl _) _
     have hl4:W4.heap[W3.heap.size]?=some (.cells #[W64 x.a,W64 x.b,W64 x.c,W64 x.d,W64 y.a,W64 y.b,W64 y.c,W64 y.d] 87):=by rw[←hW4];exact blk_new rfl
     rw[hW4];have hne4:Hid (u6.ownBlock≠some W3.heap.size):=fun e=>by have:=(RowK.lt HN3.out e).2;omega
     have HV4:=Hy (HV3.out.trans (hV4.mono HV3.out.size));have HN4:Hid (RowS W0.heap.size W4 u6 (Pv.refineStep (parts.take j) ⟨sa,sb,sc,sd⟩)):=HN3.out.later hV4;have HL4:=Hy hl4;have hlb:=HV3.out.size;clear hV4 hl4 hW4;iterate 1
      refine Eag.mov hops rfl rfl (fun w' hb => ?_) ?_
      ·clear hb;go_simp
      go_simp
     refine Eag.fin (hK _ _ ?_);clear hK hops;go_simp;go_wp2_with fail;go_loopw [6,33] (fun v i wj=>∃n:Nat,n≤2∧i = .int .i64 n∧Hid (RowS W0.heap.size wj v (Pv.refineStep (parts.take j) ⟨sa,sb,sc,sd⟩++([x,y].take n).filter fun q => !q.isEmpty))∧Hid (Below W0.heap.size W0 wj) ∧
      Hid (wj.heap[W3.heap.size]?=some (.cells #[W64 x.a,W64 x.b,W64 x.c,W64 x.d,W64 y.a,W64 y.b,W64 y.c,W64 y.d] 87))∧Hid (v.ownBlock≠some W3.heap.size)) (fun _ i _=>(2-intOf i).toNat)
     case atStart=>exact⟨0,by omega,rfl,(by show RowS _ _ _ _;simpa using HN4.out),HV4.out,HL4.out,hne4.out⟩
     case round=>
      obtain⟨n,hn2,rfl,HN5,HV5,HL5,HE5⟩:=hrel;by_cases hn3:n<2
      ·have hn4:(n:Int)<2:=by omega
       obtain⟨blk5,off5,e5,d0,d1,d2,d3⟩:=(SlS.of_blk2 HL5.out).at_ n (by simpa using hn3);injection e5 with e5
       injection e5 with e5 e6
       subst e5;subst e6;have htn:Hid (([x,y].take (n+1)).filter (fun q => !q.isEmpty)=([x,y].take n).filter (fun q => !q.isEmpty)++if([x,y][n]'(by simpa using hn3)).isEmpty then [] else [[x,y][n]'(by simpa using hn3)]):=by show _=_;rw[List.take_succ_eq_append_getElem (by simpa using hn3),List.filter_append];congr 1;cases hq:([x,y][n]'(by simpa using hn3)).isEmpty<;>simp[hq]
       have hle:(Pv.refineStep (parts.take j) ⟨sa,sb,sc,sd⟩++([x,y].take n).filter fun q => !q.isEmpty).length≤256:=by have h1:=HL1.out;have h2:=hln.out;have h3:=hst.out;rw[h3]at h2;have h4:(([x,y].take n).filter fun q => !q.isEmpty).length≤([x,y].filter fun q => !q.isEmpty).length:=((List.take_sublist n [x,y]).filter _).length_le;rw[List.length_append]at h2 ⊢;omega
       generalize hqq:[x,y][n]'(by simpa using hn3)=q at *;obtain⟨qa,qb,qc,qd⟩:=q;simp only[Nat.zero_add]at d0 d1 d2 d3;have HLE:=Hy hle;clear hqq hle;have hem:=empty_any ⟨qa,qb,qc,qd⟩ (wr.alloc (.cells #[W64 qa,W64 qb,W64 qc,W64 qd] 87));generalize hqe:(⟨qa,qb,qc,qd⟩:Pv.S4).isEmpty=qe at *;have Hem:=Hy hem;have HQE:=Hy hqe;clear hem hqe;go_wp2_with fail;clear d0 d1 d2 d3;refine Hem.out.mono ?_
       rintro e W6 ⟨rfl,hb6⟩;have hb6':Below wr.heap.size wr W6:=((Below.refl _ wr).alloc (Nat.le_refl _) _).trans (hb6.mono (by simp));have HN6:=Hy (HN5.out.later hb6');have HV6:=Hy (HV5.out.trans (hb6'.mono HV5.out.size));have HL6:=Hy (later_blk hb6' HL5.out);have hq6:=later_blk hb6 (blk_new (w:=wr) rfl);cases qe
       ·obtain⟨d0,d1,d2,d3⟩:=S4C_at (s:=⟨qa,qb,qc,qd⟩) hq6;simp only at d0 d1 d2 d3;clear hb6 hb6' hq6;go_wp2_with (at_builtin;refine app1S rfl _ _ rfl W0.heap.size _ _ rfl (HN6.out.later ((Below.refl _ W6).alloc (Nat.le_refl _) _)) W6.heap.size ⟨qa,qb,qc,qd⟩ rfl (blk_new rfl) (by have:=HLE.out;omega) (by have:=HV6.out.size;simp;omega) ?c2)
        case c2=>
         intro v7 w7 hr7 hb7 hg7 hm7;have A1:=Hy ((HV6.out.alloc HV6.out.size (.cells #[W64 qa,W64 qb,W64 qc,W64 qd] 87)).trans hb7);have A2:=Hy hr7;have hl6:=blk_lt HL6.out;have A3:=Hy ((hg7.block W3.heap.size (by simp;omega) (Ne.symm HE5.out)).trans ((blk_alloc.trans (if_neg (by omega))).trans HL6.out));have A4:Hid (v7.ownBlock≠some W3.heap.size):=by
          rcases hm7 with e|⟨g,e,hg⟩
          ·show _≠_;rw[e];exact HE5.out
          ·show _≠_;rw[e];intro e;injection e with e;simp at hg;omega
         clear hr7 hb7 hg7 hm7 hl6 d0 d1 d2 d3;go_wp2_with fail;go_roundw
         case rel=>
          refine⟨n+1,by omega,by go_num,?_,A1.out,A3.out,A4.out⟩;show RowS _ _ _ _;rw[htn.out];simpa using A2.out
         case measure=>simp[intOf];omega
       ·clear hb6 hb6' hq6;go_wp2_with fail;go_roundw
        case rel=>
         refine⟨n+1,by omega,by go_num,?_,HV6.out,HL6.out,HE5.out⟩;show RowS _ _ _ _;rw[htn.out];simpa using HN6.out
        case measure=>simp[intOf];omega
      ·have e:n=2:=by omega
       subst e;have HN7:=HN5.out;rw[show [x,y].take 2=[x,y] from rfl,←hst.out]at HN7;have HN8:=Hy HN7;clear HN7;go_wp2_with fail;go_roundw
       case rel=>exact⟨j+1,by omega,by go_num,HN8.out,HV5.out⟩
       case measure=>simp[intOf];omega
    ·have e:j=parts.length:=by omega
     subst e;have HN7:=HN.out;rw[List.take_length,←HTK.out]at HN7;have HN8:Hid (RowS w.heap.size wr u6 ((ss.take (k+1)).foldl Pv.refineStep [Pv.S4.all])):=RowK.base HN7 HB0.out.size;have HB8:=Hy (HB0.out.trans (HV.out.mono HB0.out.size));clear HN7;go_wp2_with fail;go_roundw
     case rel=>exact⟨k+1,by omega,by go_num,HN8.out,HB8.out⟩
     case measure=>simp[intOf];omega
  ·have e:k=ss.length:=by omega
   subst e;have HR2:=HR.out;have hl0:((ss.take ss.length).foldl Pv.refineStep [Pv.S4.all]).length≤256:=Pv.parts_len _;rw[List.take_length]at HR2 hl0;generalize hps:ss.foldl Pv.refineStep [Pv.S4.all]=parts at *;obtain⟨a3,cc3,rfl,hsl3⟩:=HR2.form;have hso:=sorted_any parts a3 cc3 wr hsl3 hl0;have HSO:=Hy hso;clear hso hsl3 HR2 HR;go_wp2_with fail;refine HSO.out.mono ?_;rintro e w2 ⟨v,rfl,hr,hb⟩
   go_wp2_with fail;go_ret;refine⟨v,rfl,?_,HB.out.trans (hb.mono HB.out.size)⟩;unfold Pv.refine;rw[hps];exact RowK.base hr HB.out.size
end Go.Proofs.YtamkfdlcdiadlaaGreatDoor
namespace Go.Proofs.YtamkfdlcdiadlaaGreatDoor
open Go.RowKit
def Tab (w:World):Prop:=TabAt 0 Lib.deBruijn64tab w
theorem Tab.keep {H:Nat→Prop}{w w':World}(h:Tab w)(hk:Keep H w w')(hn:¬H 0):Tab w':=fun j hj=>hk.cell hn (h j hj)
theorem Tab.later {w w':World}(h:Tab w)(hb:Below w.heap.size w w'):Tab w':=fun j hj=>Go.Proofs.YtamkfdlcdiadlaaGreatDoor.later hb (h j hj)
theorem Tab.bud {w:World}{b l u:Nat}(h:Tab w)(hb:BudAt w b l u):b≠0:=by rintro rfl;have h1:=h 0 (by decide);have h2:=cB (o:=0) hb.2 rfl;rw[h1]at h2;cases h2
set_option maxHeartbeats 1000000 in
theorem tz_core (x k idx:Nat)(w:World)(hx0:((x:Int)==0)=false)
  (key:IntKind.u64.wrap (bits BinOp.and IntKind.u64 (x:Int) (IntKind.u64.wrap (-(x:Int)))*285870213051353865) / 288230376151711744=(idx:Int))
  (hi:idx<64) (hcell:w.cell? ⟨0,idx,none⟩=some (.int .u8 k)) (hk:k<64):
  Pure 169 #[.int .u64 x] w (.int .i64 k):=by
 go_enter Tryz.func169,Tryz.ntmps169;go_wp2_with (simp only[key]);go_ret;exact⟨rfl,rfl⟩
theorem tz_any (x:Nat)(hx:x<18446744073709551616)(hx0:x≠0)(w:World)(hT:Tab w):Pure 169 #[.int .u64 x] w (.int .i64 (Lib.ctz 64 x:Nat)):=by obtain⟨hlow,hk⟩:=Lib.lowest_bit 64 x hx0 hx;obtain⟨hi,htab⟩:=Lib.deBruijn64_at _ hk;have hcell:=hT _ hi;rw[htab]at hcell;exact tz_core x _ _ w (by simp;omega) (tz64_key x _ hx hx0 hlow) hi hcell hk
theorem ctz_bits (x:Nat)(hx:x<18446744073709551616)(hx0:x≠0):Lib.ctz 64 x<64∧x.testBit (Lib.ctz 64 x)=true∧∀i,i<Lib.ctz 64 x→x.testBit i=false:=by
 obtain⟨m,hm,hk⟩:=Lib.ctzFrom_spec 64 x (by omega) hx;have e:Lib.ctz 64 x=Lib.ctzFrom 64 x:=by simp[Lib.ctz,hx0]
 rw[e];generalize Lib.ctzFrom 64 x=c at *;subst hm;refine⟨hk,?_,fun i hi => ?_⟩
 ·rw[Nat.testBit_two_pow_mul];simp
 ·rw[Nat.testBit_two_pow_mul];simp;omega
theorem least_word (s:Pv.S4)(k:Nat)(hk:k<4)(h0:∀j,j<k→s.word j=0)(hne:(s.word k).toNat≠0):s.least=some (64*k+Lib.ctz 64 (s.word k).toNat):=by
 obtain⟨h1,h2,h3⟩:=ctz_bits _ (s.word k).isLt hne;generalize Lib.ctz 64 (s.word k).toNat=c at *;have hb:s.has (64*k+c)=true:=by unfold Pv.S4.has;rw[show(64*k+c) / 64=k by omega,show(64*k+c) % 64=c by omega];exact h2
 obtain⟨m,e1,e2,e3,e4⟩:=Pv.least_spec ⟨64*k+c,by omega,hb⟩;have hm:¬m<64*k+c:=fun hlt=>by
  unfold Pv.S4.has at e3;by_cases e:m / 64=k
  ·rw[e]at e3;have:=h3 (m % 64) (by omega);rw[BitVec.getLsbD]at e3;rw[this]at e3;cases e3
  ·rw[h0 (m / 64) (by omega)]at e3;simp at e3
 have hm2:¬64*k+c<m:=fun hlt=>by rw[e4 _ hlt]at hb;cases hb
 rw[e1];congr 1;omega
theorem least_none (s:Pv.S4)(h0:∀j,j<4→s.word j=0):s.least=none:=by
 have:s=Pv.S4.zero:=by
  cases s with
  | mk a b c d=>
    have h1:=h0 0 (by omega);have h2:=h0 1 (by omega);have h3:=h0 2 (by omega);have h4:=h0 3 (by omega);simp[Pv.S4.word]at h1 h2 h3 h4;subst h1;subst h2;subst h3;subst h4;rfl
 subst this;decide +kernel
theorem index_set (s:Pv.S4)(k:Nat)(h:k<4)(w:World):(Instr.index 87 (.agg #[W64 s.a,W64 s.b,W64 s.c,W64 s.d]) (.int .i64 (k:Int))).run Tryz.prog w = .ok (W64 (s.word k)) w:=by
 have u1:=Tryz.underlying87;have z:=Tryz.sizeOf85;have ag:=Tryz.isAgg85
 match k,h with
 | 0,_=>simp[Instr.index,asIntOf,run_underlying u1,z,ag,go_sem,Result.andThen,Pv.S4.word]
 | 1,_=>simp[Instr.index,asIntOf,run_underlying u1,z,ag,go_sem,Result.andThen,Pv.S4.word]
 | 2,_=>simp[Instr.index,asIntOf,run_underlying u1,z,ag,go_sem,Result.andThen,Pv.S4.word]
 | 3,_=>simp[Instr.index,asIntOf,run_underlying u1,z,ag,go_sem,Result.andThen,Pv.S4.word]
set_option maxRecDepth 20000 in
theorem least_any (s:Pv.S4)(w:World)(hT:Tab w):Calls Tryz.prog 130 #[S4V s] w fun e w'=>
  e = .returned (.tuple #[.int .u8 (s.least.getD 0:Nat),.bool s.least.isSome])∧Below w.heap.size w w':=by
 have HT:=Hy hT;clear hT;go_enter Tryz.func130,Tryz.ntmps130;go_wp2_with fail;go_loopw [7] (fun i wr=>∃k:Nat,k≤4∧i = .int .i64 k∧Hid (∀j,j<k→s.word j=0)∧Hid (Below w.heap.size w wr)) (fun i _=>(4-intOf i).toNat)
 case atStart=>exact⟨0,by omega,rfl,(fun j h=>by omega),(Below.refl _ _).alloc (Nat.le_refl _) _⟩
 case round=>
  obtain⟨k,hk,rfl,H0,HB⟩:=hrel;by_cases h4:k<4
  ·have hi1:(k:Int)<4:=by omega
   have hidx:(Instr.index 87 (.agg #[W64 s.a,W64 s.b,W64 s.c,W64 s.d]) (.int .i64 (k:Int))).run Tryz.prog wr = .ok (.int .u64 ((s.word k).toNat:Int)) wr:=index_set s k h4 wr;have hlt:(s.word k).toNat<18446744073709551616:=(s.word k).isLt;by_cases hz:(s.word k).toNat=0
   ·have hz2:s.word k=0:=BitVec.eq_of_toNat_eq (by simpa using hz);have hzi:((((s.word k).toNat:Nat):Int)!=0)=false:=by simp[hz]
    have Hz:=Hy hz2;clear hz hz2;go_wp2_with fail;go_roundw
    case rel=>
     refine⟨k+1,by omega,by go_num,fun j hj => ?_,HB.out⟩;by_cases e:j=k
     ·rw[e];exact Hz.out
     ·exact H0.out j (by omega)
    case measure=>simp[intOf];omega
   ·have hz1:((((s.word k).toNat:Nat):Int)!=0)=true:=by simpa using hz
    have htz:=tz_any _ hlt hz wr (HT.out.later HB.out);have hle:=Hy (least_word s k h4 H0.out hz);have hc:=(ctz_bits _ hlt hz).1;clear hz;generalize (s.word k).toNat=x at *;generalize Lib.ctz 64 x=c at *;go_wp2_with fail;refine htz.mono ?_;rintro e w' ⟨rfl,rfl⟩;go_wp2_with fail;refine bodyPost_ret (v:= .tuple #[.int .u8 ((64*k+c:Nat):Int),.bool true]) ?_ rfl ⟨?_,HB.out⟩
    ·simp[results,Tryz.results130,go_sem]
    ·rw[hle.out];rfl
  ·have e:k=4:=by omega
   subst e;have hn:=Hy (least_none s H0.out);go_wp2_with fail;refine bodyPost_ret (v:= .tuple #[.int .u8 0,.bool false]) ?_ rfl ⟨?_,HB.out⟩
   ·simp[results,Tryz.results130,go_sem]
   ·rw[hn.out];rfl
end Go.Proofs.YtamkfdlcdiadlaaGreatDoor
namespace Go.Proofs.YtamkfdlcdiadlaaGreatDoor
open Go.RowKit
theorem lit2 {H:Nat→Prop}{w:World}{x y:Pv.R}{bx by':Nat}(hx:ReAt H w x bx)(hy:ReAt H w y by'):
  Sl (w.alloc (.cells #[Ptr bx,Ptr by'] 59)) (some ⟨w.heap.size,0,none⟩) 2 ([bx,by'].map Ptr)∧ResAt H (w.alloc (.cells #[Ptr bx,Ptr by'] 59)) [x,y] [bx,by']:=by
 have hb1:Below w.heap.size w (w.alloc (.cells #[Ptr bx,Ptr by'] 59)):=(Below.refl _ _).alloc (Nat.le_refl _) _;exact⟨Sl.of_blk (xs:=[Ptr bx,Ptr by']) (blk_new rfl),ResAt.append (ResAt.one (hx.later hb1)) (ResAt.one (hy.later hb1))⟩
set_option maxRecDepth 20000 in
set_option maxHeartbeats 8000000 in
theorem by_any (c:UInt8):∀(n:Nat) (H:Nat→Prop) (r:Pv.R) (b:Nat) (w:World),Pv.size r≤n→ReAt H w r b→(∀h,H h→h<w.heap.size)→Pv.size r≤300000 →
  MakesRe H 71 #[Ptr b,.int .u8 (c.toNat:Int)] w (Pv.by_ c r)
 | 0,_,r,_,_,hn,_,_,_=>by have:=size_pos r;omega
 | n+1,H,r,b,w,hn,hat,hH,hsz=>by
   obtain⟨a,cc,bs,h0,h1,h2,h3,h4,h5,h6,_,_,hsl,hres,hlt⟩:=hat.cells;have hlen:=hres.length;have hks:=sizes_len r.kids;have hsk:=size_kids r;have hhead:=hat.head;have Hat:=Hy hat;have Hsl:=Hy hsl;have Hres:=Hy hres;have hc256:=c.toNat_lt;have hD:3*(Pv.size r*Pv.size r)≤270000000000:=by have:=Nat.mul_le_mul hsz hsz;omega
   clear hat hsl hres h6;by_cases e2:r.op=2
   ·have h0':w.cell? ⟨b,0,none⟩=some (.int .i64 2):=by rw[h0,e2];rfl
    have hby:=Hy (by_class c r e2);have hhas:=has_any r.set c.toNat (by omega) w;clear h0 e2 hhead hlen;generalize r.set.has c.toNat=q at *;have Hhas:=Hy hhas;clear hhas h5;generalize c.toNat=cn at *;go_enter Tryz.func71,Tryz.ntmps71;go_wp2_with fail;refine Hhas.out.mono ?_;rintro e w1 ⟨rfl,hb1⟩;have HB1:=Hy hb1;clear hb1;cases q
    ·go_wp2_with fail;refine(nothing_any _ (fun h hh=>by have:=hH h hh;have:=HB1.out.size;omega)).mono ?_;rintro e w' ⟨b,rfl,h,hb⟩;go_wp2_with fail;go_ret;refine⟨b,rfl,?_,HB1.out.trans (hb.mono HB1.out.size)⟩;rw[hby.out];exact h
    ·go_wp2_with fail;refine(empty_re _ (fun h hh=>by have:=hH h hh;have:=HB1.out.size;omega)).mono ?_;rintro e w' ⟨b,rfl,h,hb⟩;go_wp2_with fail;go_ret;refine⟨b,rfl,?_,HB1.out.trans (hb.mono HB1.out.size)⟩;rw[hby.out];exact h
   by_cases e3:r.op=3
   ·obtain⟨k,rest,hk⟩:∃k rest,r.kids=k::rest:=by
     cases hk:r.kids with
     | nil=>exact absurd hk (hhead.2.2 (.inl e3))
     | cons k rest=>exact⟨k,rest,rfl⟩
    have h0':w.cell? ⟨b,0,none⟩=some (.int .i64 3):=by rw[h0,e3];rfl
    have hby:=Hy (by_cat c r k rest e3 hk);have hkl:=size_kid_lt (r:=r) (k:=k) (by rw[hk];simp);have hrl:=size_cat_lt hk;have hres0:=Hres.out;rw[hk]at hres0;unfold ResAt at hres0;obtain⟨b0,bt,hbs,hatk,hrest⟩:=hres0;subst hbs;obtain⟨blk,off,rfl,hbl,hcs⟩:=Hsl.out.at_ (by simp);have hc0:=hcs 0 (by simp);simp only[List.map_cons,List.getElem_cons_zero,Nat.add_zero]at hc0
    obtain⟨a1,ha1⟩:∃a1:Option Addr,(if cc=1 then some (⟨blk,off,none⟩:Addr) else some ⟨blk,off+1,none⟩)=a1:=⟨_,rfl⟩
    have htl:Sl w a1 (cc-1) (bt.map Ptr):=by
     have h0:=(by simpa using Hsl.out:Sl w (some ⟨blk,off,none⟩) cc (Ptr b0::bt.map Ptr))
     by_cases hcc:cc=1
     ·rw[←ha1,if_pos hcc];have hl:=h0.le;have:bt=[]:=List.length_eq_zero_iff.1 (by simp at hl;omega);subst this;exact⟨Nat.zero_le _,(fun h=>by cases h),fun i hi=>by cases hi⟩
     ·rw[←ha1,if_neg hcc];exact h0.tail
    have hi1:(1:Int)≤(bt.length:Int)+1:=by omega
    have hsr:Pv.sizes rest<300000:=by rw[hk,Pv.sizes]at hsk;have:=size_pos k;omega
    have hcatr:=fun W' (hb:Below w.heap.size w W')=>cat_any (H:=H) rest _ (cc-1) bt W' (htl.later hb) (hrest.later hb) (fun h hh=>by have:=hH h hh;have:=hb.size;omega) (by omega)
    have hcall:=fun W' (hb:Below w.heap.size w W')=>by_any c n H k b0 W' (by omega) (hatk.later hb) (fun h hh=>by have:=hH h hh;have:=hb.size;omega) (by omega)
    have hcall2:=fun W' br (hz:w.heap.size≤W'.heap.size) (hr:ReAt H W' (Pv.cat rest) br)=>by_any c n H (Pv.cat rest) br W' (by omega) hr (fun h hh=>by have:=hH h hh;omega) (by omega)
    have hsb:=size_by c n k (by omega);have hsb2:=size_by c n (Pv.cat rest) (by omega);have hkk:3*(Pv.size k*Pv.size k)≤270000000000:=by have:=Nat.mul_le_mul (Nat.le_of_lt hkl) (Nat.le_of_lt hkl);omega
    have hkk2:3*(Pv.size (Pv.cat rest)*Pv.size (Pv.cat rest))≤270000000000:=by have:=Nat.mul_le_mul (Nat.le_of_lt hrl) (Nat.le_of_lt hrl);omega
    have hn1:(((b0::bt).length:Nat):Int)=(bt.length:Int)+1:=by simp
    have hsq:(b0::bt).length-1=bt.length:=by simp
    have hle1:bt.length+1≤cc:=by have:=Hsl.out.le;simpa using this
    have Hcatr:=Hy hcatr;have Hcall:=Hy hcall;have Hcall2:=Hy hcall2;have Hatk:=Hy hatk;have hlb:((b0::bt).length:Nat)<1099511627776:=by omega
    generalize c.toNat=cn at *;clear h0 e3 e2 hhead hlen hcs hatk hcall hcall2 hcatr h1 h2 h3 h4 hk hrest htl;go_enter Tryz.func71,Tryz.ntmps71;go_wp2_with fail;refine Eag.region (.mov 0 (.mov 1 (.mov 2 (.mov 3 (.mov 4 (.mov 5 (.mov 6 (.mov 7 (.mov 8 (.mov 9 (.mov 10 (.anc 11 (.mov 12 (.mov 13 Eag.Sch.fin)))))))))))))) [] (by kernel_rfl) (by kernel_rfl) (fun K ops hops hK => ?_);iterate 10
     refine Eag.mov hops rfl rfl (fun w' hb => ?_) ?_
     ·have q0:=later hb h5;have q1:=later hb hc0;clear hb;go_simp
     go_simp
    iterate 1
     refine Eag.mov hops rfl rfl (fun w' hb => ?_) ?_
     ·have q0:=later hb hc0;clear hb;go_simp
     go_simp
    refine Eag.anc hops rfl rfl ?_;go_wp2_with fail;refine(Hcatr.out w.drew ((Below.refl _ _).drew)).mono ?_;rintro e w1 ⟨br,rfl,hr1,hB1⟩;refine⟨hB1,?_⟩;have HR1:=Hy hr1;have HB1:Hid (Below w.heap.size w w1):=(Below.refl _ _).drew.trans hB1;clear hr1 hB1;iterate 2
     refine Eag.mov hops rfl rfl (fun w' hb => ?_) ?_
     ·clear hb;go_simp
     go_simp
    refine Eag.fin (hK _ _ ?_);clear hK hops;go_simp;go_wp2_with fail;refine(Hcall.out w1 HB1.out).mono ?_;rintro e w2 ⟨b1,rfl,hr2,hB2⟩;have HR2:=Hy (HR1.out.later hB2);have HB2:=Hy (HB1.out.trans (hB2.mono HB1.out.size));have hl2:=lit2 hr2 HR2.out;have hz2:=HB2.out.size
    have hcat:=cat_any (H:=H) _ _ 2 _ _ hl2.1 hl2.2 (fun h hh=>by have:=hH h hh;simp;omega) (by have:=size_cat rest;simp only[Pv.sizes];omega);have Hcat:=Hy hcat;clear hr2 hB2 hl2 hcat;go_wp2_with fail;refine Hcat.out.mono ?_;rintro e w3 ⟨b3,rfl,hr3,hB3⟩;have HB23:Hid (Below w2.heap.size w2 w3):=((Below.refl _ _).alloc (Nat.le_refl _) _).trans (hB3.mono (by simp))
    have HB3:=Hy (HB2.out.trans (HB23.out.mono hz2));have HR3:=Hy hr3;have HRr:=Hy (HR2.out.later HB23.out);have hz3:=HB3.out.size;have hnull:=null_any k b0 w3 (Hatk.out.later HB3.out);clear hr3 hB3;go_wp2_with fail;refine hnull.mono ?_;rintro e w' ⟨rfl,rfl⟩;cases hq:Pv.null k
    ·have HQ:=Hy hq;clear hq;go_wp2_with fail;go_ret;refine⟨b3,rfl,?_,HB3.out⟩;rw[hby.out,HQ.out];exact HR3.out
    ·have HQ:=Hy hq;clear hq;go_wp2_with fail;refine(Hcall2.out w3 br hz3 HRr.out).mono ?_;rintro e w4 ⟨b4,rfl,hr4,hB4⟩;have HB4:=Hy (HB3.out.trans (hB4.mono hz3));have hl4:=lit2 (HR3.out.later hB4) hr4;have hz4:=HB4.out.size;have o1:=size_cat [Pv.by_ c k,Pv.cat rest];simp only[Pv.sizes]at o1
     have hany:=any_any (H:=H) _ _ 2 _ _ hl4.1 hl4.2 (fun h hh=>by have:=hH h hh;simp;omega) (by have:=size_cat rest;simp only[Pv.sizes];omega);have Hany:=Hy hany;clear hr4 hB4 hl4 hany o1;go_wp2_with fail;refine Hany.out.mono ?_;rintro e w5 ⟨b5,rfl,h,hb⟩;go_wp2_with fail;go_ret;refine⟨b5,rfl,?_,(HB4.out.alloc HB4.out.size _).trans (hb.mono (by simp;omega))⟩;rw[hby.out,HQ.out];exact h
   by_cases e5:r.op=5
   ·obtain⟨k,rest,hk⟩:∃k rest,r.kids=k::rest:=by
     cases hk:r.kids with
     | nil=>exact absurd hk (hhead.2.2 (.inr e5))
     | cons k rest=>exact⟨k,rest,rfl⟩
    have h0':w.cell? ⟨b,0,none⟩=some (.int .i64 5):=by rw[h0,e5];rfl
    have hby:=Hy (by_star c r k rest e5 hk);have hkl:=size_kid_lt (r:=r) (k:=k) (by rw[hk];simp);obtain⟨hb0,hatk⟩:=Hres.out.get 0 (by rw[hk];simp);obtain⟨blk,off,rfl,hbl,hcs⟩:=Hsl.out.at_ (by simpa using hb0);have hc0:=hcs 0 (by simpa using hb0);simp only[hk,List.getElem_cons_zero,List.getElem_map,Nat.add_zero]at hatk hc0;generalize bs[0]=b0 at *
    have hcall:=by_any c n H k b0 w (by omega) hatk hH (by omega);have hsb:=size_by c n k (by omega);have hkk:3*(Pv.size k*Pv.size k)≤270000000000:=by have:=Nat.mul_le_mul (Nat.le_of_lt hkl) (Nat.le_of_lt hkl);omega
    have hb1:(0:Int)<bs.length:=by omega
    have Hcall:=Hy hcall;generalize c.toNat=cn at *;clear h0 e5 e2 e3 hhead hlen hcs hatk hcall h1 h2 h3 h4 hk;go_enter Tryz.func71,Tryz.ntmps71;go_wp2_with fail;refine Hcall.out.mono ?_;rintro e w1 ⟨b1,rfl,hr1,hB1⟩;have HB1:=Hy hB1;have hl2:=lit2 hr1 (Hat.out.later hB1);have hz1:=hB1.size
    have hcat:=cat_any (H:=H) _ _ 2 _ _ hl2.1 hl2.2 (fun h hh=>by have:=hH h hh;simp;omega) (by simp only[Pv.sizes];omega);have Hcat:=Hy hcat;clear hr1 hB1 hl2 hcat;go_wp2_with fail;refine Hcat.out.mono ?_;rintro e w' ⟨b2,rfl,h,hb⟩;go_wp2_with fail;go_ret;refine⟨b2,rfl,?_,(HB1.out.alloc HB1.out.size _).trans (hb.mono (by simp;omega))⟩;rw[hby.out];exact h
   by_cases e4:r.op=4∨r.op=6∨r.op=7
   ·have f2:((r.op:Int)==2)=false:=opF e2;have f3:((r.op:Int)==3)=false:=opF e3;have f5:((r.op:Int)==5)=false:=opF e5;have hby:=Hy (by_kids c r e4);have hsb:=sizes_by_le c r.kids fun k hk=>size_by c n k (by have:=size_kid_lt hk;omega)
    have hkk:3*(Pv.sizes r.kids*Pv.sizes r.kids)≤270000000000:=by have:=Nat.mul_le_mul (show Pv.sizes r.kids≤Pv.size r by omega) (show Pv.sizes r.kids≤Pv.size r by omega);omega
    have hmk:(Instr.makeSlice 101 (.int .i64 0) (.int .i64 (bs.length:Int))).run Tryz.prog w = .ok (.slice (some ⟨w.heap.size,0,none⟩) 0 bs.length) (w.alloc (.cells (Array.replicate bs.length (.pointer none)) 59)):=
     make_re 0 bs.length (Nat.zero_le _) (by omega) w
    have HL:=Hy hlen;have HMK:=Hy hmk;have HSB:=Hy hsb;have Hby:=Hy (fun(H':Nat→Prop) (k:Pv.R) (bk:Nat) (W':World) (hs:Pv.size k≤n) (hr:ReAt H' W' k bk) (hh:∀h,H' h→h<W'.heap.size) (hz:Pv.size k≤300000)=>by_any c n H' k bk W' hs hr hh hz);have hb40:(bs.length:Int)<1099511627776:=by omega
    have hb40':bs.length<1099511627776:=by omega
    obtain⟨i0,hi,hz0,hz1,hz2⟩:=info_parts info_re;generalize c.toNat=cn at *;clear e2 e3 e5 hhead hlen h1 h2 h3 h4 hmk hsb;rcases e4 with e4|e4|e4;all_goals
     have h0':=h0;rw[e4]at h0';clear h0 e4;go_enter Tryz.func71,Tryz.ntmps71;go_wp2_with fail;rw[HMK.out];go_simp;go_wp2_with fail;go_loopw [8,84] (fun v i wr=>∃(k:Nat) (ps:List (Nat × Pv.R)),k≤bs.length∧i = .int .i64 k∧ps.length=k∧Hid (Row w.heap.size 59 wr v (vals ps))∧Hid (Prs (own H v) wr ps) ∧
      Hid (ps.map (·.2)=(r.kids.take k).map (Pv.by_ c))∧Hid (Below w.heap.size w wr)) (fun _ i _=>(bs.length-intOf i).toNat)
     case atStart=>
      refine⟨0,[],by omega,rfl,rfl,?_,(show Prs _ _ [] from fun x hx=>by cases hx),rfl,(Below.refl _ _).alloc (Nat.le_refl _) _⟩;exact Row.of_cells (xs:=[]) (Nat.le_refl _) (blk_new rfl) (Nat.zero_le _) (by unfold maxLen;omega) (by simp) (by simp)
     case round=>
      obtain⟨k,ps,hk,rfl,hpl,HR,HP,HM,HB⟩:=hrel;by_cases hkn:k<bs.length
      ·have hkk2:k<r.kids.length:=by rw[←HL.out];exact hkn
       obtain⟨hkb,hatk⟩:=Hres.out.get k hkk2;obtain⟨blk,off,rfl,hbl,hcl⟩:=Hsl.out.at_ (by simp;omega);have hc0:=later HB.out (hcl k (by simpa using hkn));rw[List.getElem_map]at hc0;have hro:∀x,u8.ownBlock=some x→w.heap.size≤x∧x<wr.heap.size:=fun x hx=>⟨HR.out.own x hx,by
        rcases HR.out.blk with⟨e,_⟩|⟨g,cap,cur,e,_,hg,_⟩
        ·rw[e]at hx;cases hx
        ·rw[e]at hx;cases hx;exact blk_lt hg⟩
       have hatk2:ReAt (own H u8) wr (r.kids[k]'hkk2) bs[k]:=(hatk.widen (fun x hx=>by rcases hx with hx|hx;exact .inl hx;exact .inr (hro x hx).1)).later HB.out;have hszk:=size_kid_lt (r:=r) (List.getElem_mem hkk2);have hcall:=Hby.out (own H u8) _ _ wr (by omega) hatk2 (fun h hh=>by
        rcases hh with hh|hh
        ·have:=hH h hh;have:=HB.out.size;omega
        ·exact(hro h hh).2) (by omega)
       have htk:(r.kids.take (k+1)).map (Pv.by_ c)=(r.kids.take k).map (Pv.by_ c)++[Pv.by_ c (r.kids[k]'hkk2)]:=by rw[List.take_succ_eq_append_getElem hkk2,List.map_append];rfl
       have Hcall:=Hy hcall;have HTK:=Hy htk;clear hcall hatk2 hatk hcl htk hszk hro;generalize bs[k]=bk at *;generalize Pv.by_ c (r.kids[k]'hkk2)=y at *;have hkn':(k:Int)<bs.length:=by omega
       have hk40:(k:Int)<1099511627776:=by omega
       go_wp2_with fail;refine Hcall.out.mono ?_;rintro e w2 ⟨b2,rfl,h2,hb2⟩;have HR2:=Hy (HR.out.later hb2);have HP2:Hid (Prs (own H u8) w2 ps):=fun x hx=>(HP.out x hx).later hb2
       have HB2:=Hy (HB.out.trans (hb2.mono HB.out.size));have H2:=Hy h2;clear hb2 h2;go_wp2_with (at_builtin;refine app1x _ _ i0 _ 8 Tryz.underlying101 hi hz0 hz1 hz2 rfl (by omega) rfl _ _ rfl w.heap.size _ _ rfl (HR2.out.alloc _) w2.heap.size _ rfl (blk_new rfl) rfl ?c1 (by have:=HB2.out.size;simp;omega) ?c2)
       case c1=>first|omega|(rw[List.length_map];omega)
       case c2=>
        intro v3 w3 hr3 hb3 hg3 hm3;have A1:=Hy ((HB2.out.alloc HB2.out.size (.cells #[Ptr b2] 59)).trans hb3);have A2:Hid (Row w.heap.size 59 w3 v3 (vals (ps++[(b2,y)]))):=by rw[vals,List.map_append];exact hr3
        have A3:Hid (Prs (own H v3) w3 (ps++[(b2,y)])):=fun x hx=>by
         rcases List.mem_append.1 hx with hx|hx
         ·exact(HP2.out x hx).moved hg3 hm3
         ·rw[List.mem_singleton.1 hx];exact H2.out.moved hg3 hm3
        clear hr3 hb3 hg3 hm3;go_wp2_with fail;go_roundw
        case rel=>
         refine⟨k+1,ps++[(b2,y)],by omega,by go_num,by simp;omega,A2.out,A3.out,?_,A1.out⟩;show _=_;rw[HTK.out,List.map_append,HM.out];rfl
        case measure=>simp[intOf];omega
      ·have e:k=bs.length:=by omega
       subst e;have hm:=HM.out;rw[HL.out,List.take_of_length_le (Nat.le_refl _)]at hm;obtain⟨a3,c3,rfl,hsl3,_⟩:=HR.out.form;have hres3:=(show Prs H wr ps from fun x hx=>(HP.out x hx).widen fun x hx=> .inl (.inl hx)).res;have hz:=HB.out.size
       have hw:=with_any (H:=H) r b (ps.map (·.2)) a3 c3 (ps.map (·.1)) wr (Hat.out.later HB.out) (by rw[List.map_map];exact hsl3) hres3 (fun h hh=>by have:=hH h hh;omega) (by rw[hm];have:=HSB.out;omega);rw[hm,List.length_map,hpl]at hw;rw[List.length_map,hpl];have Hw:=Hy hw;clear hw hres3 hsl3 hm;go_wp2_with fail;refine Hw.out.mono ?_;rintro e w4 ⟨b4,rfl,h4,hb4⟩;go_wp2_with fail;go_ret
       refine⟨b4,rfl,?_,HB.out.trans (hb4.mono HB.out.size)⟩;rw[hby.out];exact h4
   ·have f2:((r.op:Int)==2)=false:=opF e2;have f3:((r.op:Int)==3)=false:=opF e3;have f5:((r.op:Int)==5)=false:=opF e5;have f4:((r.op:Int)==4)=false:=opF (fun h=>e4 (.inl h));have f6:((r.op:Int)==6)=false:=opF (fun h=>e4 (.inr (.inl h)));have f7:((r.op:Int)==7)=false:=opF (fun h=>e4 (.inr (.inr h)));have hby:=Hy (by_else c r ⟨e2,e3,by omega,e5,by omega,by omega⟩);generalize c.toNat=cn at *
    clear e2 e3 e4 e5 hhead hlen h1 h2 h3 h4 h5;go_enter Tryz.func71,Tryz.ntmps71;go_wp2_with fail;refine(nothing_any _ hH).mono ?_;rintro e w' ⟨b,rfl,h,hb⟩;go_wp2_with fail;go_ret;refine⟨b,rfl,?_,hb⟩;rw[hby.out];exact h
end Go.Proofs.YtamkfdlcdiadlaaGreatDoor
