/- Is a canonizer's fault shown? -/
import Derived.Test.YtinpjfnnfkjbmaaGreatDoorKm05
import Derived.Test.YtinpjfnnfkjbmaaGreatDoorKm48
import Derived.Test.YtinpjfnnfkjbmaaGreatDoorKm40
import Derived.Test.YtinpjfnnfkjbmaaGreatDoorKm47
set_option linter.all false
namespace Pv
mutual
theorem allT_more {Q:T→Prop}:∀ {t:T},CG t→tsize t<100000→AllT Q t→AllT (fun t=>CG t∧tsize t<100000∧Q t) t
 | .mk op a n r tx bk ks,hg,hz,h=>by
   have hk:=hg.open_.2.2.2.2.2.2;have hz2:tsizes ks<100000:=by unfold tsize at hz;omega
   unfold AllT at h ⊢;exact⟨⟨hg,hz,h.1⟩,allTs_more hk hz2 h.2⟩
theorem allTs_more {Q:T→Prop}:∀ {ts:List T},CGs ts→tsizes ts<100000→AllTs Q ts→AllTs (fun t=>CG t∧tsize t<100000∧Q t) ts
 | [],_,_,_=>by unfold AllTs;trivial
 | t::ts,hg,hz,h=>by unfold CGs at hg;unfold tsizes at hz;unfold AllTs at h ⊢;exact⟨allT_more hg.1 (by omega) h.1,allTs_more hg.2 (by omega) h.2⟩
end
end Pv
namespace Go.Proofs.YtinpjfnnfkjbmaaGreatDoor
open Go.RowKit Go.Maps
set_option maxRecDepth 20000 in
theorem shown17_else (f:Pv.Fault)(tb:Nat)(w:World)(h20:f.e≠20)(h21:f.e≠21):Calls Tryz.prog 26 #[Ptr tb,FV f] w (ShW true w):=by
 obtain⟨f0,f1,f2,f3,f4,f5,f6⟩:=f;simp only at h20 h21;have a1:((f0:Int)!=20)=true:=by simp;omega
 have a2:((f0:Int)!=21)=true:=by simp;omega
 have b1:((f0:Int)==20)=false:=by simp;omega
 have b2:((f0:Int)==21)=false:=by simp;omega
 clear h20 h21;go_enter Tryz.func26,Tryz.ntmps26;go_wp2_with fail;go_ret;exact⟨rfl,(Below.refl _ _).alloc (Nat.le_refl _) _⟩
set_option maxRecDepth 20000 in
theorem shown17_20 (f:Pv.Fault)(t:Pv.T)(tb:Nat)(w:World)(he:f.e=20)(hg:Pv.CG t)(hz:Pv.tsize t<100000)(hq:Pv.AllT (Pv.QF f) t)(hh:Pv.HasT (Pv.hit f) t=true)(hat:TAt (fun _=>False) w t tb):
  Calls Tryz.prog 26 #[Ptr tb,FV f] w (ShW true w):=by
 have hall:=Pv.allT_more hg hz hq;have HAll:=Hy hall;have HH:=Hy hh;obtain⟨fb,hfb⟩:∃n,w.heap.size=n:=⟨_,rfl⟩
 obtain⟨w1,hw1⟩:∃W,(w.alloc (.cells (faultC f) 45)).alloc (.cells #[.bool false] 4)=W:=⟨_,rfl⟩
 have hb1:Below w.heap.size w w1:=by rw[←hw1];exact((Below.refl _ _).alloc (Nat.le_refl _) _).alloc (by simp) _
 have hI:ShI f fb (fb+1) false w1:=⟨by rw[←hw1];exact blk_new (by simp;omega),by rw[←hw1];exact blk_old (blk_new hfb)⟩
 have hat1:TAt (· = fb+1) w1 t tb:=(hat.widen fun x e=> .inr (by rw[e];omega)).later hb1;have HI:=Hy hI;have HA:=Hy hat1;have HB:=Hy hb1;have HW:=Hy hw1;obtain⟨f0,f1,f2,f3,f4,f5,f6⟩:=f;simp only at he;subst he;clear hall hq hh hat hI hat1 hb1 hw1 hg hz;go_enter Tryz.func26,Tryz.ntmps26;go_upto_region 4 with fail
 rw[show(w.alloc (.cells (faultC ⟨20,f1,f2,f3,f4,f5,f6⟩) 45)).alloc (.cells #[.bool false] 4)=w1 from HW.out];clear HW;go_wp2_with fail
 refine(wlk17_any (fun t=>Pv.CG t∧Pv.tsize t<100000∧Pv.QF ⟨20,f1,f2,f3,f4,f5,f6⟩ t) (fun t h=>Nat.lt_of_le_of_lt (shaped_len h.1.open_.2.1) (by decide)) (Pv.hit ⟨20,f1,f2,f3,f4,f5,f6⟩) 56 fb (fb+1) (enters_of Tryz.func56 (by kernel_rfl) rfl) (ShI ⟨20,f1,f2,f3,f4,f5,f6⟩ fb (fb+1))
  (fun t tb w hq hp hat hI => ?_) (fun t tb w hq hp hat hI=>clo_no _ fb (fb+1) t tb w hp hat hI) _ t tb w1 (Nat.le_refl _) HAll.out HA.out HI.out).mono ?_
 ·have hf:=hq.2.2 hp;rcases hf.2 with⟨_,e,_⟩|⟨_,e,_⟩
  ·exact clo_9 _ fb (fb+1) t tb w hp e hq.1 hq.2.1 hf hat hI
  ·exact clo_8 _ fb (fb+1) t tb w hp e hq.1 hq.2.1 hf hat hI
 rintro e w2 ⟨rfl,hI2,hk2⟩;rw[HH.out]at hI2;have x0:w2.cell? ⟨fb+1,0,none⟩=some (.bool true):=cB (o:=0) hI2.1 rfl;have HBf:=Hy (HB.out.trans (hk2.below HB.out.size fun x e=>by rw[e];omega));clear hI2 hk2;go_wp2_with fail;go_ret;exact⟨rfl,HBf.out⟩
set_option maxRecDepth 20000 in
theorem shown17_21 (f:Pv.Fault)(t:Pv.T)(tb:Nat)(w:World)(he:f.e=21)(hg:Pv.CG t)(hz:Pv.tsize t<100000)(hq:Pv.AllT (Pv.QF f) t)(hh:Pv.HasT (Pv.hit f) t=true)(hat:TAt (fun _=>False) w t tb):
  Calls Tryz.prog 26 #[Ptr tb,FV f] w (ShW true w):=by
 have hall:=Pv.allT_more hg hz hq;have HAll:=Hy hall;have HH:=Hy hh;obtain⟨fb,hfb⟩:∃n,w.heap.size=n:=⟨_,rfl⟩
 obtain⟨w1,hw1⟩:∃W,(w.alloc (.cells (faultC f) 45)).alloc (.cells #[.bool false] 4)=W:=⟨_,rfl⟩
 have hb1:Below w.heap.size w w1:=by rw[←hw1];exact((Below.refl _ _).alloc (Nat.le_refl _) _).alloc (by simp) _
 have hI:ShI f fb (fb+1) false w1:=⟨by rw[←hw1];exact blk_new (by simp;omega),by rw[←hw1];exact blk_old (blk_new hfb)⟩
 have hat1:TAt (· = fb+1) w1 t tb:=(hat.widen fun x e=> .inr (by rw[e];omega)).later hb1;have HI:=Hy hI;have HA:=Hy hat1;have HB:=Hy hb1;have HW:=Hy hw1;obtain⟨f0,f1,f2,f3,f4,f5,f6⟩:=f;simp only at he;subst he;clear hall hq hh hat hI hat1 hb1 hw1 hg hz;go_enter Tryz.func26,Tryz.ntmps26;go_upto_region 4 with fail
 rw[show(w.alloc (.cells (faultC ⟨21,f1,f2,f3,f4,f5,f6⟩) 45)).alloc (.cells #[.bool false] 4)=w1 from HW.out];clear HW;go_wp2_with fail
 refine(wlk17_any (fun t=>Pv.CG t∧Pv.tsize t<100000∧Pv.QF ⟨21,f1,f2,f3,f4,f5,f6⟩ t) (fun t h=>Nat.lt_of_le_of_lt (shaped_len h.1.open_.2.1) (by decide)) (Pv.hit ⟨21,f1,f2,f3,f4,f5,f6⟩) 56 fb (fb+1) (enters_of Tryz.func56 (by kernel_rfl) rfl) (ShI ⟨21,f1,f2,f3,f4,f5,f6⟩ fb (fb+1))
  (fun t tb w hq hp hat hI => ?_) (fun t tb w hq hp hat hI=>clo_no _ fb (fb+1) t tb w hp hat hI) _ t tb w1 (Nat.le_refl _) HAll.out HA.out HI.out).mono ?_
 ·have hf:=hq.2.2 hp;rcases hf.2 with⟨_,e,_⟩|⟨_,e,_⟩
  ·exact clo_9 _ fb (fb+1) t tb w hp e hq.1 hq.2.1 hf hat hI
  ·exact clo_8 _ fb (fb+1) t tb w hp e hq.1 hq.2.1 hf hat hI
 rintro e w2 ⟨rfl,hI2,hk2⟩;rw[HH.out]at hI2;have x0:w2.cell? ⟨fb+1,0,none⟩=some (.bool true):=cB (o:=0) hI2.1 rfl;have HBf:=Hy (HB.out.trans (hk2.below HB.out.size fun x e=>by rw[e];omega));clear hI2 hk2;go_wp2_with fail;go_ret;exact⟨rfl,HBf.out⟩
end Go.Proofs.YtinpjfnnfkjbmaaGreatDoor
namespace Go.Proofs.YtinpjfnnfkjbmaaGreatDoor
open Go.RowKit Go.Maps
theorem same_nil (w:World):Pure 27 #[.pointer none,.pointer none] w (.bool true):=by
 have hk:∀W,Pure 58 #[.pointer none] W (Str []):=fun W=>by go_enter Tryz.func58,Tryz.ntmps58;go_wp2_with fail;go_ret;exact⟨rfl,rfl⟩
 go_enter Tryz.func27,Tryz.ntmps27;go_wp2_with fail;refine(hk w).mono ?_;rintro e w' ⟨rfl,rfl⟩;go_wp2_with fail;refine(hk _).mono ?_;rintro e w' ⟨rfl,rfl⟩;go_wp2_with fail;go_ret;exact⟨rfl,rfl⟩
theorem same_rfl (r:Pv.R):Pv.same r r=true:=by unfold Pv.same;simp
theorem same_o {H:Nat→Prop}{w:World}{re:Option Pv.R}{rv rv2:Value}(h:ReO H w re rv)(h2:ReO H w re rv2):Pure 27 #[rv,rv2] w (.bool true):=by
 cases re with
 | none=>
   obtain rfl:rv = .pointer none:=h;obtain rfl:rv2 = .pointer none:=h2;exact same_nil w
 | some r=>
   obtain⟨b,rfl,hb⟩:=h;obtain⟨b2,rfl,hb2⟩:=h2;have:=same_any r r b b2 w hb hb2;rw[same_rfl]at this;exact this
set_option maxRecDepth 20000 in
set_option maxHeartbeats 4000000 in
theorem tsame_any:∀(m:Nat) (H:Nat→Prop) (t:Pv.T) (b b2:Nat) (w:World),Pv.tsize t≤m→Pv.CG t→TAt H w t b→TAt H w t b2→Calls Tryz.prog 28 #[Ptr b,Ptr b2] w (ShW true w)
 | 0,_,t,_,_,_,hm,_,_,_=>by have:=tsize_eq t;omega
 | m+1,H,t,b,b2,w,hm,hg,h1,h2=>by
   have hseq:=tsize_eq t;obtain⟨_,rv,a,kc,bs,hr,ha,hterm,hsl,hts⟩:=h1.open_;obtain⟨_,rv2,a2,kc2,bs2,hr2,ha2,hterm2,hsl2,hts2⟩:=h2.open_;have hl1:=hts.length;have hl2:=hts2.length;have hlen:bs2.length=bs.length:=by omega
   have hkl:=shaped_len hg.open_.2.1;have t0:w.cell? ⟨b,0,none⟩=some (.int .i64 (t.op:Int)):=cB (o:=0) hterm rfl;have t2:w.cell? ⟨b,2,none⟩=some (Str t.name):=cB (o:=2) hterm rfl;have t3:w.cell? ⟨b,3,none⟩=some rv:=cB (o:=3) hterm rfl;have t4:w.cell? ⟨b,4,none⟩=some (Str t.text):=cB (o:=4) hterm rfl;have t5:w.cell? ⟨b,5,none⟩=some (Str t.back):=cB (o:=5) hterm rfl
   have t6:w.cell? ⟨b,6,none⟩=some (.slice a bs.length kc):=cB (o:=6) hterm rfl;have u0:w.cell? ⟨b2,0,none⟩=some (.int .i64 (t.op:Int)):=cB (o:=0) hterm2 rfl;have u2:w.cell? ⟨b2,2,none⟩=some (Str t.name):=cB (o:=2) hterm2 rfl;have u3:w.cell? ⟨b2,3,none⟩=some rv2:=cB (o:=3) hterm2 rfl;have u4:w.cell? ⟨b2,4,none⟩=some (Str t.text):=cB (o:=4) hterm2 rfl
   have u5:w.cell? ⟨b2,5,none⟩=some (Str t.back):=cB (o:=5) hterm2 rfl;have u6:w.cell? ⟨b2,6,none⟩=some (.slice a2 bs.length kc2):=by rw[←hlen];exact cB (o:=6) hterm2 rfl
   have hsm:=fun(W:World) (hW:Below w.heap.size w W)=>same_o (hr.later hW) (hr2.later hW)
   have HSm:=Hy (hsm w.drew (Below.refl _ _).drew);have HSl:=Hy hsl;have HSl2:=Hy hsl2;have HTs:=Hy hts;have HTs2:=Hy hts2;have HL1:=Hy hl1;have HLn:=Hy hlen;have HG:=Hy hg;have HM:=Hy hm;have HSe:=Hy hseq;have nft:∀x,¬(fun _:Nat=>False) x:=fun _ h=>h
   have n1:=nft b;have n2:=nft b2;clear hterm hterm2 hsl hsl2 hts hts2 hl1 hl2 hlen hr hr2 ha ha2 hg hm hseq h1 h2 hsm nft hkl;go_enter Tryz.func28,Tryz.ntmps28;go_wp2_with fail
   refine Eaq.region (Keep fun _=>False) (.mov 0 (.mov 1 (.mov 2 (.mov 3 (.mov 4 (.mov 5 (.mov 6 (.mov 7 (.mov 8 (.mov 9 (.mov 10 (.mov 11 (.mov 12 (.mov 13 (.mov 14 (.mov 15 (.mov 16 (.mov 17 (.mov 18 (.mov 19 (.mov 20 (.mov 21 (.mov 22 (.mov 23 (.mov 24 (.mov 25 (.mov 26 (.mov 27 (.mov 28 (.anc 29 (.mov 30 (.mov 31 (.mov 32 (.mov 33 (.mov 34 (.mov 35 (.mov 36 (.mov 37 (.mov 38 (.mov 39 (.mov 40 (.mov 41 (.mov 42 (.mov 43 (.mov 44 (.mov 45 (.mov 46 (.mov 47 (.mov 48 (.mov 49 (.mov 50 (.mov 51 (.mov 52 (.mov 53 (.mov 54 (.mov 55 (.mov 56 (.mov 57 (.mov 58 (.mov 59 (.mov 60 (.mov 61 (.mov 62 (.mov 63 (.mov 64 (.mov 65 (.mov 66 Eag.Sch.fin))))))))))))))))))))))))))))))))))))))))))))))))))))))))))))))))))) [] [] (by kernel_rfl) (by kernel_rfl) (fun K ops hops hK => ?_)
   iterate 10
    first
     | (refine Eaq.mov hops rfl rfl rfl (fun w' hb => ?_) ?_
        ·have q0:=Keep.cell hb n1 t0;have q1:=Keep.cell hb n2 u0;clear hb;go_simp)
     | (refine Eaq.movA hops rfl rfl (fun w' => ?_) ?_
        ·go_simp)
    go_simp
   iterate 9
    refine Eaq.movG hops rfl rfl rfl (fun w' hb => ?_) ?_
    ·have q0:=Keep.cell hb n1 t2;have q1:=Keep.cell hb n2 u2;clear hb;go_simp
    go_simp
   iterate 2
    first
     | (refine Eaq.mov hops rfl rfl rfl (fun w' hb => ?_) ?_
        ·clear hb;go_simp)
     | (refine Eaq.movA hops rfl rfl (fun w' => ?_) ?_
        ·go_simp)
    go_simp
   iterate 8
    refine Eaq.movG hops rfl rfl rfl (fun w' hb => ?_) ?_
    ·have q0:=Keep.cell hb n1 t3;have q1:=Keep.cell hb n2 u3;clear hb;go_simp
    go_simp
   refine Eaq.ancG hops rfl rfl ?_;go_wp2_with fail;refine HSm.out.mono ?_;rintro e w' ⟨rfl,e1⟩;subst e1;refine⟨Keep.refl _ _,?_⟩;iterate 1
    refine Eaq.movG hops rfl rfl rfl (fun w' hb => ?_) ?_
    ·clear hb;go_simp
    go_simp
   iterate 2
    first
     | (refine Eaq.mov hops rfl rfl rfl (fun w' hb => ?_) ?_
        ·clear hb;go_simp)
     | (refine Eaq.movA hops rfl rfl (fun w' => ?_) ?_
        ·go_simp)
    go_simp
   iterate 9
    refine Eaq.movG hops rfl rfl rfl (fun w' hb => ?_) ?_
    ·have q0:=Keep.cell hb n1 t4;have q1:=Keep.cell hb n2 u4;clear hb;go_simp
    go_simp
   iterate 2
    first
     | (refine Eaq.mov hops rfl rfl rfl (fun w' hb => ?_) ?_
        ·clear hb;go_simp)
     | (refine Eaq.movA hops rfl rfl (fun w' => ?_) ?_
        ·go_simp)
    go_simp
   iterate 9
    refine Eaq.movG hops rfl rfl rfl (fun w' hb => ?_) ?_
    ·have q0:=Keep.cell hb n1 t5;have q1:=Keep.cell hb n2 u5;clear hb;go_simp
    go_simp
   iterate 2
    first
     | (refine Eaq.mov hops rfl rfl rfl (fun w' hb => ?_) ?_
        ·clear hb;go_simp)
     | (refine Eaq.movA hops rfl rfl (fun w' => ?_) ?_
        ·go_simp)
    go_simp
   iterate 11
    refine Eaq.movG hops rfl rfl rfl (fun w' hb => ?_) ?_
    ·have q0:=Keep.cell hb n1 t6;have q1:=Keep.cell hb n2 u6;clear hb;go_simp
    go_simp
   iterate 1
    first
     | (refine Eaq.mov hops rfl rfl rfl (fun w' hb => ?_) ?_
        ·clear hb;go_simp)
     | (refine Eaq.movA hops rfl rfl (fun w' => ?_) ?_
        ·go_simp)
    go_simp
   refine Eaq.fin (hK _ _ ?_);clear hK hops;go_simp;obtain⟨w1,hw1⟩:∃W,w.drew=W:=⟨_,rfl⟩
   have hb1:Below w.heap.size w w1:=by rw[←hw1];exact(Below.refl _ _).drew
   rw[hw1];clear hw1 t0 t2 t3 t4 t5 u0 u2 u3 u4 u5 HSm;replace t6:=later hb1 t6;have HB1:=Hy hb1;have HU6:=Hy (later hb1 u6);clear hb1 u6;go_wp2_with fail;go_loopw [88] (fun i wr=>∃(k:Nat),k≤bs.length∧i = .int .i64 k∧Hid (Below w.heap.size w wr)∧Hid (Below w1.heap.size w1 wr)) (fun i _=>(bs.length-intOf i).toNat)
   case atStart=>exact⟨0,by omega,rfl,HB1,Below.refl _ _⟩
   case round=>
    obtain⟨k,hk,rfl,HB,HB2⟩:=hrel;by_cases hkn:k<bs.length
    ·have hkk:k<t.kids.length:=by rw[←HL1.out];exact hkn
     obtain⟨hb0,hat⟩:=HTs.out.get k hkk;obtain⟨hb3,hat2⟩:=HTs2.out.get k hkk;obtain⟨blk,off,rfl,hbl,hcl⟩:=HSl.out.at_ (by simp;omega);obtain⟨blk2,off2,rfl,hbl2,hcl2⟩:=HSl2.out.at_ (by simp;omega);have c0:=later HB.out (hcl k (by simpa using hkn));have d0:=later HB.out (hcl2 k (by simpa using hb3));rw[List.getElem_map]at c0 d0;have u6':=later HB2.out HU6.out;have hts1:=Pv.tsizes_get hkk
     have hgk:=HG.out.open_.2.2.2.2.2.2.mem _ (List.getElem_mem hkk);have HCall:=Hy (tsame_any m H t.kids[k] bs[k] bs2[k] wr (by have:=HM.out;have:=HSe.out;omega) hgk (hat.later HB.out) (hat2.later HB.out));have hk':(k:Int)<bs.length:=by omega
     have hk40:(k:Int)<1099511627776:=by have:=shaped_len HG.out.open_.2.1;omega
     clear hat hat2 hcl hcl2 hts1 hgk;go_wp2_with fail;refine HCall.out.mono ?_;rintro e w2 ⟨rfl,hb2⟩;have HB3:=Hy (HB.out.trans (hb2.mono HB.out.size));have HB4:=Hy (HB2.out.trans (hb2.mono HB2.out.size));clear hb2 HCall c0 d0 u6';go_wp2_with fail;go_roundw
     case rel=>exact⟨k+1,by omega,by go_num,HB3.out,HB4.out⟩
     case measure=>simp[intOf];omega
    ·have hkn2:¬((k:Int)<bs.length):=by omega
     go_wp2_with fail;go_ret;exact⟨rfl,HB.out⟩
end Go.Proofs.YtinpjfnnfkjbmaaGreatDoor
