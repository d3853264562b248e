/- Canonizers: types of Cat. -/
import Derived.Test.YtamkfdlcdiadlaaGreatDoorKb05
import Derived.Test.YtamkfdlcdiadlaaGreatDoorKb30
set_option linter.all false
namespace Go.Proofs.YtamkfdlcdiadlaaGreatDoor
open Go.RowKit Go.Maps
variable {H:Nat→Prop}
theorem Tab.ne_ptr {w:World}(hT:Tab w){k:Nat}{cs:Array Value}{t:TypeId}{b:Nat}(hx:w.heap[k]?=some (.cells cs t))(h0:cs[0]?=some (Ptr b)):k≠0:=by rintro rfl;have h1:=cB (o:=0) hx h0;have h2:=hT 0 (by decide);rw[h1]at h2;cases h2
set_option maxRecDepth 20000 in
set_option maxHeartbeats 2000000 in
theorem types_cat (W1 W2 C1 C2:Pv.R)(wb1 wb2 cb1 cb2:Nat)(c bb k tb k1 k2 ka kc l u:Nat)(at_:Int)(name text back:List UInt8)(re kids:Value)(w:World)(hT:Tab w)(hx:w.heap[k]?=some (.cells (CanC tb (.pointer none) (.pointer none) (.slice (some ⟨ka,0,none⟩) 2 kc) (.pointer none) (.pointer none)) 131))(ht:TermAt w tb 8 at_ name re text back kids)
  (hs0:w.cell? ⟨ka,0,none⟩=some (Ptr k1)) (hs1:w.cell? ⟨ka,1,none⟩=some (Ptr k2)) {t1 t2:Nat} {e1 e2 e3 e4 e5 e6:Value} (hk1:w.heap[k1]?=some (.cells (CanC t1 (Ptr wb1) (Ptr cb1) e1 e2 e3) 131)) (hk2:w.heap[k2]?=some (.cells (CanC t2 (Ptr wb2) (Ptr cb2) e4 e5 e6) 131))
  (hr1:ReAt H w W1 wb1) (hr2:ReAt H w W2 wb2) (hq1:ReAt H w C1 cb1) (hq2:ReAt H w C2 cb2) (hbud:BudAt w bb l u) (hbb:H bb) (hH:∀h,H h→h<w.heap.size) (hHk:H k) (hc:CkAt w c bb {}) (hl:l<274877906944)
  (z1:Pv.size W1+Pv.size W2+Pv.size C1+Pv.size C2<68719476736)
  (hk1k:k1≠k) (hk2k:k2≠k)
  (hd1:∀A B l1,Pv.build W1 l=(l1,some A)→(Pv.build W2 l1).2=some B→A.parts.length+B.parts.length≤12) (ha1:(Pv.ambigCat W1 W2 l).2=some none)
  (l1:Nat) (hl1:(Pv.ambigCat W1 W2 l).1=l1) (hl1l:l1<274877906944) (hd2:∀A B l2,Pv.build C1 l1=(l2,some A)→(Pv.build C2 l2).2=some B→A.parts.length+B.parts.length≤12) (ha2:(Pv.ambigCat C1 C2 l1).2=some none):
  Calls Tryz.prog 94 #[Ptr c,Ptr k] w fun e w'=>∃nb1 nb2,e = .returned (.bool true)∧w'.heap[k]?=some (.cells (CanC tb (Ptr nb1) (Ptr nb2) (.slice (some ⟨ka,0,none⟩) 2 kc) (.pointer none) (.pointer none)) 131)∧ReAt H w' (Pv.cat [W1,W2]) nb1∧ReAt H w' (Pv.cat [C1,C2]) nb2∧(∃u',BudAt w' bb (Pv.ambigCat C1 C2 l1).1 u')∧Keep (fun x=>x=k∨x=bb) w w':=by
 have x0:w.cell? ⟨k,0,none⟩=some (Ptr tb):=cB (o:=0) hx rfl;have x3:w.cell? ⟨k,3,none⟩=some (.slice (some ⟨ka,0,none⟩) 2 kc):=cB (o:=3) hx rfl;have t0:w.cell? ⟨tb,0,none⟩=some (.int .i64 8):=cB (o:=0) ht rfl;have p1:w.cell? ⟨k1,1,none⟩=some (Ptr wb1):=cB (o:=1) hk1 rfl;have p2:w.cell? ⟨k1,2,none⟩=some (Ptr cb1):=cB (o:=2) hk1 rfl;have r1:w.cell? ⟨k2,1,none⟩=some (Ptr wb2):=cB (o:=1) hk2 rfl
 have r2:w.cell? ⟨k2,2,none⟩=some (Ptr cb2):=cB (o:=2) hk2 rfl;have nft:∀x,¬(fun _:Nat=>False) x:=fun _ h=>h
 have n1:=nft k1;have n2:=nft k2;have hkt:tb≠k:=by rintro rfl;unfold TermAt at ht;rw[hx]at ht;cases ht
 have hkc:c≠k:=by rintro rfl;unfold CkAt at hc;rw[hx]at hc;cases hc
 have hkb:bb≠k:=by rintro rfl;have h2:=hbud.2;rw[hx]at h2;cases h2
 have HX:=Hy hx;have HTm:=Hy ht;have HT:=Hy hT;have HP1:=Hy hk1;have HP2:=Hy hk2;have HR1:=Hy hr1;have HR2:=Hy hr2;have HQ1:=Hy hq1;have HQ2:=Hy hq2;have HBud:=Hy hbud;have HH:=Hy hH;have HC:=Hy hc;have HD1:=Hy hd1;have HD2:=Hy hd2;have HE1:=Hy ha1;have HE2:=Hy ha2;have HL1:=Hy hl1;clear hx ht hT hk1 hk2 hr1 hr2 hq1 hq2 hbud hH hc hd1 hd2 ha1 ha2 hl1;go_enter Tryz.func94,Tryz.ntmps94
 go_wp2_with fail;refine Eag.region (.mov 0 (.mov 1 (.mov 2 (.mov 3 (.mov 4 (.mov 5 (.mov 6 (.mov 7 (.mov 8 (.mov 9 (.mov 10 (.mov 11 (.mov 12 (.mov 13 Eag.Sch.fin)))))))))))))) [] (by kernel_rfl) (by kernel_rfl) (fun K ops hops hK => ?_);iterate 14
  refine Eag.mov hops rfl rfl (fun w' hb => ?_) ?_
  ·have q0:=later hb x3;have q1:=later hb hs0;have q2:=later hb hs1;clear hb;go_simp
  go_simp
 refine Eag.fin (hK _ _ ?_);clear hK hops;go_simp;go_wp2_with fail;obtain⟨V,hV⟩:∃V,w.drew=V:=⟨_,rfl⟩
 have HB:Hid (Below w.heap.size w V.drew):=by rw[←hV];exact(Below.refl _ _).drew.drew
 replace p1:V.cell? ⟨k1,1,none⟩=some (Ptr wb1):=hV▸p1;replace p2:V.cell? ⟨k1,2,none⟩=some (Ptr cb1):=hV▸p2;replace r1:V.cell? ⟨k2,1,none⟩=some (Ptr wb2):=hV▸r1;replace r2:V.cell? ⟨k2,2,none⟩=some (Ptr cb2):=hV▸r2;rw[hV];clear hV t0 x0 x3 hs0 hs1
 refine Eaq.region (Keep fun _=>False) (.mov 0 (.mov 1 (.mov 2 (.mov 3 (.mov 4 (.mov 5 (.mov 6 (.mov 7 (.mov 8 (.mov 9 (.mov 12 (.mov 13 (.mov 14 (.mov 15 (.mov 16 (.mov 17 (.mov 18 (.mov 19 (.two 10 (.two 11 (.anc 20 (.anc 21 (.mov 22 (.mov 23 (.anc 24 (.mov 25 (.mov 26 (.anc 27 Eag.Sch.fin)))))))) 20 (.anc 11 (.anc 21 (.mov 22 (.mov 23 (.anc 24 (.mov 25 (.mov 26 (.anc 27 Eag.Sch.fin))))))))) 20 (.anc 10 (.anc 11 (.anc 21 (.mov 22 (.mov 23 (.anc 24 (.mov 25 (.mov 26 (.anc 27 Eag.Sch.fin)))))))))))))))))))))))))))) [24,27] [1] (by kernel_rfl) (by kernel_rfl) (fun K ops hops hK => ?_)
 iterate 18
  first
   | (refine Eaq.mov hops rfl rfl rfl (fun w' hb => ?_) ?_
      ·have q0:=Keep.cell hb n1 p1;have q1:=Keep.cell hb n1 p2;have q2:=Keep.cell hb n2 r1;have q3:=Keep.cell hb n2 r2;clear hb;go_simp)
   | (refine Eaq.movA hops rfl rfl (fun w' => ?_) ?_
      ·go_simp)
  go_simp
 clear p1 p2 r1 r2 n1 n2 nft;generalize V.drew=W at *;clear V;refine Eaq.two hops rfl rfl rfl rfl ?_ ?_
 ·
  go_wp2_with fail;refine⟨Keep.alloc _ _,?_⟩;have hy1:(W.alloc (.cells #[Ptr wb1,Ptr wb2] 59)).heap[W.heap.size]?=some (.cells #[Ptr wb1,Ptr wb2] 59):=blk_new rfl;have hbW:Below W.heap.size W (W.alloc (.cells #[Ptr wb1,Ptr wb2] 59)):=(Below.refl _ _).alloc (Nat.le_refl _) _;try replace HY2:=Hy (later_blk hbW HY2.out)
  have HY1:=Hy hy1;replace HB:=Hy (HB.out.trans (hbW.mono HB.out.size));clear hy1 hbW;generalize hw5:W.alloc (.cells #[Ptr wb1,Ptr wb2] 59)=V at *;clear hw5;generalize W.heap.size=g1 at *;clear W
  rename World=>W
  refine Eaq.two hops rfl rfl rfl rfl ?_ ?_
  ·
   go_wp2_with fail;refine(cat_any (H:=H) [W1,W2] _ 2 [wb1,wb2] W (Sl.of_blk2 HY1.out) (ResAt.append (ResAt.one (HR1.out.later HB.out)) (ResAt.one (HR2.out.later HB.out))) (fun h hh=>by have h1:=HH.out h hh;have h2:=HB.out.size;exact Nat.lt_of_lt_of_le h1 h2) (by simp[Pv.sizes];omega)).mono ?_;rintro e V ⟨nb1,rfl,hat,hbW⟩;refine⟨Keep.of_below hbW,?_⟩;try replace HY2:=Hy (later_blk hbW HY2.out)
   have HA1:=Hy hat;replace HB:=Hy (HB.out.trans (hbW.mono HB.out.size));clear hat hbW HY1;clear W
   rename World=>W
   refine Eaq.anc hops rfl rfl ?_;go_wp2_with fail;refine⟨Keep.alloc _ _,?_⟩;have hy2:(W.alloc (.cells #[Ptr cb1,Ptr cb2] 59)).heap[W.heap.size]?=some (.cells #[Ptr cb1,Ptr cb2] 59):=blk_new rfl;have hbW:Below W.heap.size W (W.alloc (.cells #[Ptr cb1,Ptr cb2] 59)):=(Below.refl _ _).alloc (Nat.le_refl _) _;try replace HY1:=Hy (later_blk hbW HY1.out)
   try replace HA1:=Hy (HA1.out.later hbW)
   have HY2:=Hy hy2;replace HB:=Hy (HB.out.trans (hbW.mono HB.out.size));clear hy2 hbW;generalize hw5:W.alloc (.cells #[Ptr cb1,Ptr cb2] 59)=V at *;clear hw5;generalize W.heap.size=g2 at *;clear W
   rename World=>W
   refine Eaq.anc hops rfl rfl ?_;go_wp2_with fail;refine(cat_any (H:=H) [C1,C2] _ 2 [cb1,cb2] W (Sl.of_blk2 HY2.out) (ResAt.append (ResAt.one (HQ1.out.later HB.out)) (ResAt.one (HQ2.out.later HB.out))) (fun h hh=>by have h1:=HH.out h hh;have h2:=HB.out.size;exact Nat.lt_of_lt_of_le h1 h2) (by simp[Pv.sizes];omega)).mono ?_;rintro e V ⟨nb2,rfl,hat,hbW⟩;refine⟨Keep.of_below hbW,?_⟩
   replace HA1:=Hy (HA1.out.later hbW);have HA2:=Hy hat;replace HB:=Hy (HB.out.trans (hbW.mono HB.out.size));clear hat hbW HY2;clear W
   rename World=>W
   have hx5:=later_blk HB.out HX.out;have fr:∀o,W.frozen? ⟨k,o,none⟩=false:=fun o=>fob hx5
   have c1:W.cell? ⟨k,1,none⟩=some (.pointer none):=cB (o:=1) hx5 rfl;have c2:W.cell? ⟨k,2,none⟩=some (.pointer none):=cB (o:=2) hx5 rfl;have HX5:=Hy hx5;clear hx5;go_simp;iterate 2
    first
     | (refine Eaq.mov hops rfl rfl rfl (fun w' hb => ?_) ?_
        ·clear hb;go_simp)
     | (refine Eaq.movA hops rfl rfl (fun w' => ?_) ?_
        ·go_simp)
    go_simp
   refine Eaq.anc hops rfl rfl ?_;go_wp2_with fail;iterate 2
    first
     | (refine Eaq.mov hops rfl rfl rfl (fun w' hb => ?_) ?_
        ·clear hb;go_simp)
     | (refine Eaq.movA hops rfl rfl (fun w' => ?_) ?_
        ·go_simp)
    go_simp
   refine Eaq.anc hops rfl rfl ?_;go_wp2_with fail;refine Eaq.fin (hK _ _ ?_);clear hK hops;go_simp;obtain⟨w2,hw2⟩:∃w2,(W.setCell ⟨k,1,none⟩ (Ptr nb1)).setCell ⟨k,2,none⟩ (Ptr nb2)=w2:=⟨_,rfl⟩
   have hk2:Keep (· = k) W w2:=by
    have K:∀(W:World) (o:Nat) (v:Value),Keep (· = k) W (W.setCell ⟨k,o,none⟩ v):=fun W o v=>Keep.set rfl
    rw[←hw2];exact(K _ _ _).trans (K _ _ _)
   have hx2:w2.heap[k]?=some (.cells (CanC tb (Ptr nb1) (Ptr nb2) (.slice (some ⟨ka,0,none⟩) 2 kc) (.pointer none) (.pointer none)) 131):=by rw[←hw2,blk_set (blk_set HX5.out)];rfl
   rw[hw2];clear hw2 c1 c2 fr;have hk02:Keep (· = k) w w2:=(Keep.of_below HB.out).trans hk2;have hkH0:Keep H w w2:=hk02.wide fun x e=> .inl (by rw[e];exact hHk)
   have hkH1:Keep H W w2:=hk2.wide fun x e=> .inl (by rw[e];exact hHk)
   have hP1:=hk02.blk hk1k HP1.out;have hP2:=hk02.blk hk2k HP2.out;have q1:w2.cell? ⟨k1,1,none⟩=some (Ptr wb1):=cB (o:=1) hP1 rfl;have q2:w2.cell? ⟨k1,2,none⟩=some (Ptr cb1):=cB (o:=2) hP1 rfl;have s1:w2.cell? ⟨k2,1,none⟩=some (Ptr wb2):=cB (o:=1) hP2 rfl;have s2:w2.cell? ⟨k2,2,none⟩=some (Ptr cb2):=cB (o:=2) hP2 rfl;have hc2:=HC.out.keep hk02 hkc;have hb2:BudAt w2 bb l u:=HBud.out.keep hk02 hkb
   have hcb:=hc2.ne_bud hb2;have m1:¬(fun x=>x=bb) k1:=fun e=>by have h2:=hb2.2;rw[show k1=bb from e]at hP1;rw[hP1]at h2;cases h2
   have m2:¬(fun x=>x=bb) k2:=fun e=>by have h2:=hb2.2;rw[show k2=bb from e]at hP2;rw[hP2]at h2;cases h2
   have hT2:Tab w2:=HT.out.keep hk02 (fun e=>HT.out.ne_ptr HX.out rfl e.symm);have HT2:=Hy hT2;have HC2:=Hy hc2;have HB2:=Hy hb2;have HX2:=Hy hx2;have HK2:=Hy hk02;have HN1:=Hy (HA1.out.keep hkH1);have HN2:=Hy (HA2.out.keep hkH1);have HG1:=Hy (HR1.out.keep hkH0);have HG2:=Hy (HR2.out.keep hkH0);have HG3:=Hy (HQ1.out.keep hkH0);have HG4:=Hy (HQ2.out.keep hkH0);have hsz2:=hk02.size
   clear hk2 hx2 hk02 hP1 hP2 hc2 hb2 hT2 hkH0 hkH1 HA1 HA2 HX5;go_wp2_with fail
   refine Eaq.region (Keep fun x=>x=bb) (.mov 0 (.mov 1 (.mov 2 (.mov 3 (.mov 4 (.mov 5 (.mov 6 (.mov 7 (.mov 8 (.mov 9 (.anc 10 (.mov 11 (.mov 12 (.mov 13 (.mov 14 (.mov 15 (.mov 16 (.mov 17 (.mov 18 (.mov 19 (.mov 20 (.mov 21 (.anc 22 (.mov 23 (.mov 24 Eag.Sch.fin))))))))))))))))))))))))) [] [] (by kernel_rfl) (by kernel_rfl) (fun K ops hops hK => ?_);iterate 10
    first
     | (refine Eaq.mov hops rfl rfl rfl (fun w' hb => ?_) ?_
        ·have q0:=Keep.cell hb m1 q1;have q1:=Keep.cell hb m2 s1;clear hb;go_simp)
     | (refine Eaq.movA hops rfl rfl (fun w' => ?_) ?_
        ·go_simp)
    go_simp
   refine Eaq.anc hops rfl rfl ?_;go_wp2_with fail
   refine(splits_none (H:=H) W1 W2 wb1 wb2 c bb l u w2.drew (HT2.out.later (Below.refl _ _).drew) (HG1.out.later (Below.refl _ _).drew) (HG2.out.later (Below.refl _ _).drew) (HB2.out.later (Below.refl _ _).drew) hbb (fun h hh=>by have h1:=HH.out h hh;exact Nat.lt_of_lt_of_le h1 hsz2) (by omega) (by omega) hl HD1.out (HC2.out.later (Below.refl _ _).drew) _ _ HE1.out).mono ?_
   rintro e w3 ⟨rfl,hc3,⟨u3,hb3⟩,hk3⟩;refine⟨hk3,?_⟩;rw[HL1.out]at hb3;have hk3':Keep (· = bb) w2 w3:=(Keep.drew _).trans hk3;have q2':=hk3'.cell m1 q2;have s2':=hk3'.cell m2 s2;have HC3:=Hy hc3;have HB3:=Hy hb3;have HK3:=Hy hk3';have hT3:Tab w3:=HT2.out.keep hk3' (fun e=>HT2.out.bud HB2.out e.symm);have HT3:=Hy hT3;have hkH3:Keep H w2 w3:=hk3'.wide fun x e=> .inl (by rw[e];exact hbb)
   have HG3':=Hy (HG3.out.keep hkH3);have HG4':=Hy (HG4.out.keep hkH3);have HN1':=Hy (HN1.out.keep hkH3);have HN2':=Hy (HN2.out.keep hkH3);have hsz3:=hk3'.size;clear hc3 hb3 hk3 hk3' hT3 hkH3 q1 q2 s1 s2;iterate 1
    first
     | (refine Eaq.mov hops rfl rfl rfl (fun w' hb => ?_) ?_
        ·clear hb;go_simp)
     | (refine Eaq.movA hops rfl rfl (fun w' => ?_) ?_
        ·go_simp)
    go_simp
   iterate 10
    refine Eaq.movG hops rfl rfl rfl (fun w' hb => ?_) ?_
    ·have q0:=Keep.cell hb m1 q2';have q1:=Keep.cell hb m2 s2';clear hb;go_simp
    go_simp
   refine Eaq.ancG hops rfl rfl ?_;go_wp2_with fail;refine(splits_none (H:=H) C1 C2 cb1 cb2 c bb l1 u3 w3 HT3.out HG3'.out HG4'.out HB3.out hbb (fun h hh=>by have h1:=HH.out h hh;omega) (by omega) (by omega) hl1l HD2.out HC3.out _ _ HE2.out).mono ?_;rintro e w4 ⟨rfl,hc4,⟨u4,hb4⟩,hk4⟩;refine⟨hk4,?_⟩;have hkH4:Keep H w3 w4:=hk4.wide fun x e=> .inl (by rw[e];exact hbb)
   have HFin:Hid (w4.heap[k]?=some (.cells (CanC tb (Ptr nb1) (Ptr nb2) (.slice (some ⟨ka,0,none⟩) 2 kc) (.pointer none) (.pointer none)) 131)∧ReAt H w4 (Pv.cat [W1,W2]) nb1∧ReAt H w4 (Pv.cat [C1,C2]) nb2∧(∃u',BudAt w4 bb (Pv.ambigCat C1 C2 l1).1 u')∧Keep (fun x=>x=k∨x=bb) w w4):=
    ⟨hk4.blk (fun e=>hkb e.symm) (HK3.out.blk (fun e=>hkb e.symm) HX2.out),HN1'.out.keep hkH4,HN2'.out.keep hkH4,⟨_,hb4⟩,((HK2.out.wide fun x e=> .inl (.inl e)).trans (HK3.out.wide fun x e=> .inl (.inr e))).trans (hk4.wide fun x e=> .inl (.inr e))⟩
   clear hc4 hb4 hk4 hkH4 q2' s2';iterate 2
    first
     | (refine Eaq.mov hops rfl rfl rfl (fun w' hb => ?_) ?_
        ·clear hb;go_simp)
     | (refine Eaq.movA hops rfl rfl (fun w' => ?_) ?_
        ·go_simp)
    go_simp
   refine Eaq.fin (hK _ _ ?_);clear hK hops;go_simp;go_wp2_with fail;refine bodyPost_ret (v:= .bool true) ?_ rfl ⟨nb1,nb2,rfl,HFin.out⟩;simp[results,Tryz.results94,go_sem]
  ·
   go_wp2_with fail;refine⟨Keep.alloc _ _,?_⟩;have hy2:(W.alloc (.cells #[Ptr cb1,Ptr cb2] 59)).heap[W.heap.size]?=some (.cells #[Ptr cb1,Ptr cb2] 59):=blk_new rfl;have hbW:Below W.heap.size W (W.alloc (.cells #[Ptr cb1,Ptr cb2] 59)):=(Below.refl _ _).alloc (Nat.le_refl _) _;try replace HY1:=Hy (later_blk hbW HY1.out)
   try replace HA1:=Hy (HA1.out.later hbW)
   have HY2:=Hy hy2;replace HB:=Hy (HB.out.trans (hbW.mono HB.out.size));clear hy2 hbW;generalize hw5:W.alloc (.cells #[Ptr cb1,Ptr cb2] 59)=V at *;clear hw5;generalize W.heap.size=g2 at *;clear W
   rename World=>W
   refine Eaq.anc hops rfl rfl ?_;go_wp2_with fail;refine(cat_any (H:=H) [W1,W2] _ 2 [wb1,wb2] W (Sl.of_blk2 HY1.out) (ResAt.append (ResAt.one (HR1.out.later HB.out)) (ResAt.one (HR2.out.later HB.out))) (fun h hh=>by have h1:=HH.out h hh;have h2:=HB.out.size;exact Nat.lt_of_lt_of_le h1 h2) (by simp[Pv.sizes];omega)).mono ?_;rintro e V ⟨nb1,rfl,hat,hbW⟩;refine⟨Keep.of_below hbW,?_⟩
   try replace HY2:=Hy (later_blk hbW HY2.out)
   have HA1:=Hy hat;replace HB:=Hy (HB.out.trans (hbW.mono HB.out.size));clear hat hbW HY1;clear W
   rename World=>W
   refine Eaq.anc hops rfl rfl ?_;go_wp2_with fail;refine(cat_any (H:=H) [C1,C2] _ 2 [cb1,cb2] W (Sl.of_blk2 HY2.out) (ResAt.append (ResAt.one (HQ1.out.later HB.out)) (ResAt.one (HQ2.out.later HB.out))) (fun h hh=>by have h1:=HH.out h hh;have h2:=HB.out.size;exact Nat.lt_of_lt_of_le h1 h2) (by simp[Pv.sizes];omega)).mono ?_;rintro e V ⟨nb2,rfl,hat,hbW⟩;refine⟨Keep.of_below hbW,?_⟩
   replace HA1:=Hy (HA1.out.later hbW);have HA2:=Hy hat;replace HB:=Hy (HB.out.trans (hbW.mono HB.out.size));clear hat hbW HY2;clear W
   rename World=>W
   have hx5:=later_blk HB.out HX.out;have fr:∀o,W.frozen? ⟨k,o,none⟩=false:=fun o=>fob hx5
   have c1:W.cell? ⟨k,1,none⟩=some (.pointer none):=cB (o:=1) hx5 rfl;have c2:W.cell? ⟨k,2,none⟩=some (.pointer none):=cB (o:=2) hx5 rfl;have HX5:=Hy hx5;clear hx5;go_simp;iterate 2
    first
     | (refine Eaq.mov hops rfl rfl rfl (fun w' hb => ?_) ?_
        ·clear hb;go_simp)
     | (refine Eaq.movA hops rfl rfl (fun w' => ?_) ?_
        ·go_simp)
    go_simp
   refine Eaq.anc hops rfl rfl ?_;go_wp2_with fail;iterate 2
    first
     | (refine Eaq.mov hops rfl rfl rfl (fun w' hb => ?_) ?_
        ·clear hb;go_simp)
     | (refine Eaq.movA hops rfl rfl (fun w' => ?_) ?_
        ·go_simp)
    go_simp
   refine Eaq.anc hops rfl rfl ?_;go_wp2_with fail;refine Eaq.fin (hK _ _ ?_);clear hK hops;go_simp;obtain⟨w2,hw2⟩:∃w2,(W.setCell ⟨k,1,none⟩ (Ptr nb1)).setCell ⟨k,2,none⟩ (Ptr nb2)=w2:=⟨_,rfl⟩
   have hk2:Keep (· = k) W w2:=by
    have K:∀(W:World) (o:Nat) (v:Value),Keep (· = k) W (W.setCell ⟨k,o,none⟩ v):=fun W o v=>Keep.set rfl
    rw[←hw2];exact(K _ _ _).trans (K _ _ _)
   have hx2:w2.heap[k]?=some (.cells (CanC tb (Ptr nb1) (Ptr nb2) (.slice (some ⟨ka,0,none⟩) 2 kc) (.pointer none) (.pointer none)) 131):=by rw[←hw2,blk_set (blk_set HX5.out)];rfl
   rw[hw2];clear hw2 c1 c2 fr;have hk02:Keep (· = k) w w2:=(Keep.of_below HB.out).trans hk2;have hkH0:Keep H w w2:=hk02.wide fun x e=> .inl (by rw[e];exact hHk)
   have hkH1:Keep H W w2:=hk2.wide fun x e=> .inl (by rw[e];exact hHk)
   have hP1:=hk02.blk hk1k HP1.out;have hP2:=hk02.blk hk2k HP2.out;have q1:w2.cell? ⟨k1,1,none⟩=some (Ptr wb1):=cB (o:=1) hP1 rfl;have q2:w2.cell? ⟨k1,2,none⟩=some (Ptr cb1):=cB (o:=2) hP1 rfl;have s1:w2.cell? ⟨k2,1,none⟩=some (Ptr wb2):=cB (o:=1) hP2 rfl;have s2:w2.cell? ⟨k2,2,none⟩=some (Ptr cb2):=cB (o:=2) hP2 rfl;have hc2:=HC.out.keep hk02 hkc;have hb2:BudAt w2 bb l u:=HBud.out.keep hk02 hkb
   have hcb:=hc2.ne_bud hb2;have m1:¬(fun x=>x=bb) k1:=fun e=>by have h2:=hb2.2;rw[show k1=bb from e]at hP1;rw[hP1]at h2;cases h2
   have m2:¬(fun x=>x=bb) k2:=fun e=>by have h2:=hb2.2;rw[show k2=bb from e]at hP2;rw[hP2]at h2;cases h2
   have hT2:Tab w2:=HT.out.keep hk02 (fun e=>HT.out.ne_ptr HX.out rfl e.symm);have HT2:=Hy hT2;have HC2:=Hy hc2;have HB2:=Hy hb2;have HX2:=Hy hx2;have HK2:=Hy hk02;have HN1:=Hy (HA1.out.keep hkH1);have HN2:=Hy (HA2.out.keep hkH1);have HG1:=Hy (HR1.out.keep hkH0);have HG2:=Hy (HR2.out.keep hkH0);have HG3:=Hy (HQ1.out.keep hkH0);have HG4:=Hy (HQ2.out.keep hkH0);have hsz2:=hk02.size
   clear hk2 hx2 hk02 hP1 hP2 hc2 hb2 hT2 hkH0 hkH1 HA1 HA2 HX5;go_wp2_with fail
   refine Eaq.region (Keep fun x=>x=bb) (.mov 0 (.mov 1 (.mov 2 (.mov 3 (.mov 4 (.mov 5 (.mov 6 (.mov 7 (.mov 8 (.mov 9 (.anc 10 (.mov 11 (.mov 12 (.mov 13 (.mov 14 (.mov 15 (.mov 16 (.mov 17 (.mov 18 (.mov 19 (.mov 20 (.mov 21 (.anc 22 (.mov 23 (.mov 24 Eag.Sch.fin))))))))))))))))))))))))) [] [] (by kernel_rfl) (by kernel_rfl) (fun K ops hops hK => ?_);iterate 10
    first
     | (refine Eaq.mov hops rfl rfl rfl (fun w' hb => ?_) ?_
        ·have q0:=Keep.cell hb m1 q1;have q1:=Keep.cell hb m2 s1;clear hb;go_simp)
     | (refine Eaq.movA hops rfl rfl (fun w' => ?_) ?_
        ·go_simp)
    go_simp
   refine Eaq.anc hops rfl rfl ?_;go_wp2_with fail
   refine(splits_none (H:=H) W1 W2 wb1 wb2 c bb l u w2.drew (HT2.out.later (Below.refl _ _).drew) (HG1.out.later (Below.refl _ _).drew) (HG2.out.later (Below.refl _ _).drew) (HB2.out.later (Below.refl _ _).drew) hbb (fun h hh=>by have h1:=HH.out h hh;exact Nat.lt_of_lt_of_le h1 hsz2) (by omega) (by omega) hl HD1.out (HC2.out.later (Below.refl _ _).drew) _ _ HE1.out).mono ?_
   rintro e w3 ⟨rfl,hc3,⟨u3,hb3⟩,hk3⟩;refine⟨hk3,?_⟩;rw[HL1.out]at hb3;have hk3':Keep (· = bb) w2 w3:=(Keep.drew _).trans hk3;have q2':=hk3'.cell m1 q2;have s2':=hk3'.cell m2 s2;have HC3:=Hy hc3;have HB3:=Hy hb3;have HK3:=Hy hk3';have hT3:Tab w3:=HT2.out.keep hk3' (fun e=>HT2.out.bud HB2.out e.symm);have HT3:=Hy hT3;have hkH3:Keep H w2 w3:=hk3'.wide fun x e=> .inl (by rw[e];exact hbb)
   have HG3':=Hy (HG3.out.keep hkH3);have HG4':=Hy (HG4.out.keep hkH3);have HN1':=Hy (HN1.out.keep hkH3);have HN2':=Hy (HN2.out.keep hkH3);have hsz3:=hk3'.size;clear hc3 hb3 hk3 hk3' hT3 hkH3 q1 q2 s1 s2;iterate 1
    first
     | (refine Eaq.mov hops rfl rfl rfl (fun w' hb => ?_) ?_
        ·clear hb;go_simp)
     | (refine Eaq.movA hops rfl rfl (fun w' => ?_) ?_
        ·go_simp)
    go_simp
   iterate 10
    refine Eaq.movG hops rfl rfl rfl (fun w' hb => ?_) ?_
    ·have q0:=Keep.cell hb m1 q2';have q1:=Keep.cell hb m2 s2';clear hb;go_simp
    go_simp
   refine Eaq.ancG hops rfl rfl ?_;go_wp2_with fail;refine(splits_none (H:=H) C1 C2 cb1 cb2 c bb l1 u3 w3 HT3.out HG3'.out HG4'.out HB3.out hbb (fun h hh=>by have h1:=HH.out h hh;omega) (by omega) (by omega) hl1l HD2.out HC3.out _ _ HE2.out).mono ?_;rintro e w4 ⟨rfl,hc4,⟨u4,hb4⟩,hk4⟩;refine⟨hk4,?_⟩;have hkH4:Keep H w3 w4:=hk4.wide fun x e=> .inl (by rw[e];exact hbb)
   have HFin:Hid (w4.heap[k]?=some (.cells (CanC tb (Ptr nb1) (Ptr nb2) (.slice (some ⟨ka,0,none⟩) 2 kc) (.pointer none) (.pointer none)) 131)∧ReAt H w4 (Pv.cat [W1,W2]) nb1∧ReAt H w4 (Pv.cat [C1,C2]) nb2∧(∃u',BudAt w4 bb (Pv.ambigCat C1 C2 l1).1 u')∧Keep (fun x=>x=k∨x=bb) w w4):=
    ⟨hk4.blk (fun e=>hkb e.symm) (HK3.out.blk (fun e=>hkb e.symm) HX2.out),HN1'.out.keep hkH4,HN2'.out.keep hkH4,⟨_,hb4⟩,((HK2.out.wide fun x e=> .inl (.inl e)).trans (HK3.out.wide fun x e=> .inl (.inr e))).trans (hk4.wide fun x e=> .inl (.inr e))⟩
   clear hc4 hb4 hk4 hkH4 q2' s2';iterate 2
    first
     | (refine Eaq.mov hops rfl rfl rfl (fun w' hb => ?_) ?_
        ·clear hb;go_simp)
     | (refine Eaq.movA hops rfl rfl (fun w' => ?_) ?_
        ·go_simp)
    go_simp
   refine Eaq.fin (hK _ _ ?_);clear hK hops;go_simp;go_wp2_with fail;refine bodyPost_ret (v:= .bool true) ?_ rfl ⟨nb1,nb2,rfl,HFin.out⟩;simp[results,Tryz.results94,go_sem]
 ·
  go_wp2_with fail;refine⟨Keep.alloc _ _,?_⟩;have hy2:(W.alloc (.cells #[Ptr cb1,Ptr cb2] 59)).heap[W.heap.size]?=some (.cells #[Ptr cb1,Ptr cb2] 59):=blk_new rfl;have hbW:Below W.heap.size W (W.alloc (.cells #[Ptr cb1,Ptr cb2] 59)):=(Below.refl _ _).alloc (Nat.le_refl _) _;try replace HY1:=Hy (later_blk hbW HY1.out)
  try replace HA1:=Hy (HA1.out.later hbW)
  have HY2:=Hy hy2;replace HB:=Hy (HB.out.trans (hbW.mono HB.out.size));clear hy2 hbW;generalize hw5:W.alloc (.cells #[Ptr cb1,Ptr cb2] 59)=V at *;clear hw5;generalize W.heap.size=g2 at *;clear W
  rename World=>W
  refine Eaq.anc hops rfl rfl ?_;go_wp2_with fail;refine⟨Keep.alloc _ _,?_⟩;have hy1:(W.alloc (.cells #[Ptr wb1,Ptr wb2] 59)).heap[W.heap.size]?=some (.cells #[Ptr wb1,Ptr wb2] 59):=blk_new rfl;have hbW:Below W.heap.size W (W.alloc (.cells #[Ptr wb1,Ptr wb2] 59)):=(Below.refl _ _).alloc (Nat.le_refl _) _;try replace HY2:=Hy (later_blk hbW HY2.out)
  have HY1:=Hy hy1;replace HB:=Hy (HB.out.trans (hbW.mono HB.out.size));clear hy1 hbW;generalize hw5:W.alloc (.cells #[Ptr wb1,Ptr wb2] 59)=V at *;clear hw5;generalize W.heap.size=g1 at *;clear W
  rename World=>W
  refine Eaq.anc hops rfl rfl ?_;go_wp2_with fail;refine(cat_any (H:=H) [W1,W2] _ 2 [wb1,wb2] W (Sl.of_blk2 HY1.out) (ResAt.append (ResAt.one (HR1.out.later HB.out)) (ResAt.one (HR2.out.later HB.out))) (fun h hh=>by have h1:=HH.out h hh;have h2:=HB.out.size;exact Nat.lt_of_lt_of_le h1 h2) (by simp[Pv.sizes];omega)).mono ?_;rintro e V ⟨nb1,rfl,hat,hbW⟩;refine⟨Keep.of_below hbW,?_⟩
  try replace HY2:=Hy (later_blk hbW HY2.out)
  have HA1:=Hy hat;replace HB:=Hy (HB.out.trans (hbW.mono HB.out.size));clear hat hbW HY1;clear W
  rename World=>W
  refine Eaq.anc hops rfl rfl ?_;go_wp2_with fail;refine(cat_any (H:=H) [C1,C2] _ 2 [cb1,cb2] W (Sl.of_blk2 HY2.out) (ResAt.append (ResAt.one (HQ1.out.later HB.out)) (ResAt.one (HQ2.out.later HB.out))) (fun h hh=>by have h1:=HH.out h hh;have h2:=HB.out.size;exact Nat.lt_of_lt_of_le h1 h2) (by simp[Pv.sizes];omega)).mono ?_;rintro e V ⟨nb2,rfl,hat,hbW⟩;refine⟨Keep.of_below hbW,?_⟩
  replace HA1:=Hy (HA1.out.later hbW);have HA2:=Hy hat;replace HB:=Hy (HB.out.trans (hbW.mono HB.out.size));clear hat hbW HY2;clear W
  rename World=>W
  have hx5:=later_blk HB.out HX.out;have fr:∀o,W.frozen? ⟨k,o,none⟩=false:=fun o=>fob hx5
  have c1:W.cell? ⟨k,1,none⟩=some (.pointer none):=cB (o:=1) hx5 rfl;have c2:W.cell? ⟨k,2,none⟩=some (.pointer none):=cB (o:=2) hx5 rfl;have HX5:=Hy hx5;clear hx5;go_simp;iterate 2
   first
    | (refine Eaq.mov hops rfl rfl rfl (fun w' hb => ?_) ?_
       ·clear hb;go_simp)
    | (refine Eaq.movA hops rfl rfl (fun w' => ?_) ?_
       ·go_simp)
   go_simp
  refine Eaq.anc hops rfl rfl ?_;go_wp2_with fail;iterate 2
   first
    | (refine Eaq.mov hops rfl rfl rfl (fun w' hb => ?_) ?_
       ·clear hb;go_simp)
    | (refine Eaq.movA hops rfl rfl (fun w' => ?_) ?_
       ·go_simp)
   go_simp
  refine Eaq.anc hops rfl rfl ?_;go_wp2_with fail;refine Eaq.fin (hK _ _ ?_);clear hK hops;go_simp;obtain⟨w2,hw2⟩:∃w2,(W.setCell ⟨k,1,none⟩ (Ptr nb1)).setCell ⟨k,2,none⟩ (Ptr nb2)=w2:=⟨_,rfl⟩
  have hk2:Keep (· = k) W w2:=by
   have K:∀(W:World) (o:Nat) (v:Value),Keep (· = k) W (W.setCell ⟨k,o,none⟩ v):=fun W o v=>Keep.set rfl
   rw[←hw2];exact(K _ _ _).trans (K _ _ _)
  have hx2:w2.heap[k]?=some (.cells (CanC tb (Ptr nb1) (Ptr nb2) (.slice (some ⟨ka,0,none⟩) 2 kc) (.pointer none) (.pointer none)) 131):=by rw[←hw2,blk_set (blk_set HX5.out)];rfl
  rw[hw2];clear hw2 c1 c2 fr;have hk02:Keep (· = k) w w2:=(Keep.of_below HB.out).trans hk2;have hkH0:Keep H w w2:=hk02.wide fun x e=> .inl (by rw[e];exact hHk)
  have hkH1:Keep H W w2:=hk2.wide fun x e=> .inl (by rw[e];exact hHk)
  have hP1:=hk02.blk hk1k HP1.out;have hP2:=hk02.blk hk2k HP2.out;have q1:w2.cell? ⟨k1,1,none⟩=some (Ptr wb1):=cB (o:=1) hP1 rfl;have q2:w2.cell? ⟨k1,2,none⟩=some (Ptr cb1):=cB (o:=2) hP1 rfl;have s1:w2.cell? ⟨k2,1,none⟩=some (Ptr wb2):=cB (o:=1) hP2 rfl;have s2:w2.cell? ⟨k2,2,none⟩=some (Ptr cb2):=cB (o:=2) hP2 rfl;have hc2:=HC.out.keep hk02 hkc;have hb2:BudAt w2 bb l u:=HBud.out.keep hk02 hkb
  have hcb:=hc2.ne_bud hb2;have m1:¬(fun x=>x=bb) k1:=fun e=>by have h2:=hb2.2;rw[show k1=bb from e]at hP1;rw[hP1]at h2;cases h2
  have m2:¬(fun x=>x=bb) k2:=fun e=>by have h2:=hb2.2;rw[show k2=bb from e]at hP2;rw[hP2]at h2;cases h2
  have hT2:Tab w2:=HT.out.keep hk02 (fun e=>HT.out.ne_ptr HX.out rfl e.symm);have HT2:=Hy hT2;have HC2:=Hy hc2;have HB2:=Hy hb2;have HX2:=Hy hx2;have HK2:=Hy hk02;have HN1:=Hy (HA1.out.keep hkH1);have HN2:=Hy (HA2.out.keep hkH1);have HG1:=Hy (HR1.out.keep hkH0);have HG2:=Hy (HR2.out.keep hkH0);have HG3:=Hy (HQ1.out.keep hkH0);have HG4:=Hy (HQ2.out.keep hkH0);have hsz2:=hk02.size
  clear hk2 hx2 hk02 hP1 hP2 hc2 hb2 hT2 hkH0 hkH1 HA1 HA2 HX5;go_wp2_with fail
  refine Eaq.region (Keep fun x=>x=bb) (.mov 0 (.mov 1 (.mov 2 (.mov 3 (.mov 4 (.mov 5 (.mov 6 (.mov 7 (.mov 8 (.mov 9 (.anc 10 (.mov 11 (.mov 12 (.mov 13 (.mov 14 (.mov 15 (.mov 16 (.mov 17 (.mov 18 (.mov 19 (.mov 20 (.mov 21 (.anc 22 (.mov 23 (.mov 24 Eag.Sch.fin))))))))))))))))))))))))) [] [] (by kernel_rfl) (by kernel_rfl) (fun K ops hops hK => ?_);iterate 10
   first
    | (refine Eaq.mov hops rfl rfl rfl (fun w' hb => ?_) ?_
       ·have q0:=Keep.cell hb m1 q1;have q1:=Keep.cell hb m2 s1;clear hb;go_simp)
    | (refine Eaq.movA hops rfl rfl (fun w' => ?_) ?_
       ·go_simp)
   go_simp
  refine Eaq.anc hops rfl rfl ?_;go_wp2_with fail
  refine(splits_none (H:=H) W1 W2 wb1 wb2 c bb l u w2.drew (HT2.out.later (Below.refl _ _).drew) (HG1.out.later (Below.refl _ _).drew) (HG2.out.later (Below.refl _ _).drew) (HB2.out.later (Below.refl _ _).drew) hbb (fun h hh=>by have h1:=HH.out h hh;exact Nat.lt_of_lt_of_le h1 hsz2) (by omega) (by omega) hl HD1.out (HC2.out.later (Below.refl _ _).drew) _ _ HE1.out).mono ?_
  rintro e w3 ⟨rfl,hc3,⟨u3,hb3⟩,hk3⟩;refine⟨hk3,?_⟩;rw[HL1.out]at hb3;have hk3':Keep (· = bb) w2 w3:=(Keep.drew _).trans hk3;have q2':=hk3'.cell m1 q2;have s2':=hk3'.cell m2 s2;have HC3:=Hy hc3;have HB3:=Hy hb3;have HK3:=Hy hk3';have hT3:Tab w3:=HT2.out.keep hk3' (fun e=>HT2.out.bud HB2.out e.symm);have HT3:=Hy hT3;have hkH3:Keep H w2 w3:=hk3'.wide fun x e=> .inl (by rw[e];exact hbb)
  have HG3':=Hy (HG3.out.keep hkH3);have HG4':=Hy (HG4.out.keep hkH3);have HN1':=Hy (HN1.out.keep hkH3);have HN2':=Hy (HN2.out.keep hkH3);have hsz3:=hk3'.size;clear hc3 hb3 hk3 hk3' hT3 hkH3 q1 q2 s1 s2;iterate 1
   first
    | (refine Eaq.mov hops rfl rfl rfl (fun w' hb => ?_) ?_
       ·clear hb;go_simp)
    | (refine Eaq.movA hops rfl rfl (fun w' => ?_) ?_
       ·go_simp)
   go_simp
  iterate 10
   refine Eaq.movG hops rfl rfl rfl (fun w' hb => ?_) ?_
   ·have q0:=Keep.cell hb m1 q2';have q1:=Keep.cell hb m2 s2';clear hb;go_simp
   go_simp
  refine Eaq.ancG hops rfl rfl ?_;go_wp2_with fail;refine(splits_none (H:=H) C1 C2 cb1 cb2 c bb l1 u3 w3 HT3.out HG3'.out HG4'.out HB3.out hbb (fun h hh=>by have h1:=HH.out h hh;omega) (by omega) (by omega) hl1l HD2.out HC3.out _ _ HE2.out).mono ?_;rintro e w4 ⟨rfl,hc4,⟨u4,hb4⟩,hk4⟩;refine⟨hk4,?_⟩;have hkH4:Keep H w3 w4:=hk4.wide fun x e=> .inl (by rw[e];exact hbb)
  have HFin:Hid (w4.heap[k]?=some (.cells (CanC tb (Ptr nb1) (Ptr nb2) (.slice (some ⟨ka,0,none⟩) 2 kc) (.pointer none) (.pointer none)) 131)∧ReAt H w4 (Pv.cat [W1,W2]) nb1∧ReAt H w4 (Pv.cat [C1,C2]) nb2∧(∃u',BudAt w4 bb (Pv.ambigCat C1 C2 l1).1 u')∧Keep (fun x=>x=k∨x=bb) w w4):=
   ⟨hk4.blk (fun e=>hkb e.symm) (HK3.out.blk (fun e=>hkb e.symm) HX2.out),HN1'.out.keep hkH4,HN2'.out.keep hkH4,⟨_,hb4⟩,((HK2.out.wide fun x e=> .inl (.inl e)).trans (HK3.out.wide fun x e=> .inl (.inr e))).trans (hk4.wide fun x e=> .inl (.inr e))⟩
  clear hc4 hb4 hk4 hkH4 q2' s2';iterate 2
   first
    | (refine Eaq.mov hops rfl rfl rfl (fun w' hb => ?_) ?_
       ·clear hb;go_simp)
    | (refine Eaq.movA hops rfl rfl (fun w' => ?_) ?_
       ·go_simp)
   go_simp
  refine Eaq.fin (hK _ _ ?_);clear hK hops;go_simp;go_wp2_with fail;refine bodyPost_ret (v:= .bool true) ?_ rfl ⟨nb1,nb2,rfl,HFin.out⟩;simp[results,Tryz.results94,go_sem]
end Go.Proofs.YtamkfdlcdiadlaaGreatDoor
