/- Canonizers: types of Cat, whatever the layers answer. -/
import Derived.Test.YtamkfdlcdiadlaaGreatDoorKb05
import Derived.Test.YtamkfdlcdiadlaaGreatDoorKb42
import Derived.Test.YtamkfdlcdiadlaaGreatDoorKb41
set_option linter.all false
namespace Go.Proofs.YtamkfdlcdiadlaaGreatDoor
open Go.RowKit Go.Maps
variable {H:Nat→Prop}
set_option maxRecDepth 20000 in
set_option maxHeartbeats 2000000 in
theorem types_cat_all (T:Pv.T)(hop:T.op=8)(W1 W2 C1 C2:Pv.R)(wb1 wb2 cb1 cb2:Nat)(c bb k tb k1 k2 ka kc l u:Nat)(name text back:List UInt8)(re kids:Value)(w:World)(hT:Tab w)(hx:w.heap[k]?=some (.cells (CanC tb (.pointer none) (.pointer none) (.slice (some ⟨ka,0,none⟩) 2 kc) (.pointer none) (.pointer none)) 131))(ht:TermAt w tb 8 T.at_ name re text back kids)
  (hs0:w.cell? ⟨ka,0,none⟩=some (Ptr k1)) (hs1:w.cell? ⟨ka,1,none⟩=some (Ptr k2)) {t1 t2:Nat} {e1 e2 e3 e4 e5 e6:Value} (hk1:w.heap[k1]?=some (.cells (CanC t1 (Ptr wb1) (Ptr cb1) e1 e2 e3) 131)) (hk2:w.heap[k2]?=some (.cells (CanC t2 (Ptr wb2) (Ptr cb2) e4 e5 e6) 131))
  (hr1:ReAt H w W1 wb1) (hr2:ReAt H w W2 wb2) (hq1:ReAt H w C1 cb1) (hq2:ReAt H w C2 cb2) (hbud:BudAt w bb l u) (hbb:H bb) (hH:∀h,H h→h<w.heap.size) (hHk:H k) (hHc:H c) (hc:CkAt w c bb {}) (hl:l<274877906944)
  (z1:Pv.size W1+Pv.size W2+Pv.size C1+Pv.size C2<68719476736) (hk1k:k1≠k) (hk2k:k2≠k)
  (hd1:∀l A B l1,Pv.build W1 l=(l1,some A)→(Pv.build W2 l1).2=some B→A.parts.length+B.parts.length≤12) (hd2:∀l A B l1,Pv.build C1 l=(l1,some A)→(Pv.build C2 l1).2=some B→A.parts.length+B.parts.length≤12):
  Calls Tryz.prog 94 #[Ptr c,Ptr k] w (TyOut H c bb k tb (.slice (some ⟨ka,0,none⟩) 2 kc) l u (Pv.Ck.both (({ left:=l }:Pv.Ck).splits T false W1 W2) fun c=>c.splits T true C1 C2) (Pv.cat [W1,W2]) (Pv.cat [C1,C2]) w):=by
 have HD1:=Hy hd1;have HD2:=Hy hd2;clear hd1 hd2;have x0:w.cell? ⟨k,0,none⟩=some (Ptr tb):=cB (o:=0) hx rfl;have x3:w.cell? ⟨k,3,none⟩=some (.slice (some ⟨ka,0,none⟩) 2 kc):=cB (o:=3) hx rfl;have t0:w.cell? ⟨tb,0,none⟩=some (.int .i64 8):=cB (o:=0) ht rfl;have p1:w.cell? ⟨k1,1,none⟩=some (Ptr wb1):=cB (o:=1) hk1 rfl;have p2:w.cell? ⟨k1,2,none⟩=some (Ptr cb1):=cB (o:=2) hk1 rfl
 have r1:w.cell? ⟨k2,1,none⟩=some (Ptr wb2):=cB (o:=1) hk2 rfl;have r2:w.cell? ⟨k2,2,none⟩=some (Ptr cb2):=cB (o:=2) hk2 rfl;have nft:∀x,¬(fun _:Nat=>False) x:=fun _ h=>h
 have n1:=nft k1;have n2:=nft k2;have hkt:tb≠k:=by rintro rfl;unfold TermAt at ht;rw[hx]at ht;cases ht
 have hkc:c≠k:=by rintro rfl;unfold CkAt at hc;rw[hx]at hc;cases hc
 have hkb:bb≠k:=by rintro rfl;have h2:=hbud.2;rw[hx]at h2;cases h2
 have HX:=Hy hx;have HTm:=Hy ht;have HT:=Hy hT;have HP1:=Hy hk1;have HP2:=Hy hk2;have HR1:=Hy hr1;have HR2:=Hy hr2;have HQ1:=Hy hq1;have HQ2:=Hy hq2;have HBud:=Hy hbud;have HH:=Hy hH;have HC:=Hy hc;clear hx ht hT hk1 hk2 hr1 hr2 hq1 hq2 hbud hH hc;go_enter Tryz.func94,Tryz.ntmps94;go_wp2_with fail
 refine Eag.region (.mov 0 (.mov 1 (.mov 2 (.mov 3 (.mov 4 (.mov 5 (.mov 6 (.mov 7 (.mov 8 (.mov 9 (.mov 10 (.mov 11 (.mov 12 (.mov 13 Eag.Sch.fin)))))))))))))) [] (by kernel_rfl) (by kernel_rfl) (fun K ops hops hK => ?_);iterate 14
  refine Eag.mov hops rfl rfl (fun w' hb => ?_) ?_
  ·have q0:=later hb x3;have q1:=later hb hs0;have q2:=later hb hs1;clear hb;go_simp
  go_simp
 refine Eag.fin (hK _ _ ?_);clear hK hops;go_simp;go_upto_region 17 with fail
 go_cut [] from 155 to 180 (fun wx=>TyR H k tb (.slice (some ⟨ka,0,none⟩) 2 kc) (Pv.cat [W1,W2]) (Pv.cat [C1,C2]) wx∧Keep (· = k) w wx)
 case first=>
  obtain⟨V,hV⟩:∃V,w.drew=V:=⟨_,rfl⟩
  have HB:Hid (Below w.heap.size w V.drew):=by rw[←hV];exact(Below.refl _ _).drew.drew
  replace p1:V.cell? ⟨k1,1,none⟩=some (Ptr wb1):=hV▸p1;replace p2:V.cell? ⟨k1,2,none⟩=some (Ptr cb1):=hV▸p2;replace r1:V.cell? ⟨k2,1,none⟩=some (Ptr wb2):=hV▸r1;replace r2:V.cell? ⟨k2,2,none⟩=some (Ptr cb2):=hV▸r2;rw[hV];clear hV t0 x0 x3 hs0 hs1
  refine Eaq.region (Keep fun _=>False) (.mov 0 (.mov 1 (.mov 2 (.mov 3 (.mov 4 (.mov 5 (.mov 6 (.mov 7 (.mov 8 (.mov 9 (.mov 12 (.mov 13 (.mov 14 (.mov 15 (.mov 16 (.mov 17 (.mov 18 (.mov 19 (.two 10 (.two 11 (.anc 20 (.anc 21 (.mov 22 (.mov 23 (.anc 24 (.mov 25 (.mov 26 (.anc 27 Eag.Sch.fin)))))))) 20 (.anc 11 (.anc 21 (.mov 22 (.mov 23 (.anc 24 (.mov 25 (.mov 26 (.anc 27 Eag.Sch.fin))))))))) 20 (.anc 10 (.anc 11 (.anc 21 (.mov 22 (.mov 23 (.anc 24 (.mov 25 (.mov 26 (.anc 27 Eag.Sch.fin)))))))))))))))))))))))))))) [24,27] [1] (by kernel_rfl) (by kernel_rfl) (fun K ops hops hK => ?_)
  iterate 18
   first
    | (refine Eaq.mov hops rfl rfl rfl (fun w' hb => ?_) ?_
       ·have q0:=Keep.cell hb n1 p1;have q1:=Keep.cell hb n1 p2;have q2:=Keep.cell hb n2 r1;have q3:=Keep.cell hb n2 r2;clear hb;go_simp)
    | (refine Eaq.movA hops rfl rfl (fun w' => ?_) ?_
       ·go_simp)
   go_simp
  clear p1 p2 r1 r2 n1 n2 nft;generalize V.drew=W at *;clear V;refine Eaq.two hops rfl rfl rfl rfl ?_ ?_
  ·
   go_wp2_with fail;refine⟨Keep.alloc _ _,?_⟩;have hy1:(W.alloc (.cells #[Ptr wb1,Ptr wb2] 59)).heap[W.heap.size]?=some (.cells #[Ptr wb1,Ptr wb2] 59):=blk_new rfl;have hbW:Below W.heap.size W (W.alloc (.cells #[Ptr wb1,Ptr wb2] 59)):=(Below.refl _ _).alloc (Nat.le_refl _) _;try replace HY2:=Hy (later_blk hbW HY2.out)
   have HY1:=Hy hy1;replace HB:=Hy (HB.out.trans (hbW.mono HB.out.size));clear hy1 hbW;generalize hw5:W.alloc (.cells #[Ptr wb1,Ptr wb2] 59)=V at *;clear hw5;generalize W.heap.size=g1 at *;clear W
   rename World=>W
   refine Eaq.two hops rfl rfl rfl rfl ?_ ?_
   ·
    go_wp2_with fail;refine(cat_any (H:=H) [W1,W2] _ 2 [wb1,wb2] W (Sl.of_blk2 HY1.out) (ResAt.append (ResAt.one (HR1.out.later HB.out)) (ResAt.one (HR2.out.later HB.out))) (fun h hh=>by have h1:=HH.out h hh;have h2:=HB.out.size;exact Nat.lt_of_lt_of_le h1 h2) (by simp[Pv.sizes];omega)).mono ?_;rintro e V ⟨nb1,rfl,hat,hbW⟩;refine⟨Keep.of_below hbW,?_⟩;try replace HY2:=Hy (later_blk hbW HY2.out)
    have HA1:=Hy hat;replace HB:=Hy (HB.out.trans (hbW.mono HB.out.size));clear hat hbW HY1;clear W
    rename World=>W
    refine Eaq.anc hops rfl rfl ?_;go_wp2_with fail;refine⟨Keep.alloc _ _,?_⟩;have hy2:(W.alloc (.cells #[Ptr cb1,Ptr cb2] 59)).heap[W.heap.size]?=some (.cells #[Ptr cb1,Ptr cb2] 59):=blk_new rfl;have hbW:Below W.heap.size W (W.alloc (.cells #[Ptr cb1,Ptr cb2] 59)):=(Below.refl _ _).alloc (Nat.le_refl _) _;try replace HY1:=Hy (later_blk hbW HY1.out)
    try replace HA1:=Hy (HA1.out.later hbW)
    have HY2:=Hy hy2;replace HB:=Hy (HB.out.trans (hbW.mono HB.out.size));clear hy2 hbW;generalize hw5:W.alloc (.cells #[Ptr cb1,Ptr cb2] 59)=V at *;clear hw5;generalize W.heap.size=g2 at *;clear W
    rename World=>W
    refine Eaq.anc hops rfl rfl ?_;go_wp2_with fail;refine(cat_any (H:=H) [C1,C2] _ 2 [cb1,cb2] W (Sl.of_blk2 HY2.out) (ResAt.append (ResAt.one (HQ1.out.later HB.out)) (ResAt.one (HQ2.out.later HB.out))) (fun h hh=>by have h1:=HH.out h hh;have h2:=HB.out.size;exact Nat.lt_of_lt_of_le h1 h2) (by simp[Pv.sizes];omega)).mono ?_;rintro e V ⟨nb2,rfl,hat,hbW⟩;refine⟨Keep.of_below hbW,?_⟩
    replace HA1:=Hy (HA1.out.later hbW);have HA2:=Hy hat;replace HB:=Hy (HB.out.trans (hbW.mono HB.out.size));clear hat hbW HY2;clear W
    rename World=>W
    have hx5:=later_blk HB.out HX.out;have fr:∀o,W.frozen? ⟨k,o,none⟩=false:=fun o=>fob hx5
    have c1:W.cell? ⟨k,1,none⟩=some (.pointer none):=cB (o:=1) hx5 rfl;have c2:W.cell? ⟨k,2,none⟩=some (.pointer none):=cB (o:=2) hx5 rfl;have HX5:=Hy hx5;clear hx5;go_simp;iterate 2
     first
      | (refine Eaq.mov hops rfl rfl rfl (fun w' hb => ?_) ?_
         ·clear hb;go_simp)
      | (refine Eaq.movA hops rfl rfl (fun w' => ?_) ?_
         ·go_simp)
     go_simp
    refine Eaq.anc hops rfl rfl ?_;go_wp2_with fail;iterate 2
     first
      | (refine Eaq.mov hops rfl rfl rfl (fun w' hb => ?_) ?_
         ·clear hb;go_simp)
      | (refine Eaq.movA hops rfl rfl (fun w' => ?_) ?_
         ·go_simp)
     go_simp
    refine Eaq.anc hops rfl rfl ?_;go_wp2_with fail;refine Eaq.fin (hK _ _ ?_);clear hK hops;go_simp;go_wp2_with fail;go_meet;first
     | exact ty_meet HX5.out HB.out HA1.out HA2.out hHk
     | exact ty_meetD (ty_meet HX5.out HB.out HA1.out HA2.out hHk)
   ·
    go_wp2_with fail;refine⟨Keep.alloc _ _,?_⟩;have hy2:(W.alloc (.cells #[Ptr cb1,Ptr cb2] 59)).heap[W.heap.size]?=some (.cells #[Ptr cb1,Ptr cb2] 59):=blk_new rfl;have hbW:Below W.heap.size W (W.alloc (.cells #[Ptr cb1,Ptr cb2] 59)):=(Below.refl _ _).alloc (Nat.le_refl _) _;try replace HY1:=Hy (later_blk hbW HY1.out)
    try replace HA1:=Hy (HA1.out.later hbW)
    have HY2:=Hy hy2;replace HB:=Hy (HB.out.trans (hbW.mono HB.out.size));clear hy2 hbW;generalize hw5:W.alloc (.cells #[Ptr cb1,Ptr cb2] 59)=V at *;clear hw5;generalize W.heap.size=g2 at *;clear W
    rename World=>W
    refine Eaq.anc hops rfl rfl ?_;go_wp2_with fail;refine(cat_any (H:=H) [W1,W2] _ 2 [wb1,wb2] W (Sl.of_blk2 HY1.out) (ResAt.append (ResAt.one (HR1.out.later HB.out)) (ResAt.one (HR2.out.later HB.out))) (fun h hh=>by have h1:=HH.out h hh;have h2:=HB.out.size;exact Nat.lt_of_lt_of_le h1 h2) (by simp[Pv.sizes];omega)).mono ?_;rintro e V ⟨nb1,rfl,hat,hbW⟩;refine⟨Keep.of_below hbW,?_⟩
    try replace HY2:=Hy (later_blk hbW HY2.out)
    have HA1:=Hy hat;replace HB:=Hy (HB.out.trans (hbW.mono HB.out.size));clear hat hbW HY1;clear W
    rename World=>W
    refine Eaq.anc hops rfl rfl ?_;go_wp2_with fail;refine(cat_any (H:=H) [C1,C2] _ 2 [cb1,cb2] W (Sl.of_blk2 HY2.out) (ResAt.append (ResAt.one (HQ1.out.later HB.out)) (ResAt.one (HQ2.out.later HB.out))) (fun h hh=>by have h1:=HH.out h hh;have h2:=HB.out.size;exact Nat.lt_of_lt_of_le h1 h2) (by simp[Pv.sizes];omega)).mono ?_;rintro e V ⟨nb2,rfl,hat,hbW⟩;refine⟨Keep.of_below hbW,?_⟩
    replace HA1:=Hy (HA1.out.later hbW);have HA2:=Hy hat;replace HB:=Hy (HB.out.trans (hbW.mono HB.out.size));clear hat hbW HY2;clear W
    rename World=>W
    have hx5:=later_blk HB.out HX.out;have fr:∀o,W.frozen? ⟨k,o,none⟩=false:=fun o=>fob hx5
    have c1:W.cell? ⟨k,1,none⟩=some (.pointer none):=cB (o:=1) hx5 rfl;have c2:W.cell? ⟨k,2,none⟩=some (.pointer none):=cB (o:=2) hx5 rfl;have HX5:=Hy hx5;clear hx5;go_simp;iterate 2
     first
      | (refine Eaq.mov hops rfl rfl rfl (fun w' hb => ?_) ?_
         ·clear hb;go_simp)
      | (refine Eaq.movA hops rfl rfl (fun w' => ?_) ?_
         ·go_simp)
     go_simp
    refine Eaq.anc hops rfl rfl ?_;go_wp2_with fail;iterate 2
     first
      | (refine Eaq.mov hops rfl rfl rfl (fun w' hb => ?_) ?_
         ·clear hb;go_simp)
      | (refine Eaq.movA hops rfl rfl (fun w' => ?_) ?_
         ·go_simp)
     go_simp
    refine Eaq.anc hops rfl rfl ?_;go_wp2_with fail;refine Eaq.fin (hK _ _ ?_);clear hK hops;go_simp;go_wp2_with fail;go_meet;first
     | exact ty_meet HX5.out HB.out HA1.out HA2.out hHk
     | exact ty_meetD (ty_meet HX5.out HB.out HA1.out HA2.out hHk)
  ·
   go_wp2_with fail;refine⟨Keep.alloc _ _,?_⟩;have hy2:(W.alloc (.cells #[Ptr cb1,Ptr cb2] 59)).heap[W.heap.size]?=some (.cells #[Ptr cb1,Ptr cb2] 59):=blk_new rfl;have hbW:Below W.heap.size W (W.alloc (.cells #[Ptr cb1,Ptr cb2] 59)):=(Below.refl _ _).alloc (Nat.le_refl _) _;try replace HY1:=Hy (later_blk hbW HY1.out)
   try replace HA1:=Hy (HA1.out.later hbW)
   have HY2:=Hy hy2;replace HB:=Hy (HB.out.trans (hbW.mono HB.out.size));clear hy2 hbW;generalize hw5:W.alloc (.cells #[Ptr cb1,Ptr cb2] 59)=V at *;clear hw5;generalize W.heap.size=g2 at *;clear W
   rename World=>W
   refine Eaq.anc hops rfl rfl ?_;go_wp2_with fail;refine⟨Keep.alloc _ _,?_⟩;have hy1:(W.alloc (.cells #[Ptr wb1,Ptr wb2] 59)).heap[W.heap.size]?=some (.cells #[Ptr wb1,Ptr wb2] 59):=blk_new rfl;have hbW:Below W.heap.size W (W.alloc (.cells #[Ptr wb1,Ptr wb2] 59)):=(Below.refl _ _).alloc (Nat.le_refl _) _;try replace HY2:=Hy (later_blk hbW HY2.out)
   have HY1:=Hy hy1;replace HB:=Hy (HB.out.trans (hbW.mono HB.out.size));clear hy1 hbW;generalize hw5:W.alloc (.cells #[Ptr wb1,Ptr wb2] 59)=V at *;clear hw5;generalize W.heap.size=g1 at *;clear W
   rename World=>W
   refine Eaq.anc hops rfl rfl ?_;go_wp2_with fail;refine(cat_any (H:=H) [W1,W2] _ 2 [wb1,wb2] W (Sl.of_blk2 HY1.out) (ResAt.append (ResAt.one (HR1.out.later HB.out)) (ResAt.one (HR2.out.later HB.out))) (fun h hh=>by have h1:=HH.out h hh;have h2:=HB.out.size;exact Nat.lt_of_lt_of_le h1 h2) (by simp[Pv.sizes];omega)).mono ?_;rintro e V ⟨nb1,rfl,hat,hbW⟩;refine⟨Keep.of_below hbW,?_⟩
   try replace HY2:=Hy (later_blk hbW HY2.out)
   have HA1:=Hy hat;replace HB:=Hy (HB.out.trans (hbW.mono HB.out.size));clear hat hbW HY1;clear W
   rename World=>W
   refine Eaq.anc hops rfl rfl ?_;go_wp2_with fail;refine(cat_any (H:=H) [C1,C2] _ 2 [cb1,cb2] W (Sl.of_blk2 HY2.out) (ResAt.append (ResAt.one (HQ1.out.later HB.out)) (ResAt.one (HQ2.out.later HB.out))) (fun h hh=>by have h1:=HH.out h hh;have h2:=HB.out.size;exact Nat.lt_of_lt_of_le h1 h2) (by simp[Pv.sizes];omega)).mono ?_;rintro e V ⟨nb2,rfl,hat,hbW⟩;refine⟨Keep.of_below hbW,?_⟩
   replace HA1:=Hy (HA1.out.later hbW);have HA2:=Hy hat;replace HB:=Hy (HB.out.trans (hbW.mono HB.out.size));clear hat hbW HY2;clear W
   rename World=>W
   have hx5:=later_blk HB.out HX.out;have fr:∀o,W.frozen? ⟨k,o,none⟩=false:=fun o=>fob hx5
   have c1:W.cell? ⟨k,1,none⟩=some (.pointer none):=cB (o:=1) hx5 rfl;have c2:W.cell? ⟨k,2,none⟩=some (.pointer none):=cB (o:=2) hx5 rfl;have HX5:=Hy hx5;clear hx5;go_simp;iterate 2
    first
     | (refine Eaq.mov hops rfl rfl rfl (fun w' hb => ?_) ?_
        ·clear hb;go_simp)
     | (refine Eaq.movA hops rfl rfl (fun w' => ?_) ?_
        ·go_simp)
    go_simp
   refine Eaq.anc hops rfl rfl ?_;go_wp2_with fail;iterate 2
    first
     | (refine Eaq.mov hops rfl rfl rfl (fun w' hb => ?_) ?_
        ·clear hb;go_simp)
     | (refine Eaq.movA hops rfl rfl (fun w' => ?_) ?_
        ·go_simp)
    go_simp
   refine Eaq.anc hops rfl rfl ?_;go_wp2_with fail;refine Eaq.fin (hK _ _ ?_);clear hK hops;go_simp;go_wp2_with fail;go_meet;first
    | exact ty_meet HX5.out HB.out HA1.out HA2.out hHk
    | exact ty_meetD (ty_meet HX5.out HB.out HA1.out HA2.out hHk)
 case rest=>
 obtain⟨hty,hk02⟩:=hcut;have hkH0:Keep H w wc:=hk02.wide fun x e=> .inl (by rw[e];exact hHk)
 have hP1:=hk02.blk hk1k HP1.out;have hP2:=hk02.blk hk2k HP2.out;have q1:wc.cell? ⟨k1,1,none⟩=some (Ptr wb1):=cB (o:=1) hP1 rfl;have q2:wc.cell? ⟨k1,2,none⟩=some (Ptr cb1):=cB (o:=2) hP1 rfl;have s1:wc.cell? ⟨k2,1,none⟩=some (Ptr wb2):=cB (o:=1) hP2 rfl;have s2:wc.cell? ⟨k2,2,none⟩=some (Ptr cb2):=cB (o:=2) hP2 rfl;have hc2:=HC.out.keep hk02 hkc;have hb2:BudAt wc bb l u:=HBud.out.keep hk02 hkb
 have ht2:=TermAt.head (hk02.blk hkt HTm.out);have m1:¬askT c bb k1:=fun e=>by
  rcases e with e|e
  ·have h2:=hc2;unfold CkAt at h2;rw[←e,hP1]at h2;cases h2
  ·have h2:=hb2.2;rw[←e,hP1]at h2;cases h2
 have m2:¬askT c bb k2:=fun e=>by
  rcases e with e|e
  ·have h2:=hc2;unfold CkAt at h2;rw[←e,hP2]at h2;cases h2
  ·have h2:=hb2.2;rw[←e,hP2]at h2;cases h2
 have mk:¬askT c bb k:=fun e=>by
  rcases e with e|e
  ·exact hkc e.symm
  ·exact hkb e.symm
 have hT2:Tab wc:=HT.out.keep hk02 (fun e=>HT.out.ne_ptr HX.out rfl e.symm);have hsz2:=hk02.size;have hHlt:∀h,H h→h<wc.heap.size:=fun h hh=>Nat.lt_of_lt_of_le (HH.out h hh) hsz2
 have hasH:∀x,askT c bb x→H x:=fun x e=>by
  rcases e with e|e
  ·rw[e];exact hHc
  ·rw[e];exact hbb
 have hG1:=HR1.out.keep hkH0;have hG2:=HR2.out.keep hkH0;have hG3:=HQ1.out.keep hkH0;have hG4:=HQ2.out.keep hkH0;rw[show(8:Nat)=T.op from hop.symm]at ht2
 have hsp:=splits_all (H:=H) W1 W2 wb1 wb2 c bb l u wc.drew (hT2.later (Below.refl _ _).drew) (hG1.later (Below.refl _ _).drew) (hG2.later (Below.refl _ _).drew) (hb2.later (Below.refl _ _).drew) hbb hHlt (by omega) (by omega) hl (HD1.out l) (hc2.later (Below.refl _ _).drew) tb T (HeadAt.later ht2 (Below.refl _ _).drew) false;have hle:=Pv.ambigCat_le W1 W2 l
 obtain⟨⟨ck,b⟩,hqe⟩:∃q,({ left:=l }:Pv.Ck).splits T false W1 W2=q:=⟨_,rfl⟩
 rw[hqe]at hsp;have HSp:=Hy hsp;have HTy:=Hy hty;have HK2:=Hy hk02;have HG3:=Hy hG3;have HG4:=Hy hG4;have HT2:=Hy hT2;have HTm2:=Hy ht2;have hcb:c≠bb:=hc2.ne_bud hb2;have HBw:=Hy hb2;have hnt:¬askT c bb tb:=fun e=>by
  obtain⟨cs,h3,_⟩:=ht2;rcases e with e|e
  ·have h2:=hc2;unfold CkAt at h2;rw[←e,h3]at h2;cases h2
  ·have h2:=hb2.2;rw[←e,h3]at h2;cases h2
 have hn0:¬askT c bb 0:=fun e=>by
  rcases e with e|e
  ·exact hT2.ne_ptr hc2 rfl e.symm
  ·exact hT2.bud hb2 e.symm
 clear hsp hty hk02 hkH0 hP1 hP2 hc2 hb2 ht2 hT2 hG1 hG2 hG3 hG4 hs0 hs1 x0 x3 t0 p1 p2 r1 r2 n1 n2 nft;cases b with
 | false=>
   have HQE:=Hy hqe;clear hqe q2 s2;go_wp2_with fail
   refine Eaq.region (Keep (askT c bb)) (.mov 0 (.mov 1 (.mov 2 (.mov 3 (.mov 4 (.mov 5 (.mov 6 (.mov 7 (.mov 8 (.mov 9 (.anc 10 (.mov 11 (.mov 12 (.mov 13 (.mov 14 (.mov 15 (.mov 16 (.mov 17 (.mov 18 (.mov 19 (.mov 20 (.mov 21 (.anc 22 (.mov 23 (.mov 24 Eag.Sch.fin))))))))))))))))))))))))) [] [] (by kernel_rfl) (by kernel_rfl) (fun K ops hops hK => ?_);iterate 10
    first
     | (refine Eaq.mov hops rfl rfl rfl (fun w' hb => ?_) ?_
        ·have q0:=Keep.cell hb m1 q1;have q1:=Keep.cell hb m2 s1;clear hb;go_simp)
     | (refine Eaq.movA hops rfl rfl (fun w' => ?_) ?_
        ·go_simp)
    go_simp
   refine Eaq.anc hops rfl rfl ?_;go_wp2_with fail;refine HSp.out.mono ?_;rintro e w3 ⟨rfl,hc3,hb3,hk3⟩;refine⟨hk3,?_⟩;have hk3':Keep (askT c bb) wc w3:=(Keep.drew _).trans hk3;have HFin:Hid (TyOut H c bb k tb (.slice (some ⟨ka,0,none⟩) 2 kc) l u (Pv.Ck.both (({ left:=l }:Pv.Ck).splits T false W1 W2) fun c=>c.splits T true C1 C2) (Pv.cat [W1,W2]) (Pv.cat [C1,C2]) w (.returned (.bool false)) w3):=by
    rw[HQE.out];exact⟨rfl,HTy.out.keep hk3' hasH mk,hc3,hb3,(HK2.out.wide fun x e=> .inl (.inl e)).trans (hk3'.wide fun x e=> .inl (.inr e))⟩
   clear hc3 hb3 hk3 hk3' HSp q1 s1;iterate 1
    first
     | (refine Eaq.mov hops rfl rfl rfl (fun w' hb => ?_) ?_
        ·clear hb;go_simp)
     | (refine Eaq.movA hops rfl rfl (fun w' => ?_) ?_
        ·go_simp)
    go_simp
   iterate 11
    first
     | refine Eaq.movS hops rfl rfl ?_
     | refine Eaq.ancS hops rfl rfl ?_
    go_simp
   iterate 2
    first
     | (refine Eaq.mov hops rfl rfl rfl (fun w' hb => ?_) ?_
        ·clear hb;go_simp)
     | (refine Eaq.movA hops rfl rfl (fun w' => ?_) ?_
        ·go_simp)
    go_simp
   refine Eaq.fin (hK _ _ ?_);clear hK hops;go_simp;go_wp2_with fail;refine bodyPost_ret (v:= .bool false) ?_ rfl HFin.out;simp[results,Tryz.results94,go_sem]
 | true=>
   have hck:=Pv.Ck.splits_true hqe;subst hck;obtain⟨l1,hl1⟩:∃l1,(Pv.ambigCat W1 W2 l).1=l1:=⟨_,rfl⟩
   rw[hl1]at HSp hle hqe;clear hl1;have HQE:Hid (Pv.Ck.both (({ left:=l }:Pv.Ck).splits T false W1 W2) (fun c=>c.splits T true C1 C2)=({ left:=l1 }:Pv.Ck).splits T true C1 C2):=by rw[hqe];rfl
   clear hqe;go_wp2_with fail;refine Eaq.region (Keep (askT c bb)) (.mov 0 (.mov 1 (.mov 2 (.mov 3 (.mov 4 (.mov 5 (.mov 6 (.mov 7 (.mov 8 (.mov 9 (.anc 10 (.mov 11 (.mov 12 (.mov 13 (.mov 14 (.mov 15 (.mov 16 (.mov 17 (.mov 18 (.mov 19 (.mov 20 (.mov 21 (.anc 22 (.mov 23 (.mov 24 Eag.Sch.fin))))))))))))))))))))))))) [] [] (by kernel_rfl) (by kernel_rfl) (fun K ops hops hK => ?_);iterate 10
    first
     | (refine Eaq.mov hops rfl rfl rfl (fun w' hb => ?_) ?_
        ·have q0:=Keep.cell hb m1 q1;have q1:=Keep.cell hb m2 s1;clear hb;go_simp)
     | (refine Eaq.movA hops rfl rfl (fun w' => ?_) ?_
        ·go_simp)
    go_simp
   refine Eaq.anc hops rfl rfl ?_;go_wp2_with fail;refine HSp.out.mono ?_;rintro e w3 ⟨rfl,hc3,⟨u3,hb3,hu3⟩,hk3⟩;refine⟨hk3,?_⟩;have hk3':Keep (askT c bb) wc w3:=(Keep.drew _).trans hk3;have q2':=hk3'.cell m1 q2;have s2':=hk3'.cell m2 s2;have hkH3:Keep H wc w3:=hk3'.wide fun x e=> .inl (hasH x e)
   have hT3:Tab w3:=HT2.out.keep hk3' hn0;have hsz3:=hk3'.size;have hsp2:=splits_all (H:=H) C1 C2 cb1 cb2 c bb l1 u3 w3 hT3 (HG3.out.keep hkH3) (HG4.out.keep hkH3) hb3 hbb (fun h hh=>Nat.lt_of_lt_of_le (hHlt h hh) hsz3) (by omega) (by omega) (by omega) (HD2.out l1) hc3 tb T (HTm2.out.keep hk3' hnt) true;have HSp2:=Hy hsp2;have HK3:=Hy hk3';clear hc3 hb3 hk3 hk3' HSp q1 s1 q2 s2 hkH3 hT3 hsp2
   obtain⟨⟨ck,b⟩,hqe⟩:∃q,({ left:=l1 }:Pv.Ck).splits T true C1 C2=q:=⟨_,rfl⟩
   rw[hqe]at HSp2;replace HQE:=Hy (HQE.out.trans hqe);clear hqe;iterate 1
    first
     | (refine Eaq.mov hops rfl rfl rfl (fun w' hb => ?_) ?_
        ·clear hb;go_simp)
     | (refine Eaq.movA hops rfl rfl (fun w' => ?_) ?_
        ·go_simp)
    go_simp
   iterate 10
    refine Eaq.movG hops rfl rfl rfl (fun w' hb => ?_) ?_
    ·have q0:=Keep.cell hb m1 q2';have q1:=Keep.cell hb m2 s2';clear hb;go_simp
    go_simp
   refine Eaq.ancG hops rfl rfl ?_;go_wp2_with fail;refine HSp2.out.mono ?_;rintro e w4 ⟨rfl,hc4,⟨u4,hb4,hu4⟩,hk4⟩;refine⟨hk4,?_⟩;have hk4':Keep (askT c bb) wc w4:=HK3.out.trans hk4;have HFin:Hid (TyOut H c bb k tb (.slice (some ⟨ka,0,none⟩) 2 kc) l u (Pv.Ck.both (({ left:=l }:Pv.Ck).splits T false W1 W2) fun c=>c.splits T true C1 C2) (Pv.cat [W1,W2]) (Pv.cat [C1,C2]) w (.returned (.bool b)) w4):=by
    rw[HQE.out];exact⟨rfl,HTy.out.keep hk4' hasH mk,hc4,⟨u4,hb4,(hu4:ck.left+u4=l1+u3).trans hu3⟩,(HK2.out.wide fun x e=> .inl (.inl e)).trans (hk4'.wide fun x e=> .inl (.inr e))⟩
   clear hc4 hb4 hk4 hk4' HSp2 q2' s2';iterate 2
    first
     | (refine Eaq.mov hops rfl rfl rfl (fun w' hb => ?_) ?_
        ·clear hb;go_simp)
     | (refine Eaq.movA hops rfl rfl (fun w' => ?_) ?_
        ·go_simp)
    go_simp
   refine Eaq.fin (hK _ _ ?_);clear hK hops;go_simp;go_wp2_with fail;refine bodyPost_ret (v:= .bool b) ?_ rfl HFin.out;simp[results,Tryz.results94,go_sem]
end Go.Proofs.YtamkfdlcdiadlaaGreatDoor
namespace Go.Proofs.YtamkfdlcdiadlaaGreatDoor
open Go.RowKit Go.Maps
variable {H:Nat→Prop}
set_option maxRecDepth 20000 in
set_option maxHeartbeats 2000000 in
theorem types_star_all (T:Pv.T)(hop:T.op=9)(W1 C1:Pv.R)(wb1 cb1:Nat)(c bb k tb k1 ka kc l u:Nat)(name text back:List UInt8)(re kids:Value)(w:World)(hT:Tab w)(hx:w.heap[k]?=some (.cells (CanC tb (.pointer none) (.pointer none) (.slice (some ⟨ka,0,none⟩) 1 kc) (.pointer none) (.pointer none)) 131))(ht:TermAt w tb 9 T.at_ name re text back kids)
  (hs0:w.cell? ⟨ka,0,none⟩=some (Ptr k1)) {t1:Nat} {e1 e2 e3:Value} (hk1:w.heap[k1]?=some (.cells (CanC t1 (Ptr wb1) (Ptr cb1) e1 e2 e3) 131))
  (hr1:ReAt H w W1 wb1) (hq1:ReAt H w C1 cb1) (hbud:BudAt w bb l u) (hbb:H bb) (hH:∀h,H h→h<w.heap.size) (hHk:H k) (hHc:H c) (hc:CkAt w c bb {}) (hl:l<274877906944)
  (z1:Pv.size W1+Pv.size C1<68719476736) (hk1k:k1≠k)
  (hd1:Pv.null W1=false→∀l A B l1,Pv.build W1 l=(l1,some A)→(Pv.build (Pv.many W1) l1).2=some B→A.parts.length+B.parts.length≤12) (hd2:Pv.null C1=false→∀l A B l1,Pv.build C1 l=(l1,some A)→(Pv.build (Pv.many C1) l1).2=some B→A.parts.length+B.parts.length≤12):
  Calls Tryz.prog 94 #[Ptr c,Ptr k] w (TyOut H c bb k tb (.slice (some ⟨ka,0,none⟩) 1 kc) l u (Pv.Ck.both (({ left:=l }:Pv.Ck).iterates T false W1) fun c=>c.iterates T true C1) (Pv.many W1) (Pv.many C1) w):=by
 have HD1:=Hy hd1;have HD2:=Hy hd2;clear hd1 hd2;have x0:w.cell? ⟨k,0,none⟩=some (Ptr tb):=cB (o:=0) hx rfl;have x3:w.cell? ⟨k,3,none⟩=some (.slice (some ⟨ka,0,none⟩) 1 kc):=cB (o:=3) hx rfl;have t0:w.cell? ⟨tb,0,none⟩=some (.int .i64 9):=cB (o:=0) ht rfl;have p1:w.cell? ⟨k1,1,none⟩=some (Ptr wb1):=cB (o:=1) hk1 rfl;have p2:w.cell? ⟨k1,2,none⟩=some (Ptr cb1):=cB (o:=2) hk1 rfl
 have nft:∀x,¬(fun _:Nat=>False) x:=fun _ h=>h
 have n1:=nft k1;have hkt:tb≠k:=by rintro rfl;unfold TermAt at ht;rw[hx]at ht;cases ht
 have hkc:c≠k:=by rintro rfl;unfold CkAt at hc;rw[hx]at hc;cases hc
 have hkb:bb≠k:=by rintro rfl;have h2:=hbud.2;rw[hx]at h2;cases h2
 have HX:=Hy hx;have HTm:=Hy ht;have HT:=Hy hT;have HP1:=Hy hk1;have HR1:=Hy hr1;have HQ1:=Hy hq1;have HBud:=Hy hbud;have HH:=Hy hH;have HC:=Hy hc;clear hx ht hT hk1 hr1 hq1 hbud hH hc;go_enter Tryz.func94,Tryz.ntmps94;go_upto_region 11 with fail
 go_cut [] from 69 to 84 (fun wx=>TyR H k tb (.slice (some ⟨ka,0,none⟩) 1 kc) (Pv.many W1) (Pv.many C1) wx∧Keep (· = k) w wx)
 case first=>
  obtain⟨V,hV⟩:∃V,w=V:=⟨_,rfl⟩
  have HB:Hid (Below w.heap.size w V.drew):=by rw[←hV];exact(Below.refl _ _).drew
  replace p1:V.cell? ⟨k1,1,none⟩=some (Ptr wb1):=hV▸p1;replace p2:V.cell? ⟨k1,2,none⟩=some (Ptr cb1):=hV▸p2;rw[hV];clear hV t0 x0 x3 hs0
  refine Eaq.region (Keep fun _=>False) (.mov 0 (.mov 1 (.mov 2 (.mov 3 (.mov 4 (.mov 5 (.mov 7 (.mov 8 (.mov 9 (.mov 10 (.anc 6 (.anc 11 (.mov 12 (.mov 13 (.anc 14 (.mov 15 (.mov 16 (.anc 17 Eag.Sch.fin)))))))))))))))))) [14,17] [1] (by kernel_rfl) (by kernel_rfl) (fun K ops hops hK => ?_);iterate 10
   first
    | (refine Eaq.mov hops rfl rfl rfl (fun w' hb => ?_) ?_
       ·have q0:=Keep.cell hb n1 p1;have q1:=Keep.cell hb n1 p2;clear hb;go_simp)
    | (refine Eaq.movA hops rfl rfl (fun w' => ?_) ?_
       ·go_simp)
   go_simp
  clear p1 p2 n1 nft;generalize V.drew=W at *;clear V;refine Eaq.anc hops rfl rfl ?_;go_wp2_with fail;refine(many_any (H:=H) W1 wb1 W (HR1.out.later HB.out) (fun h hh=>by have h1:=HH.out h hh;have h2:=HB.out.size;exact Nat.lt_of_lt_of_le h1 h2) (by omega)).mono ?_;rintro e V ⟨nb1,rfl,hat,hbW⟩;refine⟨Keep.of_below hbW,?_⟩;try replace HA2:=Hy (HA2.out.later hbW)
  have HA1:=Hy hat;replace HB:=Hy (HB.out.trans (hbW.mono HB.out.size));clear hat hbW;clear W
  rename World=>W
  refine Eaq.anc hops rfl rfl ?_;go_wp2_with fail;refine(many_any (H:=H) C1 cb1 W (HQ1.out.later HB.out) (fun h hh=>by have h1:=HH.out h hh;have h2:=HB.out.size;exact Nat.lt_of_lt_of_le h1 h2) (by omega)).mono ?_;rintro e V ⟨nb2,rfl,hat,hbW⟩;refine⟨Keep.of_below hbW,?_⟩;try replace HA1:=Hy (HA1.out.later hbW)
  have HA2:=Hy hat;replace HB:=Hy (HB.out.trans (hbW.mono HB.out.size));clear hat hbW;clear W
  rename World=>W
  have hx5:=later_blk HB.out HX.out;have fr:∀o,W.frozen? ⟨k,o,none⟩=false:=fun o=>fob hx5
  have c1:W.cell? ⟨k,1,none⟩=some (.pointer none):=cB (o:=1) hx5 rfl;have c2:W.cell? ⟨k,2,none⟩=some (.pointer none):=cB (o:=2) hx5 rfl;have HX5:=Hy hx5;clear hx5;go_simp;iterate 2
   first
    | (refine Eaq.mov hops rfl rfl rfl (fun w' hb => ?_) ?_
       ·clear hb;go_simp)
    | (refine Eaq.movA hops rfl rfl (fun w' => ?_) ?_
       ·go_simp)
   go_simp
  refine Eaq.anc hops rfl rfl ?_;go_wp2_with fail;iterate 2
   first
    | (refine Eaq.mov hops rfl rfl rfl (fun w' hb => ?_) ?_
       ·clear hb;go_simp)
    | (refine Eaq.movA hops rfl rfl (fun w' => ?_) ?_
       ·go_simp)
   go_simp
  refine Eaq.anc hops rfl rfl ?_;go_wp2_with fail;refine Eaq.fin (hK _ _ ?_);clear hK hops;go_simp;go_wp2_with fail;go_meet;first
   | exact ty_meet HX5.out HB.out HA1.out HA2.out hHk
   | exact ty_meetD (ty_meet HX5.out HB.out HA1.out HA2.out hHk)
 case rest=>
 obtain⟨hty,hk02⟩:=hcut;have hkH0:Keep H w wc:=hk02.wide fun x e=> .inl (by rw[e];exact hHk)
 have hP1:=hk02.blk hk1k HP1.out;have q1:wc.cell? ⟨k1,1,none⟩=some (Ptr wb1):=cB (o:=1) hP1 rfl;have q2:wc.cell? ⟨k1,2,none⟩=some (Ptr cb1):=cB (o:=2) hP1 rfl;have hc2:=HC.out.keep hk02 hkc;have hb2:BudAt wc bb l u:=HBud.out.keep hk02 hkb;have ht2:=TermAt.head (hk02.blk hkt HTm.out);have m1:¬askT c bb k1:=fun e=>by
  rcases e with e|e
  ·have h2:=hc2;unfold CkAt at h2;rw[←e,hP1]at h2;cases h2
  ·have h2:=hb2.2;rw[←e,hP1]at h2;cases h2
 have mk:¬askT c bb k:=fun e=>by
  rcases e with e|e
  ·exact hkc e.symm
  ·exact hkb e.symm
 have hT2:Tab wc:=HT.out.keep hk02 (fun e=>HT.out.ne_ptr HX.out rfl e.symm);have hsz2:=hk02.size;have hHlt:∀h,H h→h<wc.heap.size:=fun h hh=>Nat.lt_of_lt_of_le (HH.out h hh) hsz2
 have hasH:∀x,askT c bb x→H x:=fun x e=>by
  rcases e with e|e
  ·rw[e];exact hHc
  ·rw[e];exact hbb
 have hG1:=HR1.out.keep hkH0;have hG3:=HQ1.out.keep hkH0;rw[show(9:Nat)=T.op from hop.symm]at ht2;have hsp:=iterates_all (H:=H) W1 wb1 c bb l u wc hT2 hG1 hb2 hbb hHlt (by omega) hl (fun h=>HD1.out h l) hc2 tb T ht2 false;have hle:=Pv.ambigIter_le W1 l;obtain⟨⟨ck,b⟩,hqe⟩:∃q,({ left:=l }:Pv.Ck).iterates T false W1=q:=⟨_,rfl⟩
 rw[hqe]at hsp;have HSp:=Hy hsp;have HTy:=Hy hty;have HK2:=Hy hk02;have HG3:=Hy hG3;have HT2:=Hy hT2;have HTm2:=Hy ht2;have hcb:c≠bb:=hc2.ne_bud hb2;have HBw:=Hy hb2;have hnt:¬askT c bb tb:=fun e=>by
  obtain⟨cs,h3,_⟩:=ht2;rcases e with e|e
  ·have h2:=hc2;unfold CkAt at h2;rw[←e,h3]at h2;cases h2
  ·have h2:=hb2.2;rw[←e,h3]at h2;cases h2
 have hn0:¬askT c bb 0:=fun e=>by
  rcases e with e|e
  ·exact hT2.ne_ptr hc2 rfl e.symm
  ·exact hT2.bud hb2 e.symm
 clear hsp hty hk02 hkH0 hP1 hc2 hb2 ht2 hT2 hG1 hG3 hs0 x0 x3 t0 p1 p2 n1 nft;cases b with
 | false=>
   have HQE:=Hy hqe;clear hqe q2;go_wp2_with fail;refine HSp.out.mono ?_;rintro e w3 ⟨rfl,hc3,hb3,hk3⟩;have hk3':Keep (askT c bb) wc w3:=hk3;have HFin:Hid (TyOut H c bb k tb (.slice (some ⟨ka,0,none⟩) 1 kc) l u (Pv.Ck.both (({ left:=l }:Pv.Ck).iterates T false W1) fun c=>c.iterates T true C1) (Pv.many W1) (Pv.many C1) w (.returned (.bool false)) w3):=by
    rw[HQE.out];exact⟨rfl,HTy.out.keep hk3' hasH mk,hc3,hb3,(HK2.out.wide fun x e=> .inl (.inl e)).trans (hk3'.wide fun x e=> .inl (.inr e))⟩
   clear hc3 hb3 hk3 hk3' HSp q1;go_wp2_with fail;refine bodyPost_ret (v:= .bool false) ?_ rfl HFin.out;simp[results,Tryz.results94,go_sem]
 | true=>
   have hck:=Pv.Ck.iterates_true hqe;subst hck;obtain⟨l1,hl1⟩:∃l1,(Pv.ambigIter W1 l).1=l1:=⟨_,rfl⟩
   rw[hl1]at HSp hle hqe;clear hl1;have HQE:Hid (Pv.Ck.both (({ left:=l }:Pv.Ck).iterates T false W1) (fun c=>c.iterates T true C1)=({ left:=l1 }:Pv.Ck).iterates T true C1):=by rw[hqe];rfl
   clear hqe;go_wp2_with fail;refine HSp.out.mono ?_;rintro e w3 ⟨rfl,hc3,⟨u3,hb3,hu3⟩,hk3⟩;have hk3':Keep (askT c bb) wc w3:=hk3;have q2':=hk3'.cell m1 q2;have hkH3:Keep H wc w3:=hk3'.wide fun x e=> .inl (hasH x e)
   have hT3:Tab w3:=HT2.out.keep hk3' hn0;have hsz3:=hk3'.size;have hsp2:=iterates_all (H:=H) C1 cb1 c bb l1 u3 w3 hT3 (HG3.out.keep hkH3) hb3 hbb (fun h hh=>Nat.lt_of_lt_of_le (hHlt h hh) hsz3) (by omega) (by omega) (fun h=>HD2.out h l1) hc3 tb T (HTm2.out.keep hk3' hnt) true;have HSp2:=Hy hsp2;have HK3:=Hy hk3';clear hc3 hb3 hk3 hk3' HSp q1 q2 hkH3 hT3 hsp2
   obtain⟨⟨ck,b⟩,hqe⟩:∃q,({ left:=l1 }:Pv.Ck).iterates T true C1=q:=⟨_,rfl⟩
   rw[hqe]at HSp2;replace HQE:=Hy (HQE.out.trans hqe);clear hqe;go_wp2_with fail;refine HSp2.out.mono ?_;rintro e w4 ⟨rfl,hc4,⟨u4,hb4,hu4⟩,hk4⟩;have hk4':Keep (askT c bb) wc w4:=HK3.out.trans hk4
   have HFin:Hid (TyOut H c bb k tb (.slice (some ⟨ka,0,none⟩) 1 kc) l u (Pv.Ck.both (({ left:=l }:Pv.Ck).iterates T false W1) fun c=>c.iterates T true C1) (Pv.many W1) (Pv.many C1) w (.returned (.bool b)) w4):=by rw[HQE.out];exact⟨rfl,HTy.out.keep hk4' hasH mk,hc4,⟨u4,hb4,(hu4:ck.left+u4=l1+u3).trans hu3⟩,(HK2.out.wide fun x e=> .inl (.inl e)).trans (hk4'.wide fun x e=> .inl (.inr e))⟩
   clear hc4 hb4 hk4 hk4' HSp2 q2';go_wp2_with fail;refine bodyPost_ret (v:= .bool b) ?_ rfl HFin.out;simp[results,Tryz.results94,go_sem]
end Go.Proofs.YtamkfdlcdiadlaaGreatDoor
namespace Go.Proofs.YtamkfdlcdiadlaaGreatDoor
open Go.RowKit Go.Maps
variable {H:Nat→Prop}
def TyW (H:Nat→Prop)(c bb k tb:Nat)(kv:Value)(l u:Nat)(q:Pv.Ck × Bool)(r1 r2:Pv.R)(w:World)(e:Ending)(w':World):Prop:=
 e = .returned (.bool q.2)∧(q.2=true→TyR H k tb kv r1 r2 w')∧CkAt w' c bb q.1.fault∧(∃u',BudAt w' bb q.1.left u'∧q.1.left+u'=l+u)∧Keep (fun x=>x=k∨x=c∨x=bb) w w'
theorem TyOut.weak {c bb k tb:Nat}{kv:Value}{l u:Nat}{q:Pv.Ck × Bool}{r1 r2:Pv.R}{w:World}{e:Ending}{w':World}(h:TyOut H c bb k tb kv l u q r1 r2 w e w'):TyW H c bb k tb kv l u q r1 r2 w e w':=⟨h.1,fun _=>h.2.1,h.2.2⟩
theorem types_keep_all (r:Pv.R)(c bb k tb rb l u:Nat)(at_:Int)(name text back:List UInt8)(kids kv:Value)(w:World)(hx:w.heap[k]?=some (.cells (CanC tb (.pointer none) (.pointer none) kv (.pointer none) (.pointer none)) 131))(ht:TermAt w tb 16 at_ name (Ptr rb) text back kids)
  (hr:ReAt H w r rb) (hbud:BudAt w bb l u) (hHk:H k) (hc:CkAt w c bb {}):
  Calls Tryz.prog 94 #[Ptr c,Ptr k] w (TyW H c bb k tb kv l u ({ left:=l },true) r r w):=by
 have hkc:c≠k:=by rintro rfl;unfold CkAt at hc;rw[hx]at hc;cases hc
 have hkb:bb≠k:=by rintro rfl;have h2:=hbud.2;rw[hx]at h2;cases h2
 refine(types_keep c k tb rb at_ name text back kids kv w hx ht).mono ?_;rintro e w' ⟨rfl,hx',hk⟩;have hr':=hr.keep (hk.wide fun x e=> .inl (by rw[e];exact hHk));exact⟨rfl,fun _=>⟨rb,rb,hx',hr',hr'⟩,hc.keep hk hkc,⟨u,hbud.keep hk hkb,rfl⟩,hk.wide fun x e=> .inl (.inl e)⟩
theorem types_norm_all (P:Pv.R→Prop)(hP:∀r c,P r→P (Pv.by_ c r))(hPs:∀r,P r→Pv.size r≤300000)(T:Pv.T)(hop:T.op=17)(r:Pv.R)(hrP:P r)(c bb k tb rb l u:Nat)(name back:List UInt8)(kids kv:Value)(w:World)(hx:w.heap[k]?=some (.cells (CanC tb (.pointer none) (.pointer none) kv (.pointer none) (.pointer none)) 131))(ht:TermAt w tb 17 T.at_ name (Ptr rb) T.text back kids)
  (hr:ReAt H w r rb) (hbud:BudAt w bb l u) (hH:∀h,H h→h<w.heap.size) (hHk:H k) (htl:T.text.length<549755813888) (hc:CkAt w c bb {}):
  Calls Tryz.prog 94 #[Ptr c,Ptr k] w (TyW H c bb k tb kv l u (({ left:=l }:Pv.Ck).within T T.text r) r (Pv.word T.text) w):=by
 have hkc:c≠k:=by rintro rfl;unfold CkAt at hc;rw[hx]at hc;cases hc
 have hkb:bb≠k:=by rintro rfl;have h2:=hbud.2;rw[hx]at h2;cases h2
 have hcb:=hc.ne_bud hbud;cases hq:Pv.matchR T.text r with
 | true=>
   have hw:({ left:=l }:Pv.Ck).within T T.text r=({ left:=l },true):=by simp[Pv.Ck.within,Pv.Ck.ok,hq]
   rw[hw];refine(types_norm (H:=H) P hP hPs r hrP c bb k tb rb T.at_ name T.text back kids kv w hx ht hr hH hHk htl hc hq).mono ?_;rintro e w' ⟨wb,rfl,hx',hr2,hk⟩;exact⟨rfl,fun _=>⟨rb,wb,hx',hr.keep (hk.wide fun x e=> .inl (by rw[e];exact hHk)),hr2⟩,hc.keep hk hkc,⟨u,hbud.keep hk hkb,rfl⟩,hk.wide fun x e=> .inl (.inl e)⟩
 | false=>
   have hw:({ left:=l }:Pv.Ck).within T T.text r=({ left:=l,fault:={ e:=23,op:=17,at_:=T.at_,text:=T.text } },false):=by simp[Pv.Ck.within,Pv.Ck.ok,Pv.Ck.fail,hq,hop]
   rw[hw];refine(types_normF (H:=H) P hP hPs r hrP c bb k tb rb T.at_ name T.text back kids kv w hx ht hr hH hHk htl hc hq).mono ?_;rintro e w' ⟨rfl,hc',hk⟩;have hbb:¬(bb=k∨bb=c):=fun e=>by
    rcases e with e|e
    ·exact hkb e
    ·exact hcb e.symm
   exact⟨rfl,fun h=>by simp at h,hc',⟨u,hbud.keep hk hbb,rfl⟩,hk.wide fun x e=> .inl (e.elim .inl fun e=> .inr (.inl e))⟩
end Go.Proofs.YtamkfdlcdiadlaaGreatDoor
