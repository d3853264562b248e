/- The walk of ambig's add. -/
import Derived.Test.YtamkfdlcdiadlaaGreatDoorKb05
import Derived.Test.YtamkfdlcdiadlaaGreatDoorKb22
set_option linter.all false
namespace Go.Proofs.YtamkfdlcdiadlaaGreatDoor
open Go.RowKit Go.Maps
variable {H:Nat→Prop}
theorem RowK.kept {base e k n:Nat}{w w':World}{v:Value}{xs:List Value}{G:Nat→Prop}(h:RowK base e k w v n xs)(hk:Keep G w w')(hn:∀g,v.ownBlock=some g→¬G g):RowK base e k w' v n xs:=
 h.keep fun g hg hl=>hk.block g hl (hn g hg)
theorem RowK.other {base e k n base' e' k' n':Nat}{w w':World}{v v2:Value}{xs xs2:List Value}(h:RowK base e k w v n xs)(h2:RowK base' e' k' w v2 n' xs2)(he:e≠e')(hg:w.grownBy w' v2.ownBlock):RowK base e k w' v n xs:=
 h.keep fun g h1 hl=>hg.block g hl fun q=>by obtain⟨c1,b1⟩:=h.ty h1;exact h2.ne b1 (fun e=>he e.symm) q.symm
theorem Moved.back {w w':World}{v v':Value}(h:Moved w' v v')(hs:w.heap.size≤w'.heap.size):Moved w v v':=by
 rcases h with e|⟨g,e,hg⟩
 ·exact .inl e
 ·exact .inr ⟨g,e,by omega⟩
theorem SrAt.took {N0 s a b M bb:Nat}{A B:Pv.Dfa}{lv sv:Value}{tr:Pv.Trail}{l u l' u':Nat}{w w':World}(h:SrAt H N0 w s a b M bb A B lv sv tr l u)(hk:Keep (· = bb) w w')(hb:BudAt w' bb l' u'):SrAt H N0 w' s a b M bb A B lv sv tr l' u' where
 sr:=hk.blk (fun e=>by have:=h.sr;rw[e,h.bud.2]at this;cases this) h.sr
 da:=let ⟨_,q⟩:=h.da.blk;h.da.keep hk (fun k e=> .inl (.inl (by rw[e];exact h.hh.2.2.2.2))) (fun e=>h.notT q (.inr (.inl e)))
 db:=let ⟨_,q⟩:=h.db.blk;h.db.keep hk (fun k e=> .inl (.inl (by rw[e];exact h.hh.2.2.2.2))) (fun e=>h.notT q (.inr (.inl e)))
 m:=h.m.keep hk (h.m.ne h.bud.2)
 list:=h.list.kept hk fun g hg e=>h.list.ne h.bud.2 (by decide) (by rw[hg,e])
 steps:=h.steps.kept hk fun g hg e=>h.steps.ne h.bud.2 (by decide) (by rw[hg,e])
 bud:=hb
 hh:=h.hh
 ab:=h.ab
 hlt:=fun k e=>Nat.lt_of_lt_of_le (h.hlt k e) hk.size
theorem SrAt.later {N0 s a b M bb:Nat}{A B:Pv.Dfa}{lv sv:Value}{tr:Pv.Trail}{l u:Nat}{w w':World}(h:SrAt H N0 w s a b M bb A B lv sv tr l u)(hb:Below w.heap.size w w'):SrAt H N0 w' s a b M bb A B lv sv tr l u where
 sr:=later_blk hb h.sr
 da:=h.da.later hb
 db:=h.db.later hb
 m:=h.m.later hb
 list:=h.list.later hb
 steps:=h.steps.later hb
 bud:=h.bud.later hb
 hh:=h.hh
 ab:=h.ab
 hlt:=fun k e=>Nat.lt_of_lt_of_le (h.hlt k e) hb.size
set_option maxRecDepth 20000 in
set_option maxHeartbeats 4000000 in
theorem add_any (R:Ending→World→Prop){N0 s a b M bb:Nat}{A B:Pv.Dfa}{lv sv:Value}{tr:Pv.Trail}{l u:Nat}{w:World}(h:SrAt H N0 w s a b M bb A B lv sv tr l u)(x:Pv.Spot)(st:Pv.Step)
  (hx:x.phase<4611686018427387904∧x.p<4611686018427387904∧x.q<4611686018427387904) (htr:∀y∈tr,y.1.phase<4611686018427387904∧y.1.p<4611686018427387904∧y.1.q<4611686018427387904) (hN:N0≤w.heap.size) (hlen:tr.length<549755813888)
  (r1:∀w',Pv.addSpot x st tr l=none→BudAt w' bb 0 u→Keep (addT s bb M lv sv) w w'→R (.returned (.int .i64 5)) w')
  (r2:∀w' lv' sv' tr' l',Pv.addSpot x st tr l=some (tr',l')→SrAt H N0 w' s a b M bb A B lv' sv' tr' l' (u+(l-l'))→Keep (addT s bb M lv sv) w w'→R (.returned (.int .i64 0)) w'):
  Calls Tryz.prog 179 #[Ptr s,spotV x,stepV st] w R:=by
 have hks:∀y∈tr.map fun x=>spotV x.1,∃l,keyOf Tryz.prog 271 y=some l:=fun y hy=>by obtain⟨z,hz,rfl⟩:=List.mem_map.1 hy;obtain⟨z1,z2,z3⟩:=htr z hz;exact spot_key z.1 z1 z2 z3
 obtain⟨kl,hkl⟩:=spot_key x hx.1 hx.2.1 hx.2.2;have hwz:w.heap.size<((w.alloc (.cells #[.int .i64 (x.phase:Int),.int .i64 (x.p:Int),.int .i64 (x.q:Int),.bool x.moved] 271)).alloc (.cells #[.int .i64 st.from_,byteV st.by_,.bool st.free] 273)).heap.size:=by simp;omega
 obtain⟨w2,hw2⟩:∃w2,(w.alloc (.cells #[.int .i64 (x.phase:Int),.int .i64 (x.p:Int),.int .i64 (x.q:Int),.bool x.moved] 271)).alloc (.cells #[.int .i64 st.from_,byteV st.by_,.bool st.free] 273)=w2:=⟨_,rfl⟩
 have hB:Below w.heap.size w w2:=by rw[←hw2];exact((Below.refl _ _).alloc (Nat.le_refl _) _).alloc (by simp) _
 have hbx:w2.heap[w.heap.size]?=some (.cells #[.int .i64 (x.phase:Int),.int .i64 (x.p:Int),.int .i64 (x.q:Int),.bool x.moved] 271):=by rw[←hw2];exact blk_old (blk_new rfl)
 have hby:w2.heap[w.heap.size+1]?=some (.cells #[.int .i64 st.from_,byteV st.by_,.bool st.free] 273):=by rw[←hw2];exact blk_new (by simp)
 have k1:w2.cell? ⟨s,2,none⟩=some (.map (some M)):=cB (o:=2) (later_blk hB h.sr) rfl;have k5:w2.cell? ⟨s,5,none⟩=some (Ptr bb):=cB (o:=5) (later_blk hB h.sr) rfl;have hbbw:bb<w.heap.size:=h.hlt _ h.hh.2.2.2.2;have htk:=take_any bb l u w2.drew ((h.bud.later hB).later (Below.refl _ _).drew);have y0:w2.cell? ⟨w.heap.size,0,none⟩=some (.int .i64 (x.phase:Int)):=cB hbx rfl
 have y1:w2.cell? ⟨w.heap.size,1,none⟩=some (.int .i64 (x.p:Int)):=cB hbx rfl;have y2:w2.cell? ⟨w.heap.size,2,none⟩=some (.int .i64 (x.q:Int)):=cB hbx rfl;have y3:w2.cell? ⟨w.heap.size,3,none⟩=some (.bool x.moved):=cB hbx rfl;by_cases hin:spotV x∈tr.map fun x=>spotV x.1
 ·have hlk:∃v,(Instr.lookup 260 (.map (some M)) (spotV x) true).run Tryz.prog w2.drew = .ok (.tuple #[v,.bool true]) w2.drew:=by obtain⟨_,v,_,_,e⟩:=((h.m.later hB).later (Below.refl _ w2).drew).has spot_keyed Tryz.underlying260 hks hkl hin true;exact⟨v,e⟩
  obtain⟨v,hlk⟩:=hlk;have hany:tr.any (fun y=>y.1==x)=true:=by rw[List.any_eq_true];obtain⟨y,hy,e⟩:=List.mem_map.1 hin;exact⟨y,hy,by rw[spotV_inj e];simp⟩
  have hadd:Pv.addSpot x st tr l=some (tr,l):=by unfold Pv.addSpot;rw[if_pos hany]
  have HFin:Hid (∀W,Below w2.heap.size w2 W→R (.returned (.int .i64 0)) W):=fun W hb=>by have hbw:Below w.heap.size w W:=hB.trans (hb.mono hB.size);exact r2 W lv sv tr l hadd (by rw[Nat.sub_self];exact h.later hbw) (Keep.of_below hbw)
  clear h hB hks hkl hin r1 r2 hany hbx hby htr htk hadd;go_enter Tryz.func179,Tryz.ntmps179;go_wp2_with fail;try rw[hw2]
  clear hw2;refine Eag.region (.mov 0 (.mov 1 (.mov 2 (.mov 3 (.mov 4 (.anc 5 (.mov 6 (.mov 7 (.mov 8 (.mov 9 (.mov 10 Eag.Sch.fin))))))))))) [] (by kernel_rfl) (by kernel_rfl) (fun K ops hops hK => ?_);iterate 5
   refine Eag.mov hops rfl rfl (fun w' hb => ?_) ?_
   ·have q0:=later hb k1;have q1:=later hb y0;have q2:=later hb y1;have q3:=later hb y2;have q4:=later hb y3;clear hb;go_simp
   go_simp
  refine Eag.anc hops rfl rfl ?_;go_wp2_with fail;refine⟨Below.refl _ _,?_⟩;clear hlk;iterate 5
   refine Eag.mov hops rfl rfl (fun w' hb => ?_) ?_
   ·clear hb;go_simp
   go_simp
  refine Eag.fin (hK _ _ ?_);clear hK hops;go_simp;go_wp2_with fail;exact HFin.out _ (Below.refl _ w2).drew
 ·have hlk:∀W,Below w2.heap.size w2 W→(Instr.lookup 260 (.map (some M)) (spotV x) true).run Tryz.prog W = .ok (.tuple #[.int .i64 0,.bool false]) W:=fun W hb=>
   ((h.m.later hB).later hb).hasnt spot_keyed Tryz.underlying260 hks hkl hin (Tryz.zeroValue3 W)
  have hany:tr.any (fun y=>y.1==x)=false:=by
   rw[List.any_eq_false];intro y hy e;refine hin (List.mem_map.2 ⟨y,hy,?_⟩);have:y.1=x:=by simpa using e
   rw[this]
  have HS:=Hy h;have HLK:=Hy hlk;have HB:=Hy hB;have HKS:=Hy hks;have HKL:=Hy hkl;have HIN:=Hy hin;have HAny:=Hy hany;have R1:=Hy r1;have R2:=Hy r2;have HBX:=Hy hbx;have HBY:=Hy hby;clear h hlk hB hks hkl hin r1 r2 hany hbx hby htr;go_enter Tryz.func179,Tryz.ntmps179;go_wp2_with fail;try rw[hw2]
  clear hw2;refine Eag.region (.mov 0 (.mov 1 (.mov 2 (.mov 3 (.mov 4 (.mov 5 (.mov 6 (.mov 7 (.mov 8 (.mov 9 (.mov 10 Eag.Sch.fin))))))))))) [] (by kernel_rfl) (by kernel_rfl) (fun K ops hops hK => ?_);iterate 5
   refine Eag.mov hops rfl rfl (fun w' hb => ?_) ?_
   ·have q0:=later hb k1;have q1:=later hb y0;have q2:=later hb y1;have q3:=later hb y2;have q4:=later hb y3;clear hb;go_simp
   go_simp
  have q1:=HLK.out w2.drew (Below.refl _ w2).drew;refine Eag.mov hops rfl rfl (fun w' hb => ?_) ?_
  ·have q2:=HLK.out w' ((Below.refl _ w2).drew.trans hb);clear hb;go_simp
  go_simp;iterate 5
   refine Eag.mov hops rfl rfl (fun w' hb => ?_) ?_
   ·clear hb;go_simp
   go_simp
  refine Eag.fin (hK _ _ ?_);clear hK hops q1;go_simp;go_wp2_with fail;refine htk.mono ?_;rintro e w3 ⟨rfl,hbud3,hk3⟩;have hk3':Keep (· = bb) w w3:=((Keep.of_below HB.out).trans (Keep.drew _)).trans hk3;by_cases hl0:l=0
  ·subst hl0;have hadd:Pv.addSpot x st tr 0=none:=by unfold Pv.addSpot;simp[HAny.out]
   have HR:=Hy (R1.out w3 hadd (by simpa using hbud3) (hk3'.wide fun k e=> .inl (.inr (.inl e))));clear hbud3 hk3 hk3' htk k1 k5 y0 y1 y2 y3 hadd;go_wp2_with fail;exact HR.out
  ·rw[if_neg hl0]at *;have hadd:Pv.addSpot x st tr l=some (tr++[(x,st)],l-1):=by unfold Pv.addSpot;simp[HAny.out,hl0]
   have HS3:=Hy (HS.out.took hk3' hbud3);have hbx3:=hk3.blk (show ¬w.heap.size=bb by omega) (show w2.drew.heap[w.heap.size]?=_ from HBX.out);have hby3:=hk3.blk (show ¬w.heap.size+1=bb by omega) (show w2.drew.heap[w.heap.size+1]?=_ from HBY.out);have HK3:=Hy hk3';have HADD:=Hy hadd;have HBX3:=Hy hbx3;have HBY3:=Hy hby3;obtain⟨la,lc,hla⟩:=HS3.out.list.sl;obtain⟨sa,sc,hsa⟩:=HS3.out.steps.sl
   have k2:w3.cell? ⟨s,2,none⟩=some (.map (some M)):=cB (o:=2) HS3.out.sr rfl;have k3:w3.cell? ⟨s,3,none⟩=some lv:=cB (o:=3) HS3.out.sr rfl;have p0:w3.cell? ⟨w.heap.size,0,none⟩=some (.int .i64 (x.phase:Int)):=cB hbx3 rfl;have p1:w3.cell? ⟨w.heap.size,1,none⟩=some (.int .i64 (x.p:Int)):=cB hbx3 rfl;have p2:w3.cell? ⟨w.heap.size,2,none⟩=some (.int .i64 (x.q:Int)):=cB hbx3 rfl
   have p3:w3.cell? ⟨w.heap.size,3,none⟩=some (.bool x.moved):=cB hbx3 rfl;subst hla;subst hsa;obtain⟨w4,hrun4,hm4,hk4⟩:=(HS3.out.m.later (Below.refl _ _).drew).put spot_keyed Tryz.underlying260 HKS.out HKL.out HIN.out (.int .i64 (tr.length:Int));have HM4:=Hy hm4;have HK4:=Hy hk4;clear hbud3 hk3 hk3' htk k1 k5 y0 y1 y2 y3 hadd hbx3 hby3 hm4 hk4;go_wp2_with fail
   refine Eag.region (.mov 0 (.mov 1 (.mov 2 (.mov 3 (.mov 4 (.mov 5 (.mov 6 (.mov 7 (.mov 8 (.mov 9 (.anc 10 Eag.Sch.fin))))))))))) [10] (by kernel_rfl) (by kernel_rfl) (fun K ops hops hK => ?_);iterate 10
    refine Eag.mov hops rfl rfl (fun w' hb => ?_) ?_
    ·have q0:=later hb k2;have q1:=later hb k3;have q2:=later hb p0;have q3:=later hb p1;have q4:=later hb p2;have q5:=later hb p3;clear hb;go_simp
    go_simp
   refine Eag.anc hops rfl rfl ?_;go_wp2_with fail;refine Eag.fin (hK _ _ ?_);clear hK hops hrun4 k2 k3 p0 p1 p2 p3;have hkm:Keep (· = M) w3 w4:=(Keep.drew _).trans HK4.out;have ns:s≠M:=fun e=>HS3.out.m.ne HS3.out.sr e.symm
   have nb:bb≠M:=fun e=>HS3.out.m.ne HS3.out.bud.2 e.symm
   have nx:w.heap.size≠M:=fun e=>HS3.out.m.ne HBX3.out e.symm
   have ny:w.heap.size+1≠M:=fun e=>HS3.out.m.ne HBY3.out e.symm
   have hs4:=hkm.blk ns HS3.out.sr;have hbx4:=hkm.blk nx HBX3.out;have hby4:=hkm.blk ny HBY3.out;have HL4:=Hy (HS3.out.list.kept hkm fun g hg e=>HS3.out.list.ne_map HS3.out.m (by rw[hg,e]));have HT4:=Hy (HS3.out.steps.kept hkm fun g hg e=>HS3.out.steps.ne_map HS3.out.m (by rw[hg,e]));have HB4:Hid (BudAt w4 bb (l-1) (u+1)):=HS3.out.bud.keep hkm nb;have HS4:=Hy hs4;have HKM:=Hy hkm
   have k3:w4.cell? ⟨s,3,none⟩=some _:=cB (o:=3) hs4 rfl;have k4:w4.cell? ⟨s,4,none⟩=some _:=cB (o:=4) hs4 rfl;have p0:w4.cell? ⟨w.heap.size,0,none⟩=some (.int .i64 (x.phase:Int)):=cB hbx4 rfl;have p1:w4.cell? ⟨w.heap.size,1,none⟩=some (.int .i64 (x.p:Int)):=cB hbx4 rfl;have p2:w4.cell? ⟨w.heap.size,2,none⟩=some (.int .i64 (x.q:Int)):=cB hbx4 rfl
   have p3:w4.cell? ⟨w.heap.size,3,none⟩=some (.bool x.moved):=cB hbx4 rfl;have t0:w4.cell? ⟨w.heap.size+1,0,none⟩=some (.int .i64 st.from_):=cB hby4 rfl;have t1:w4.cell? ⟨w.heap.size+1,1,none⟩=some (byteV st.by_):=cB hby4 rfl;have t2:w4.cell? ⟨w.heap.size+1,2,none⟩=some (.bool st.free):=cB hby4 rfl
   have gs:¬((Value.slice la tr.length lc).ownBlock=some s∨(Value.slice sa tr.length sc).ownBlock=some s):=fun e=>by
    rcases e with e|e
    ·exact HL4.out.ne hs4 (by decide) e
    ·exact HT4.out.ne hs4 (by decide) e
   have gx:¬((Value.slice la tr.length lc).ownBlock=some w.heap.size∨(Value.slice sa tr.length sc).ownBlock=some w.heap.size):=fun e=>by
    rcases e with e|e
    ·have:=(RowK.lt HS.out.list e).2;omega
    ·have:=(RowK.lt HS.out.steps e).2;omega
   have gy:¬((Value.slice la tr.length lc).ownBlock=some (w.heap.size+1)∨(Value.slice sa tr.length sc).ownBlock=some (w.heap.size+1)):=fun e=>by
    rcases e with e|e
    ·have:=(RowK.lt HS.out.list e).2;omega
    ·have:=(RowK.lt HS.out.steps e).2;omega
   have hz34:w3.heap.size≤w4.heap.size:=hkm.size;have hz3w:w.heap.size≤w3.heap.size:=HK3.out.size;clear hs4 hbx4 hby4 hkm ns nb nx ny;obtain⟨i0,hi,hi0,hi1,hi2⟩:=info_parts info_spot;obtain⟨j0,hj,hj0,hj1,hj2⟩:=info_parts info_step;go_simp;go_wp2_with fail
   refine Eak.region' (Keep fun k=>(Value.slice la tr.length lc).ownBlock=some k∨(Value.slice sa tr.length sc).ownBlock=some k) (.mov 0 (.mov 1 (.mov 2 (.mov 3 (.mov 4 (.mov 5 (.mov 6 (.mov 9 (.mov 10 (.mov 11 (.mov 12 (.mov 13 (.two 7 (.two 8 (.anc 14 (.anc 15 (.mov 16 (.mov 17 (.anc 18 (.mov 19 (.mov 20 (.anc 21 Eag.Sch.fin)))))))) 14 (.anc 8 (.anc 15 (.mov 16 (.mov 17 (.anc 18 (.mov 19 (.mov 20 (.anc 21 Eag.Sch.fin))))))))) 14 (.anc 7 (.anc 8 (.anc 15 (.mov 16 (.mov 17 (.anc 18 (.mov 19 (.mov 20 (.anc 21 Eag.Sch.fin)))))))))))))))))))))) [18,21] (by kernel_rfl) (by kernel_rfl) (fun K ops hops hK => ?_)
   iterate 12
    refine Eak.mov hops rfl rfl (fun w' hb => ?_) ?_
    ·have q0:=Keep.cell hb gs k3;have q1:=Keep.cell hb gs k4;have q2:=Keep.cell hb gx p0;have q3:=Keep.cell hb gx p1;have q4:=Keep.cell hb gx p2;have q5:=Keep.cell hb gx p3;have q6:=Keep.cell hb gy t0;have q7:=Keep.cell hb gy t1;have q8:=Keep.cell hb gy t2;clear hb;go_simp
    go_simp
   clear k3 k4 p0 p1 p2 p3 t0 t1 t2;have nG:∀k,w4.heap.size≤k→¬((Value.slice la tr.length lc).ownBlock=some k∨(Value.slice sa tr.length sc).ownBlock=some k):=fun k hk e=>by
    rcases e with e|e
    ·have:=(RowK.lt HL4.out e).2;omega
    ·have:=(RowK.lt HT4.out e).2;omega
   have NG:=Hy nG;clear nG;have FK:Hid (Keep (fun k=>(Value.slice la tr.length lc).ownBlock=some k∨(Value.slice sa tr.length sc).ownBlock=some k) w4 w4.drew):=Keep.drew _;have FL:=Hy (HL4.out.later (Below.refl _ _).drew);have FT:=Hy (HT4.out.later (Below.refl _ _).drew);have hN4:N0≤w4.heap.size:=by omega
   generalize w4.drew=W at *;refine Eak.two hops rfl rfl rfl rfl ?_ ?_
   ·
    go_wp2_with fail;refine⟨Keep.alloc _ _,?_⟩;have FX:Hid ((W.alloc (.cells #[.int .i64 (x.phase:Int),.int .i64 (x.p:Int),.int .i64 (x.q:Int),.bool x.moved] 271)).heap[W.heap.size]?=some (.cells #[.int .i64 (x.phase:Int),.int .i64 (x.p:Int),.int .i64 (x.q:Int),.bool x.moved] 271)):=blk_new rfl;have hgx:w4.heap.size≤W.heap.size:=FK.out.size
    try replace FY:=Hy (blk_old (o:= .cells #[.int .i64 (x.phase:Int),.int .i64 (x.p:Int),.int .i64 (x.q:Int),.bool x.moved] 271) FY.out)
    replace FK:=Hy (FK.out.trans (Keep.alloc W (.cells #[.int .i64 (x.phase:Int),.int .i64 (x.p:Int),.int .i64 (x.q:Int),.bool x.moved] 271)));replace FL:=Hy (FL.out.later ((Below.refl _ W).alloc (Nat.le_refl _) (.cells #[.int .i64 (x.phase:Int),.int .i64 (x.p:Int),.int .i64 (x.q:Int),.bool x.moved] 271)))
    replace FT:=Hy (FT.out.later ((Below.refl _ W).alloc (Nat.le_refl _) (.cells #[.int .i64 (x.phase:Int),.int .i64 (x.p:Int),.int .i64 (x.q:Int),.bool x.moved] 271)));generalize hw5:W.alloc (.cells #[.int .i64 (x.phase:Int),.int .i64 (x.p:Int),.int .i64 (x.q:Int),.bool x.moved] 271)=W1 at *;clear hw5;generalize W.heap.size=gx1 at *;clear W
    rename World=>W
    refine Eak.two hops rfl rfl rfl rfl ?_ ?_
    ·
     refine app1K_op 261 271 i0 _ 4 32 Tryz.underlying261 hi hi0 hi1 hi2 rfl (by omega) (by omega) _ _ rfl N0 tr.length _ _ rfl FL.out _ (spotC x) rfl rfl FX.out (fun u hu=>by simp only[spotC,List.mem_cons,List.not_mem_nil,or_false]at hu;rcases hu with rfl|rfl|rfl|rfl<;>rfl) (by omega) (by have:=FK.out.size;omega) ?_;intro v8 W1 hr hb hg hm
     have hk:Keep (fun k=>(Value.slice la tr.length lc).ownBlock=some k∨(Value.slice sa tr.length sc).ownBlock=some k) W W1:=Keep.of_grown hg fun x e=> .inl e
     refine⟨.inr hk,?_⟩;replace FT:=Hy (FT.out.other FL.out (by decide) hg);try replace FY:=Hy (hk.blk (NG.out _ hgy) FY.out)
     have M8:Hid (Moved w4 (Value.slice la tr.length lc) v8):=hm.back FK.out.size;replace FK:=Hy (FK.out.trans hk);replace FL:=Hy hr;clear hr hb hg hm hk FX;clear W
     rename World=>W
     refine Eak.anc hops rfl rfl ?_;go_wp2_with fail;refine⟨Keep.alloc _ _,?_⟩;have FY:Hid ((W.alloc (.cells #[.int .i64 st.from_,byteV st.by_,.bool st.free] 273)).heap[W.heap.size]?=some (.cells #[.int .i64 st.from_,byteV st.by_,.bool st.free] 273)):=blk_new rfl;have hgy:w4.heap.size≤W.heap.size:=FK.out.size
     try replace FX:=Hy (blk_old (o:= .cells #[.int .i64 st.from_,byteV st.by_,.bool st.free] 273) FX.out)
     replace FK:=Hy (FK.out.trans (Keep.alloc W (.cells #[.int .i64 st.from_,byteV st.by_,.bool st.free] 273)));replace FL:=Hy (FL.out.later ((Below.refl _ W).alloc (Nat.le_refl _) (.cells #[.int .i64 st.from_,byteV st.by_,.bool st.free] 273)));replace FT:=Hy (FT.out.later ((Below.refl _ W).alloc (Nat.le_refl _) (.cells #[.int .i64 st.from_,byteV st.by_,.bool st.free] 273)))
     generalize hw5:W.alloc (.cells #[.int .i64 st.from_,byteV st.by_,.bool st.free] 273)=W1 at *;clear hw5;generalize W.heap.size=gy1 at *;clear W
     rename World=>W
     refine Eak.anc hops rfl rfl ?_;refine app1K_op 262 273 j0 _ 3 16 Tryz.underlying262 hj hj0 hj1 hj2 rfl (by omega) (by omega) _ _ rfl N0 tr.length _ _ rfl FT.out _ (stepC st) rfl rfl FY.out (fun u hu=>by simp only[stepC,List.mem_cons,List.not_mem_nil,or_false]at hu;rcases hu with rfl|rfl|rfl<;>rfl) (by omega) (by have:=FK.out.size;omega) ?_;intro v15 W1 hr hb hg hm
     have hk:Keep (fun k=>(Value.slice la tr.length lc).ownBlock=some k∨(Value.slice sa tr.length sc).ownBlock=some k) W W1:=Keep.of_grown hg fun x e=> .inr e
     refine⟨.inr hk,?_⟩;replace FL:=Hy (FL.out.other FT.out (by decide) hg);have M15:Hid (Moved w4 (Value.slice sa tr.length sc) v15):=hm.back FK.out.size;replace FK:=Hy (FK.out.trans hk);replace FT:=Hy hr;clear hr hb hg hm hk FY;clear W
     rename World=>W
     obtain⟨a8,c8,e8⟩:=FL.out.sl;obtain⟨a15,c15,e15⟩:=FT.out.sl;subst e8;subst e15;have hs5:=FK.out.blk gs HS4.out;have fs:∀o,W.frozen? ⟨s,o,none⟩=false:=fun o=>fob hs5
     have s3:W.cell? ⟨s,3,none⟩=some (Value.slice la tr.length lc):=cB (o:=3) hs5 rfl;have s4:W.cell? ⟨s,4,none⟩=some (Value.slice sa tr.length sc):=cB (o:=4) hs5 rfl;have HS5:=Hy hs5;clear hs5;go_simp;iterate 2
      refine Eak.mov hops rfl rfl (fun w' hb => ?_) ?_
      ·clear hb;go_simp
      go_simp
     refine Eak.anc hops rfl rfl ?_;go_wp2_with fail;iterate 2
      refine Eak.mov hops rfl rfl (fun w' hb => ?_) ?_
      ·clear hb;go_simp
      go_simp
     refine Eak.anc hops rfl rfl ?_;go_wp2_with fail;refine Eak.fin (hK _ _ ?_);clear hK hops;go_simp;go_wp2_with fail;have hzw:w.heap.size≤w4.heap.size:=by omega
     have KS:Keep (· = s) W ((W.setCell ⟨s,3,none⟩ (Value.slice a8 (tr.length+1) c8)).setCell ⟨s,4,none⟩ (Value.slice a15 (tr.length+1) c15)):=Keep.trans (H:=(· = s)) (Keep.set rfl) (Keep.set rfl);have nbs:¬bb=s:=fun e=>by have h1:=HS4.out;have h2:=HB4.out.2;rw[e,h1]at h2;cases h2
     have nMs:¬M=s:=fun e=>HM4.out.ne HS4.out e
     have nGb:¬((Value.slice la tr.length lc).ownBlock=some bb∨(Value.slice sa tr.length sc).ownBlock=some bb):=fun e=>by
      rcases e with e|e
      ·exact HL4.out.ne HB4.out.2 (by decide) e
      ·exact HT4.out.ne HB4.out.2 (by decide) e
     have nGM:¬((Value.slice la tr.length lc).ownBlock=some M∨(Value.slice sa tr.length sc).ownBlock=some M):=fun e=>by
      rcases e with e|e
      ·exact HL4.out.ne_map HM4.out e
      ·exact HT4.out.ne_map HM4.out e
     have hsF:=blk_set (o:=4) (v:=Value.slice a15 (tr.length+1) c15) (blk_set (o:=3) (v:=Value.slice a8 (tr.length+1) c8) HS5.out);have hbF:=(HB4.out.keep FK.out nGb).keep KS nbs;rw[show u+1=u+(l-(l-1)) by omega]at hbF
     have KA:Keep (addT s bb M (Value.slice la tr.length lc) (Value.slice sa tr.length sc)) w ((W.setCell ⟨s,3,none⟩ (Value.slice a8 (tr.length+1) c8)).setCell ⟨s,4,none⟩ (Value.slice a15 (tr.length+1) c15)):=
      (((HK3.out.wide fun k e=> .inl (.inr (.inl e))).trans (HKM.out.wide fun k e=> .inl (.inr (.inr (.inl e))))).trans (FK.out.wide fun k e=> .inl (.inr (.inr (.inr e))))).trans (KS.wide fun k e=> .inl (.inl e))
     exact R2.out _ _ _ _ _ HADD.out (SrAt.pushed HS.out KA hsF ((HM4.out.keep FK.out nGM).keep KS nMs) (FL.out.kept KS fun g hg e=>FL.out.ne HS5.out (by decide) (by rw[hg,e])) (FT.out.kept KS fun g hg e=>FT.out.ne HS5.out (by decide) (by rw[hg,e])) hbF (M8.out.back hzw) (M15.out.back hzw)) KA
    ·
     go_wp2_with fail;refine⟨Keep.alloc _ _,?_⟩;have FY:Hid ((W.alloc (.cells #[.int .i64 st.from_,byteV st.by_,.bool st.free] 273)).heap[W.heap.size]?=some (.cells #[.int .i64 st.from_,byteV st.by_,.bool st.free] 273)):=blk_new rfl;have hgy:w4.heap.size≤W.heap.size:=FK.out.size;try replace FX:=Hy (blk_old (o:= .cells #[.int .i64 st.from_,byteV st.by_,.bool st.free] 273) FX.out)
     replace FK:=Hy (FK.out.trans (Keep.alloc W (.cells #[.int .i64 st.from_,byteV st.by_,.bool st.free] 273)));replace FL:=Hy (FL.out.later ((Below.refl _ W).alloc (Nat.le_refl _) (.cells #[.int .i64 st.from_,byteV st.by_,.bool st.free] 273)));replace FT:=Hy (FT.out.later ((Below.refl _ W).alloc (Nat.le_refl _) (.cells #[.int .i64 st.from_,byteV st.by_,.bool st.free] 273)))
     generalize hw5:W.alloc (.cells #[.int .i64 st.from_,byteV st.by_,.bool st.free] 273)=W1 at *;clear hw5;generalize W.heap.size=gy1 at *;clear W
     rename World=>W
     refine Eak.anc hops rfl rfl ?_;refine app1K_op 261 271 i0 _ 4 32 Tryz.underlying261 hi hi0 hi1 hi2 rfl (by omega) (by omega) _ _ rfl N0 tr.length _ _ rfl FL.out _ (spotC x) rfl rfl FX.out (fun u hu=>by simp only[spotC,List.mem_cons,List.not_mem_nil,or_false]at hu;rcases hu with rfl|rfl|rfl|rfl<;>rfl) (by omega) (by have:=FK.out.size;omega) ?_;intro v8 W1 hr hb hg hm
     have hk:Keep (fun k=>(Value.slice la tr.length lc).ownBlock=some k∨(Value.slice sa tr.length sc).ownBlock=some k) W W1:=Keep.of_grown hg fun x e=> .inl e
     refine⟨.inr hk,?_⟩;replace FT:=Hy (FT.out.other FL.out (by decide) hg);try replace FY:=Hy (hk.blk (NG.out _ hgy) FY.out)
     have M8:Hid (Moved w4 (Value.slice la tr.length lc) v8):=hm.back FK.out.size;replace FK:=Hy (FK.out.trans hk);replace FL:=Hy hr;clear hr hb hg hm hk FX;clear W
     rename World=>W
     refine Eak.anc hops rfl rfl ?_;refine app1K_op 262 273 j0 _ 3 16 Tryz.underlying262 hj hj0 hj1 hj2 rfl (by omega) (by omega) _ _ rfl N0 tr.length _ _ rfl FT.out _ (stepC st) rfl rfl FY.out (fun u hu=>by simp only[stepC,List.mem_cons,List.not_mem_nil,or_false]at hu;rcases hu with rfl|rfl|rfl<;>rfl) (by omega) (by have:=FK.out.size;omega) ?_;intro v15 W1 hr hb hg hm
     have hk:Keep (fun k=>(Value.slice la tr.length lc).ownBlock=some k∨(Value.slice sa tr.length sc).ownBlock=some k) W W1:=Keep.of_grown hg fun x e=> .inr e
     refine⟨.inr hk,?_⟩;replace FL:=Hy (FL.out.other FT.out (by decide) hg);have M15:Hid (Moved w4 (Value.slice sa tr.length sc) v15):=hm.back FK.out.size;replace FK:=Hy (FK.out.trans hk);replace FT:=Hy hr;clear hr hb hg hm hk FY;clear W
     rename World=>W
     obtain⟨a8,c8,e8⟩:=FL.out.sl;obtain⟨a15,c15,e15⟩:=FT.out.sl;subst e8;subst e15;have hs5:=FK.out.blk gs HS4.out;have fs:∀o,W.frozen? ⟨s,o,none⟩=false:=fun o=>fob hs5
     have s3:W.cell? ⟨s,3,none⟩=some (Value.slice la tr.length lc):=cB (o:=3) hs5 rfl;have s4:W.cell? ⟨s,4,none⟩=some (Value.slice sa tr.length sc):=cB (o:=4) hs5 rfl;have HS5:=Hy hs5;clear hs5;go_simp;iterate 2
      refine Eak.mov hops rfl rfl (fun w' hb => ?_) ?_
      ·clear hb;go_simp
      go_simp
     refine Eak.anc hops rfl rfl ?_;go_wp2_with fail;iterate 2
      refine Eak.mov hops rfl rfl (fun w' hb => ?_) ?_
      ·clear hb;go_simp
      go_simp
     refine Eak.anc hops rfl rfl ?_;go_wp2_with fail;refine Eak.fin (hK _ _ ?_);clear hK hops;go_simp;go_wp2_with fail;have hzw:w.heap.size≤w4.heap.size:=by omega
     have KS:Keep (· = s) W ((W.setCell ⟨s,3,none⟩ (Value.slice a8 (tr.length+1) c8)).setCell ⟨s,4,none⟩ (Value.slice a15 (tr.length+1) c15)):=Keep.trans (H:=(· = s)) (Keep.set rfl) (Keep.set rfl);have nbs:¬bb=s:=fun e=>by have h1:=HS4.out;have h2:=HB4.out.2;rw[e,h1]at h2;cases h2
     have nMs:¬M=s:=fun e=>HM4.out.ne HS4.out e
     have nGb:¬((Value.slice la tr.length lc).ownBlock=some bb∨(Value.slice sa tr.length sc).ownBlock=some bb):=fun e=>by
      rcases e with e|e
      ·exact HL4.out.ne HB4.out.2 (by decide) e
      ·exact HT4.out.ne HB4.out.2 (by decide) e
     have nGM:¬((Value.slice la tr.length lc).ownBlock=some M∨(Value.slice sa tr.length sc).ownBlock=some M):=fun e=>by
      rcases e with e|e
      ·exact HL4.out.ne_map HM4.out e
      ·exact HT4.out.ne_map HM4.out e
     have hsF:=blk_set (o:=4) (v:=Value.slice a15 (tr.length+1) c15) (blk_set (o:=3) (v:=Value.slice a8 (tr.length+1) c8) HS5.out);have hbF:=(HB4.out.keep FK.out nGb).keep KS nbs;rw[show u+1=u+(l-(l-1)) by omega]at hbF
     have KA:Keep (addT s bb M (Value.slice la tr.length lc) (Value.slice sa tr.length sc)) w ((W.setCell ⟨s,3,none⟩ (Value.slice a8 (tr.length+1) c8)).setCell ⟨s,4,none⟩ (Value.slice a15 (tr.length+1) c15)):=
      (((HK3.out.wide fun k e=> .inl (.inr (.inl e))).trans (HKM.out.wide fun k e=> .inl (.inr (.inr (.inl e))))).trans (FK.out.wide fun k e=> .inl (.inr (.inr (.inr e))))).trans (KS.wide fun k e=> .inl (.inl e))
     exact R2.out _ _ _ _ _ HADD.out (SrAt.pushed HS.out KA hsF ((HM4.out.keep FK.out nGM).keep KS nMs) (FL.out.kept KS fun g hg e=>FL.out.ne HS5.out (by decide) (by rw[hg,e])) (FT.out.kept KS fun g hg e=>FT.out.ne HS5.out (by decide) (by rw[hg,e])) hbF (M8.out.back hzw) (M15.out.back hzw)) KA
   ·
    go_wp2_with fail;refine⟨Keep.alloc _ _,?_⟩;have FY:Hid ((W.alloc (.cells #[.int .i64 st.from_,byteV st.by_,.bool st.free] 273)).heap[W.heap.size]?=some (.cells #[.int .i64 st.from_,byteV st.by_,.bool st.free] 273)):=blk_new rfl;have hgy:w4.heap.size≤W.heap.size:=FK.out.size;try replace FX:=Hy (blk_old (o:= .cells #[.int .i64 st.from_,byteV st.by_,.bool st.free] 273) FX.out)
    replace FK:=Hy (FK.out.trans (Keep.alloc W (.cells #[.int .i64 st.from_,byteV st.by_,.bool st.free] 273)));replace FL:=Hy (FL.out.later ((Below.refl _ W).alloc (Nat.le_refl _) (.cells #[.int .i64 st.from_,byteV st.by_,.bool st.free] 273)));replace FT:=Hy (FT.out.later ((Below.refl _ W).alloc (Nat.le_refl _) (.cells #[.int .i64 st.from_,byteV st.by_,.bool st.free] 273)))
    generalize hw5:W.alloc (.cells #[.int .i64 st.from_,byteV st.by_,.bool st.free] 273)=W1 at *;clear hw5;generalize W.heap.size=gy1 at *;clear W
    rename World=>W
    refine Eak.anc hops rfl rfl ?_;go_wp2_with fail;refine⟨Keep.alloc _ _,?_⟩;have FX:Hid ((W.alloc (.cells #[.int .i64 (x.phase:Int),.int .i64 (x.p:Int),.int .i64 (x.q:Int),.bool x.moved] 271)).heap[W.heap.size]?=some (.cells #[.int .i64 (x.phase:Int),.int .i64 (x.p:Int),.int .i64 (x.q:Int),.bool x.moved] 271)):=blk_new rfl;have hgx:w4.heap.size≤W.heap.size:=FK.out.size
    try replace FY:=Hy (blk_old (o:= .cells #[.int .i64 (x.phase:Int),.int .i64 (x.p:Int),.int .i64 (x.q:Int),.bool x.moved] 271) FY.out)
    replace FK:=Hy (FK.out.trans (Keep.alloc W (.cells #[.int .i64 (x.phase:Int),.int .i64 (x.p:Int),.int .i64 (x.q:Int),.bool x.moved] 271)));replace FL:=Hy (FL.out.later ((Below.refl _ W).alloc (Nat.le_refl _) (.cells #[.int .i64 (x.phase:Int),.int .i64 (x.p:Int),.int .i64 (x.q:Int),.bool x.moved] 271)))
    replace FT:=Hy (FT.out.later ((Below.refl _ W).alloc (Nat.le_refl _) (.cells #[.int .i64 (x.phase:Int),.int .i64 (x.p:Int),.int .i64 (x.q:Int),.bool x.moved] 271)));generalize hw5:W.alloc (.cells #[.int .i64 (x.phase:Int),.int .i64 (x.p:Int),.int .i64 (x.q:Int),.bool x.moved] 271)=W1 at *;clear hw5;generalize W.heap.size=gx1 at *;clear W
    rename World=>W
    refine Eak.anc hops rfl rfl ?_;refine app1K_op 261 271 i0 _ 4 32 Tryz.underlying261 hi hi0 hi1 hi2 rfl (by omega) (by omega) _ _ rfl N0 tr.length _ _ rfl FL.out _ (spotC x) rfl rfl FX.out (fun u hu=>by simp only[spotC,List.mem_cons,List.not_mem_nil,or_false]at hu;rcases hu with rfl|rfl|rfl|rfl<;>rfl) (by omega) (by have:=FK.out.size;omega) ?_;intro v8 W1 hr hb hg hm
    have hk:Keep (fun k=>(Value.slice la tr.length lc).ownBlock=some k∨(Value.slice sa tr.length sc).ownBlock=some k) W W1:=Keep.of_grown hg fun x e=> .inl e
    refine⟨.inr hk,?_⟩;replace FT:=Hy (FT.out.other FL.out (by decide) hg);try replace FY:=Hy (hk.blk (NG.out _ hgy) FY.out)
    have M8:Hid (Moved w4 (Value.slice la tr.length lc) v8):=hm.back FK.out.size;replace FK:=Hy (FK.out.trans hk);replace FL:=Hy hr;clear hr hb hg hm hk FX;clear W
    rename World=>W
    refine Eak.anc hops rfl rfl ?_;refine app1K_op 262 273 j0 _ 3 16 Tryz.underlying262 hj hj0 hj1 hj2 rfl (by omega) (by omega) _ _ rfl N0 tr.length _ _ rfl FT.out _ (stepC st) rfl rfl FY.out (fun u hu=>by simp only[stepC,List.mem_cons,List.not_mem_nil,or_false]at hu;rcases hu with rfl|rfl|rfl<;>rfl) (by omega) (by have:=FK.out.size;omega) ?_;intro v15 W1 hr hb hg hm
    have hk:Keep (fun k=>(Value.slice la tr.length lc).ownBlock=some k∨(Value.slice sa tr.length sc).ownBlock=some k) W W1:=Keep.of_grown hg fun x e=> .inr e
    refine⟨.inr hk,?_⟩;replace FL:=Hy (FL.out.other FT.out (by decide) hg);have M15:Hid (Moved w4 (Value.slice sa tr.length sc) v15):=hm.back FK.out.size;replace FK:=Hy (FK.out.trans hk);replace FT:=Hy hr;clear hr hb hg hm hk FY;clear W
    rename World=>W
    obtain⟨a8,c8,e8⟩:=FL.out.sl;obtain⟨a15,c15,e15⟩:=FT.out.sl;subst e8;subst e15;have hs5:=FK.out.blk gs HS4.out;have fs:∀o,W.frozen? ⟨s,o,none⟩=false:=fun o=>fob hs5
    have s3:W.cell? ⟨s,3,none⟩=some (Value.slice la tr.length lc):=cB (o:=3) hs5 rfl;have s4:W.cell? ⟨s,4,none⟩=some (Value.slice sa tr.length sc):=cB (o:=4) hs5 rfl;have HS5:=Hy hs5;clear hs5;go_simp;iterate 2
     refine Eak.mov hops rfl rfl (fun w' hb => ?_) ?_
     ·clear hb;go_simp
     go_simp
    refine Eak.anc hops rfl rfl ?_;go_wp2_with fail;iterate 2
     refine Eak.mov hops rfl rfl (fun w' hb => ?_) ?_
     ·clear hb;go_simp
     go_simp
    refine Eak.anc hops rfl rfl ?_;go_wp2_with fail;refine Eak.fin (hK _ _ ?_);clear hK hops;go_simp;go_wp2_with fail;have hzw:w.heap.size≤w4.heap.size:=by omega
    have KS:Keep (· = s) W ((W.setCell ⟨s,3,none⟩ (Value.slice a8 (tr.length+1) c8)).setCell ⟨s,4,none⟩ (Value.slice a15 (tr.length+1) c15)):=Keep.trans (H:=(· = s)) (Keep.set rfl) (Keep.set rfl);have nbs:¬bb=s:=fun e=>by have h1:=HS4.out;have h2:=HB4.out.2;rw[e,h1]at h2;cases h2
    have nMs:¬M=s:=fun e=>HM4.out.ne HS4.out e
    have nGb:¬((Value.slice la tr.length lc).ownBlock=some bb∨(Value.slice sa tr.length sc).ownBlock=some bb):=fun e=>by
     rcases e with e|e
     ·exact HL4.out.ne HB4.out.2 (by decide) e
     ·exact HT4.out.ne HB4.out.2 (by decide) e
    have nGM:¬((Value.slice la tr.length lc).ownBlock=some M∨(Value.slice sa tr.length sc).ownBlock=some M):=fun e=>by
     rcases e with e|e
     ·exact HL4.out.ne_map HM4.out e
     ·exact HT4.out.ne_map HM4.out e
    have hsF:=blk_set (o:=4) (v:=Value.slice a15 (tr.length+1) c15) (blk_set (o:=3) (v:=Value.slice a8 (tr.length+1) c8) HS5.out);have hbF:=(HB4.out.keep FK.out nGb).keep KS nbs;rw[show u+1=u+(l-(l-1)) by omega]at hbF
    have KA:Keep (addT s bb M (Value.slice la tr.length lc) (Value.slice sa tr.length sc)) w ((W.setCell ⟨s,3,none⟩ (Value.slice a8 (tr.length+1) c8)).setCell ⟨s,4,none⟩ (Value.slice a15 (tr.length+1) c15)):=
     (((HK3.out.wide fun k e=> .inl (.inr (.inl e))).trans (HKM.out.wide fun k e=> .inl (.inr (.inr (.inl e))))).trans (FK.out.wide fun k e=> .inl (.inr (.inr (.inr e))))).trans (KS.wide fun k e=> .inl (.inl e))
    exact R2.out _ _ _ _ _ HADD.out (SrAt.pushed HS.out KA hsF ((HM4.out.keep FK.out nGM).keep KS nMs) (FL.out.kept KS fun g hg e=>FL.out.ne HS5.out (by decide) (by rw[hg,e])) (FT.out.kept KS fun g hg e=>FT.out.ne HS5.out (by decide) (by rw[hg,e])) hbF (M8.out.back hzw) (M15.out.back hzw)) KA
end Go.Proofs.YtamkfdlcdiadlaaGreatDoor
