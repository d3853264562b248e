/- The walk of ambig's by. -/
import Derived.Test.YtamkfdlcdiadlaaGreatDoorKb05
import Derived.Test.YtamkfdlcdiadlaaGreatDoorKb21
import Derived.Test.YtamkfdlcdiadlaaGreatDoorKb14
set_option linter.all false
namespace Go.Proofs.YtamkfdlcdiadlaaGreatDoor
open Go.RowKit Go.Maps
variable {H:Nat→Prop}
def byV (A B:Pv.Dfa)(x:Pv.Spot)(b:Nat):Pv.Spot × Bool:=
 if x.phase=0 then(⟨0,A.step x.p b,0,false⟩,A.isLive (A.step x.p b))
 else if x.phase=1 then(⟨1,A.step x.p b,B.step x.q b,true⟩,A.isLive (A.step x.p b)&&B.isLive (B.step x.q b))
 else(⟨2,B.step x.p b,B.step x.q b,false⟩,B.isLive (B.step x.p b)&&B.isLive (B.step x.q b))
structure SpotOk (A B:Pv.Dfa)(x:Pv.Spot):Prop where
 ph:x.phase≤2
 p0:x.phase≤1→x.p<A.yes.length
 p2:x.phase=2→x.p<B.yes.length
 q1:1≤x.phase→x.q<B.yes.length
theorem step_quiet {D:Pv.Dfa}(hD:D.Ok){d q b:Nat}{w:World}{n:Nat}(h:DfaAt H (w.drewN n) D d)(hq:q<D.yes.length)(hb:b<256):
  Calls Tryz.prog 201 #[Ptr d,.int .i64 (q:Int),.int .u8 (b:Int)] (w.drewN n) fun e w'=>e = .returned (.int .i64 (D.step q b:Int))∧∃m,w'=w.drewN m:=
 (step_any D hD d q b _ h hq hb).mono fun _ _ ⟨h1,h2⟩=>⟨h1,n+1,h2⟩
theorem keep_set4 {b g:Nat}{W:World}{v0 v1 v2 v3:Value}(h:g=b):Keep (· = b) W ((((W.setCell ⟨g,0,none⟩ v0).setCell ⟨g,1,none⟩ v1).setCell ⟨g,2,none⟩ v2).setCell ⟨g,3,none⟩ v3):=by subst h;exact Keep.trans (H:=(· = g)) (Keep.trans (H:=(· = g)) (Keep.trans (H:=(· = g)) (Keep.set rfl) (Keep.set rfl)) (Keep.set rfl)) (Keep.set rfl)
theorem DfaAt.set4 {W:World}{z d:Nat}{D:Pv.Dfa}{v0 v1 v2 v3:Value}(h:DfaAt (fun k=>H k∨k=z) W D d)(hd:d≠z):DfaAt H ((((W.setCell ⟨z,0,none⟩ v0).setCell ⟨z,1,none⟩ v1).setCell ⟨z,2,none⟩ v2).setCell ⟨z,3,none⟩ v3) D d:=
 (h.keep (keep_set4 rfl) (fun k e=> .inl (.inr e)) hd).widen fun k hk=> .inl (.inl hk)
set_option maxRecDepth 20000 in
set_option maxHeartbeats 1000000 in
theorem sby0 (A B:Pv.Dfa)(hA:A.Ok)(hB:B.Ok)(p q:Nat)(mv:Bool)(c s a b M bb:Nat)(lv sv:Value)(w:World)(hc:c<256)(hp:p<A.yes.length)
  (hs:w.heap[s]?=some (.cells #[Ptr a,Ptr b,.map (some M),lv,sv,Ptr bb] 264)) (hda:DfaAt H w A a) (hdb:DfaAt H w B b) (hab:a≠b) (ha:H a) (hb:H b) (hH:∀k,H k→k<w.heap.size)
  (hnA:A.yes.length<549755813888) (hnB:B.yes.length<549755813888):
  Calls Tryz.prog 183 #[Ptr s,.agg #[.int .i64 0,.int .i64 (p:Int),.int .i64 (q:Int),.bool mv],.int .u8 (c:Int)] w fun e w'=>e = .returned (.tuple #[spotV ⟨0,A.step p c,0,false⟩,.bool (A.isLive (A.step p c))])∧DfaAt H w' A a∧DfaAt H w' B b∧Keep (fun k=>k=a∨k=b) w w':=by
 have hx0:∀W,Below w.heap.size w W→W.cell? ⟨s,0,none⟩=some (Ptr a):=fun W hb=>cB (o:=0) (later_blk hb hs) rfl
 have hx1:∀W,Below w.heap.size w W→W.cell? ⟨s,1,none⟩=some (Ptr b):=fun W hb=>cB (o:=1) (later_blk hb hs) rfl
 have HX0:=Hy hx0;have HX1:=Hy hx1;have HS:=Hy hs;have hlt:=blk_lt hs;have hlta:=hda.lt;have hltb:=hdb.lt;have HDA:=Hy (hda.widen (H':=fun k=>H k∨k=w.heap.size+1) fun k hk=>by rcases hk with h|h;exact .inl h;exact .inr (by omega));have HDB:=Hy (hdb.widen (H':=fun k=>H k∨k=w.heap.size+1) fun k hk=>by rcases hk with h|h;exact .inl h;exact .inr (by omega));have HOA:=Hy hA;have HOB:=Hy hB
 have HHH:=Hy hH;clear hx0 hx1 hs hda hdb hA hB hH;have hsa:s≠a:=fun e=>by obtain⟨_,_,_,_,_,h,_⟩:=HDA.out;have h2:=HS.out;rw[e,h]at h2;cases h2
 have hsb:s≠b:=fun e=>by obtain⟨_,_,_,_,_,h,_⟩:=HDB.out;have h2:=HS.out;rw[e,h]at h2;cases h2
 go_enter Tryz.func183,Tryz.ntmps183;go_wp2_with fail;obtain⟨w2,hw2⟩:∃w2,(w.alloc (.cells #[.int .i64 0,.int .i64 (p:Int),.int .i64 (q:Int),.bool mv] 271)).alloc (.cells #[.int .i64 0,.int .i64 0,.int .i64 0,.bool false] 271)=w2:=⟨_,rfl⟩
 have hB:Below w.heap.size w w2:=by rw[←hw2];exact((Below.refl _ _).alloc (Nat.le_refl _) _).alloc (by simp) _
 have hx:w2.heap[w.heap.size]?=some (.cells #[.int .i64 0,.int .i64 (p:Int),.int .i64 (q:Int),.bool mv] 271):=by rw[←hw2];exact blk_old (blk_new rfl)
 have hr:w2.heap[w.heap.size+1]?=some (.cells #[.int .i64 0,.int .i64 0,.int .i64 0,.bool false] 271):=by rw[←hw2];exact blk_new (by simp)
 rw[hw2];clear hw2;have x0:=HX0.out _ hB;have x1:=HX1.out _ hB;have y1:w2.cell? ⟨w.heap.size,1,none⟩=some (.int .i64 (p:Int)):=cB hx rfl;have y2:w2.cell? ⟨w.heap.size,2,none⟩=some (.int .i64 (q:Int)):=cB hx rfl;have HR:=Hy hr;have HB:=Hy hB;have hzb:=blk_lt hr;clear hx hr hB;go_quiet ((go_at_call 201;exact step_quiet HOA.out (HDA.out.later (below_drewN HB.out _)) hp hc))
 replace x0:(w2.drewN nq).cell? ⟨s,0,none⟩=_:=x0;replace x1:(w2.drewN nq).cell? ⟨s,1,none⟩=_:=x1;replace HR:Hid ((w2.drewN nq).heap[w.heap.size+1]?=_):=HR;replace HB:=Hy (below_drewN HB.out nq);replace hzb:w.heap.size+1<(w2.drewN nq).heap.size:=hzb;clear y1 y2;generalize w2.drewN nq=w3 at *;have hpl:A.step p c<A.yes.length:=HOA.out.step_lt hp c
 have hlv:=live_any A HOA.out a (A.step p c) w3 (HDA.out.later HB.out) (.inl ha) (fun k hk=>by rcases hk with h|h;have:=HHH.out k h;omega;omega) hnA hpl;generalize hp2:A.step p c=p2 at *;have HP2:=Hy hp2;clear hp2;go_wp2_with fail;refine hlv.mono ?_;rintro e w4 ⟨rfl,hd4,hk4⟩;have hr4:=hk4.blk (show ¬w.heap.size+1=a by omega) HR.out
 have ho4:=(HDB.out.later HB.out).keep hk4 (fun k e=> .inl (by rw[e];exact .inl ha)) (by exact fun e=>hab e.symm);have r0:=cB (o:=0) hr4 rfl;have r1:=cB (o:=1) hr4 rfl;have r2:=cB (o:=2) hr4 rfl;have r3:=cB (o:=3) hr4 rfl;have fr:∀o,w4.frozen? ⟨w.heap.size+1,o,none⟩=false:=fun o=>fob hr4
 have HD4:=Hy hd4;have HO4:=Hy ho4;have HK4:Hid (Keep (fun k=>k=a∨k=b) w w4):=(Keep.of_below HB.out).trans (hk4.wide fun x e=> .inl (.inl e));clear hd4 ho4 hk4 hlv;go_wp2_with fail
 refine bodyPost_ret (v:= .tuple #[spotV ⟨0,p2,0,false⟩,.bool (A.isLive p2)]) ?_ rfl ⟨by simp[HP2.out],HD4.out.set4 (by omega),HO4.out.set4 (by omega),HK4.out.trans_ (H1:=(· = w.heap.size+1)) (keep_set4 rfl) (fun x e=> .inr (by omega))⟩;simp[results,Tryz.results183,go_sem,r0,r1,r2,r3]
set_option maxRecDepth 20000 in
set_option maxHeartbeats 1000000 in
theorem sby1 (A B:Pv.Dfa)(hA:A.Ok)(hB:B.Ok)(p q:Nat)(mv:Bool)(c s a b M bb:Nat)(lv sv:Value)(w:World)(hc:c<256)(hp:p<A.yes.length)(hq:q<B.yes.length)
  (hs:w.heap[s]?=some (.cells #[Ptr a,Ptr b,.map (some M),lv,sv,Ptr bb] 264)) (hda:DfaAt H w A a) (hdb:DfaAt H w B b) (hab:a≠b) (ha:H a) (hb:H b) (hH:∀k,H k→k<w.heap.size)
  (hnA:A.yes.length<549755813888) (hnB:B.yes.length<549755813888):
  Calls Tryz.prog 183 #[Ptr s,.agg #[.int .i64 1,.int .i64 (p:Int),.int .i64 (q:Int),.bool mv],.int .u8 (c:Int)] w fun e w'=>e = .returned (.tuple #[spotV ⟨1,A.step p c,B.step q c,true⟩,.bool (A.isLive (A.step p c)&&B.isLive (B.step q c))])∧DfaAt H w' A a∧DfaAt H w' B b∧Keep (fun k=>k=a∨k=b) w w':=by
 have hx0:∀W,Below w.heap.size w W→W.cell? ⟨s,0,none⟩=some (Ptr a):=fun W hb=>cB (o:=0) (later_blk hb hs) rfl
 have hx1:∀W,Below w.heap.size w W→W.cell? ⟨s,1,none⟩=some (Ptr b):=fun W hb=>cB (o:=1) (later_blk hb hs) rfl
 have HX0:=Hy hx0;have HX1:=Hy hx1;have HS:=Hy hs;have hlt:=blk_lt hs;have hlta:=hda.lt;have hltb:=hdb.lt;have HDA:=Hy (hda.widen (H':=fun k=>H k∨k=w.heap.size+1) fun k hk=>by rcases hk with h|h;exact .inl h;exact .inr (by omega));have HDB:=Hy (hdb.widen (H':=fun k=>H k∨k=w.heap.size+1) fun k hk=>by rcases hk with h|h;exact .inl h;exact .inr (by omega));have HOA:=Hy hA;have HOB:=Hy hB
 have HHH:=Hy hH;clear hx0 hx1 hs hda hdb hA hB hH;have hsa:s≠a:=fun e=>by obtain⟨_,_,_,_,_,h,_⟩:=HDA.out;have h2:=HS.out;rw[e,h]at h2;cases h2
 have hsb:s≠b:=fun e=>by obtain⟨_,_,_,_,_,h,_⟩:=HDB.out;have h2:=HS.out;rw[e,h]at h2;cases h2
 go_enter Tryz.func183,Tryz.ntmps183;go_wp2_with fail;obtain⟨w2,hw2⟩:∃w2,(w.alloc (.cells #[.int .i64 1,.int .i64 (p:Int),.int .i64 (q:Int),.bool mv] 271)).alloc (.cells #[.int .i64 0,.int .i64 0,.int .i64 0,.bool false] 271)=w2:=⟨_,rfl⟩
 have hB:Below w.heap.size w w2:=by rw[←hw2];exact((Below.refl _ _).alloc (Nat.le_refl _) _).alloc (by simp) _
 have hx:w2.heap[w.heap.size]?=some (.cells #[.int .i64 1,.int .i64 (p:Int),.int .i64 (q:Int),.bool mv] 271):=by rw[←hw2];exact blk_old (blk_new rfl)
 have hr:w2.heap[w.heap.size+1]?=some (.cells #[.int .i64 0,.int .i64 0,.int .i64 0,.bool false] 271):=by rw[←hw2];exact blk_new (by simp)
 rw[hw2];clear hw2;have x0:=HX0.out _ hB;have x1:=HX1.out _ hB;have y1:w2.cell? ⟨w.heap.size,1,none⟩=some (.int .i64 (p:Int)):=cB hx rfl;have y2:w2.cell? ⟨w.heap.size,2,none⟩=some (.int .i64 (q:Int)):=cB hx rfl;have HR:=Hy hr;have HB:=Hy hB;have hzb:=blk_lt hr;clear hx hr hB
 go_quiet ((first|(go_at_call_of 201 (Ptr a);exact step_quiet HOA.out (HDA.out.later (below_drewN HB.out _)) hp hc)|(go_at_call_of 201 (Ptr b);exact step_quiet HOB.out (HDB.out.later (below_drewN HB.out _)) hq hc)));replace x0:(w2.drewN nq).cell? ⟨s,0,none⟩=_:=x0;replace x1:(w2.drewN nq).cell? ⟨s,1,none⟩=_:=x1;replace HR:Hid ((w2.drewN nq).heap[w.heap.size+1]?=_):=HR
 replace HB:=Hy (below_drewN HB.out nq);replace hzb:w.heap.size+1<(w2.drewN nq).heap.size:=hzb;clear y1 y2;generalize w2.drewN nq=w3 at *;have hpl:A.step p c<A.yes.length:=HOA.out.step_lt hp c;have hql:B.step q c<B.yes.length:=HOB.out.step_lt hq c;have hlv:=live_any A HOA.out a (A.step p c) w3 (HDA.out.later HB.out) (.inl ha) (fun k hk=>by rcases hk with h|h;have:=HHH.out k h;omega;omega) hnA hpl
 generalize hp2:A.step p c=p2 at *;have HP2:=Hy hp2;clear hp2;generalize hq2:B.step q c=q2 at *;have HQ2:=Hy hq2;clear hq2;cases hlp:A.isLive p2 with
 | false=>
   rw[hlp]at hlv;go_wp2_with fail;refine hlv.mono ?_;rintro e w4 ⟨rfl,hd4,hk4⟩;have hr4:=hk4.blk (show ¬w.heap.size+1=a by omega) HR.out;have ho4:=(HDB.out.later HB.out).keep hk4 (fun k e=> .inl (by rw[e];exact .inl ha)) (by exact fun e=>hab e.symm);have r0:=cB (o:=0) hr4 rfl;have r1:=cB (o:=1) hr4 rfl;have r2:=cB (o:=2) hr4 rfl;have r3:=cB (o:=3) hr4 rfl
   have fr:∀o,w4.frozen? ⟨w.heap.size+1,o,none⟩=false:=fun o=>fob hr4
   have HD4:=Hy hd4;have HO4:=Hy ho4;have HK4:Hid (Keep (fun k=>k=a∨k=b) w w4):=(Keep.of_below HB.out).trans (hk4.wide fun x e=> .inl (.inl e));clear hd4 ho4 hk4 hlv;go_wp2_with fail
   refine bodyPost_ret (v:= .tuple #[spotV ⟨1,p2,q2,true⟩,.bool false]) ?_ rfl ⟨by simp[HP2.out,HQ2.out,hlp],HD4.out.set4 (by omega),HO4.out.set4 (by omega),HK4.out.trans_ (H1:=(· = w.heap.size+1)) (keep_set4 rfl) (fun x e=> .inr (by omega))⟩;simp[results,Tryz.results183,go_sem,r0,r1,r2,r3]
 | true=>
   rw[hlp]at hlv;generalize hlq:B.isLive q2=ok2;go_wp2_with fail;refine hlv.mono ?_;rintro e w4 ⟨rfl,hd4,hk4⟩;have hr4:=hk4.blk (show ¬w.heap.size+1=a by omega) HR.out;have ho4:=(HDB.out.later HB.out).keep hk4 (fun k e=> .inl (by rw[e];exact .inl ha)) (by exact fun e=>hab e.symm);have r0:=cB (o:=0) hr4 rfl;have r1:=cB (o:=1) hr4 rfl;have r2:=cB (o:=2) hr4 rfl;have r3:=cB (o:=3) hr4 rfl
   have fr:∀o,w4.frozen? ⟨w.heap.size+1,o,none⟩=false:=fun o=>fob hr4
   have HD4:=Hy hd4;have HO4:=Hy ho4;have HK4:Hid (Keep (fun k=>k=a∨k=b) w w4):=(Keep.of_below HB.out).trans (hk4.wide fun x e=> .inl (.inl e));have z1:=hk4.cell hsa x1;have hlv2:=live_any B HOB.out b q2 w4 HO4.out (.inl hb) (fun k hk=>by have:=hk4.size;rcases hk with h|h;have:=HHH.out k h;omega;omega) hnB hql;have hz4:=hk4.size;clear hd4 ho4 hk4 hlv;go_wp2_with fail;rw[hlq]at hlv2
   refine hlv2.mono ?_;rintro e w5 ⟨rfl,hd5,hk5⟩;replace hr4:=hk5.blk (show ¬w.heap.size+1=b by omega) hr4;replace r0:=cB (o:=0) hr4 rfl;replace r1:=cB (o:=1) hr4 rfl;replace r2:=cB (o:=2) hr4 rfl;replace r3:=cB (o:=3) hr4 rfl;replace fr:∀o,w5.frozen? ⟨w.heap.size+1,o,none⟩=false:=fun o=>fob hr4
   have HD5:=Hy hd5;have ho5:=HD4.out.keep hk5 (fun k e=> .inl (by rw[e];exact .inl hb)) hab;have HO5:=Hy ho5;have HK5:Hid (Keep (fun k=>k=a∨k=b) w w5):=HK4.out.trans (hk5.wide fun x e=> .inl (.inr e));clear hd5 hk5 ho5 hlv2 z1;go_wp2_with fail
   refine bodyPost_ret (v:= .tuple #[spotV ⟨1,p2,q2,true⟩,.bool ok2]) ?_ rfl ⟨by simp[HP2.out,HQ2.out,hlp,hlq],HO5.out.set4 (by omega),HD5.out.set4 (by omega),HK5.out.trans_ (H1:=(· = w.heap.size+1)) (keep_set4 rfl) (fun x e=> .inr (by omega))⟩;simp[results,Tryz.results183,go_sem,r0,r1,r2,r3]
set_option maxRecDepth 20000 in
set_option maxHeartbeats 1000000 in
theorem sby2 (A B:Pv.Dfa)(hA:A.Ok)(hB:B.Ok)(p q:Nat)(mv:Bool)(c s a b M bb:Nat)(lv sv:Value)(w:World)(hc:c<256)(hp:p<B.yes.length)(hq:q<B.yes.length)
  (hs:w.heap[s]?=some (.cells #[Ptr a,Ptr b,.map (some M),lv,sv,Ptr bb] 264)) (hda:DfaAt H w A a) (hdb:DfaAt H w B b) (hab:a≠b) (ha:H a) (hb:H b) (hH:∀k,H k→k<w.heap.size)
  (hnA:A.yes.length<549755813888) (hnB:B.yes.length<549755813888):
  Calls Tryz.prog 183 #[Ptr s,.agg #[.int .i64 2,.int .i64 (p:Int),.int .i64 (q:Int),.bool mv],.int .u8 (c:Int)] w fun e w'=>e = .returned (.tuple #[spotV ⟨2,B.step p c,B.step q c,false⟩,.bool (B.isLive (B.step p c)&&B.isLive (B.step q c))])∧DfaAt H w' A a∧DfaAt H w' B b∧Keep (fun k=>k=a∨k=b) w w':=by
 have hx0:∀W,Below w.heap.size w W→W.cell? ⟨s,0,none⟩=some (Ptr a):=fun W hb=>cB (o:=0) (later_blk hb hs) rfl
 have hx1:∀W,Below w.heap.size w W→W.cell? ⟨s,1,none⟩=some (Ptr b):=fun W hb=>cB (o:=1) (later_blk hb hs) rfl
 have HX0:=Hy hx0;have HX1:=Hy hx1;have HS:=Hy hs;have hlt:=blk_lt hs;have hlta:=hda.lt;have hltb:=hdb.lt;have HDA:=Hy (hda.widen (H':=fun k=>H k∨k=w.heap.size+1) fun k hk=>by rcases hk with h|h;exact .inl h;exact .inr (by omega));have HDB:=Hy (hdb.widen (H':=fun k=>H k∨k=w.heap.size+1) fun k hk=>by rcases hk with h|h;exact .inl h;exact .inr (by omega));have HOA:=Hy hA;have HOB:=Hy hB
 have HHH:=Hy hH;clear hx0 hx1 hs hda hdb hA hB hH;have hsa:s≠a:=fun e=>by obtain⟨_,_,_,_,_,h,_⟩:=HDA.out;have h2:=HS.out;rw[e,h]at h2;cases h2
 have hsb:s≠b:=fun e=>by obtain⟨_,_,_,_,_,h,_⟩:=HDB.out;have h2:=HS.out;rw[e,h]at h2;cases h2
 go_enter Tryz.func183,Tryz.ntmps183;go_wp2_with fail;obtain⟨w2,hw2⟩:∃w2,(w.alloc (.cells #[.int .i64 2,.int .i64 (p:Int),.int .i64 (q:Int),.bool mv] 271)).alloc (.cells #[.int .i64 0,.int .i64 0,.int .i64 0,.bool false] 271)=w2:=⟨_,rfl⟩
 have hB:Below w.heap.size w w2:=by rw[←hw2];exact((Below.refl _ _).alloc (Nat.le_refl _) _).alloc (by simp) _
 have hx:w2.heap[w.heap.size]?=some (.cells #[.int .i64 2,.int .i64 (p:Int),.int .i64 (q:Int),.bool mv] 271):=by rw[←hw2];exact blk_old (blk_new rfl)
 have hr:w2.heap[w.heap.size+1]?=some (.cells #[.int .i64 0,.int .i64 0,.int .i64 0,.bool false] 271):=by rw[←hw2];exact blk_new (by simp)
 rw[hw2];clear hw2;have x0:=HX0.out _ hB;have x1:=HX1.out _ hB;have y1:w2.cell? ⟨w.heap.size,1,none⟩=some (.int .i64 (p:Int)):=cB hx rfl;have y2:w2.cell? ⟨w.heap.size,2,none⟩=some (.int .i64 (q:Int)):=cB hx rfl;have HR:=Hy hr;have HB:=Hy hB;have hzb:=blk_lt hr;clear hx hr hB
 go_quiet ((first|(go_at_call 201;exact step_quiet HOB.out (HDB.out.later (below_drewN HB.out _)) hp hc)|(go_at_call 201;exact step_quiet HOB.out (HDB.out.later (below_drewN HB.out _)) hq hc)));replace x0:(w2.drewN nq).cell? ⟨s,0,none⟩=_:=x0;replace x1:(w2.drewN nq).cell? ⟨s,1,none⟩=_:=x1;replace HR:Hid ((w2.drewN nq).heap[w.heap.size+1]?=_):=HR;replace HB:=Hy (below_drewN HB.out nq)
 replace hzb:w.heap.size+1<(w2.drewN nq).heap.size:=hzb;clear y1 y2;generalize w2.drewN nq=w3 at *;have hpl:B.step p c<B.yes.length:=HOB.out.step_lt hp c;have hql:B.step q c<B.yes.length:=HOB.out.step_lt hq c;have hlv:=live_any B HOB.out b (B.step p c) w3 (HDB.out.later HB.out) (.inl hb) (fun k hk=>by rcases hk with h|h;have:=HHH.out k h;omega;omega) hnB hpl;generalize hp2:B.step p c=p2 at *
 have HP2:=Hy hp2;clear hp2;generalize hq2:B.step q c=q2 at *;have HQ2:=Hy hq2;clear hq2;cases hlp:B.isLive p2 with
 | false=>
   rw[hlp]at hlv;go_wp2_with fail;refine hlv.mono ?_;rintro e w4 ⟨rfl,hd4,hk4⟩;have hr4:=hk4.blk (show ¬w.heap.size+1=b by omega) HR.out;have ho4:=(HDA.out.later HB.out).keep hk4 (fun k e=> .inl (by rw[e];exact .inl hb)) (by exact hab);have r0:=cB (o:=0) hr4 rfl;have r1:=cB (o:=1) hr4 rfl;have r2:=cB (o:=2) hr4 rfl;have r3:=cB (o:=3) hr4 rfl
   have fr:∀o,w4.frozen? ⟨w.heap.size+1,o,none⟩=false:=fun o=>fob hr4
   have HD4:=Hy hd4;have HO4:=Hy ho4;have HK4:Hid (Keep (fun k=>k=a∨k=b) w w4):=(Keep.of_below HB.out).trans (hk4.wide fun x e=> .inl (.inr e));clear hd4 ho4 hk4 hlv;go_wp2_with fail
   refine bodyPost_ret (v:= .tuple #[spotV ⟨2,p2,q2,false⟩,.bool false]) ?_ rfl ⟨by simp[HP2.out,HQ2.out,hlp],HO4.out.set4 (by omega),HD4.out.set4 (by omega),HK4.out.trans_ (H1:=(· = w.heap.size+1)) (keep_set4 rfl) (fun x e=> .inr (by omega))⟩;simp[results,Tryz.results183,go_sem,r0,r1,r2,r3]
 | true=>
   rw[hlp]at hlv;generalize hlq:B.isLive q2=ok2;go_wp2_with fail;refine hlv.mono ?_;rintro e w4 ⟨rfl,hd4,hk4⟩;have hr4:=hk4.blk (show ¬w.heap.size+1=b by omega) HR.out;have ho4:=(HDA.out.later HB.out).keep hk4 (fun k e=> .inl (by rw[e];exact .inl hb)) (by exact hab);have r0:=cB (o:=0) hr4 rfl;have r1:=cB (o:=1) hr4 rfl;have r2:=cB (o:=2) hr4 rfl;have r3:=cB (o:=3) hr4 rfl
   have fr:∀o,w4.frozen? ⟨w.heap.size+1,o,none⟩=false:=fun o=>fob hr4
   have HD4:=Hy hd4;have HO4:=Hy ho4;have HK4:Hid (Keep (fun k=>k=a∨k=b) w w4):=(Keep.of_below HB.out).trans (hk4.wide fun x e=> .inl (.inr e));have z1:=hk4.cell hsb x1;have hlv2:=live_any B HOB.out b q2 w4 HD4.out (.inl hb) (fun k hk=>by have:=hk4.size;rcases hk with h|h;have:=HHH.out k h;omega;omega) hnB hql;have hz4:=hk4.size;clear hd4 ho4 hk4 hlv;go_wp2_with fail;rw[hlq]at hlv2
   refine hlv2.mono ?_;rintro e w5 ⟨rfl,hd5,hk5⟩;replace hr4:=hk5.blk (show ¬w.heap.size+1=b by omega) hr4;replace r0:=cB (o:=0) hr4 rfl;replace r1:=cB (o:=1) hr4 rfl;replace r2:=cB (o:=2) hr4 rfl;replace r3:=cB (o:=3) hr4 rfl;replace fr:∀o,w5.frozen? ⟨w.heap.size+1,o,none⟩=false:=fun o=>fob hr4
   have HD5:=Hy hd5;have ho5:=HO4.out.keep hk5 (fun k e=> .inl (by rw[e];exact .inl hb)) hab;have HO5:=Hy ho5;have HK5:Hid (Keep (fun k=>k=a∨k=b) w w5):=HK4.out.trans (hk5.wide fun x e=> .inl (.inr e));clear hd5 hk5 ho5 hlv2 z1;go_wp2_with fail
   refine bodyPost_ret (v:= .tuple #[spotV ⟨2,p2,q2,false⟩,.bool ok2]) ?_ rfl ⟨by simp[HP2.out,HQ2.out,hlp,hlq],HO5.out.set4 (by omega),HD5.out.set4 (by omega),HK5.out.trans_ (H1:=(· = w.heap.size+1)) (keep_set4 rfl) (fun x e=> .inr (by omega))⟩;simp[results,Tryz.results183,go_sem,r0,r1,r2,r3]
end Go.Proofs.YtamkfdlcdiadlaaGreatDoor
namespace Go.Proofs.YtamkfdlcdiadlaaGreatDoor
open Go.RowKit Go.Maps
variable {H:Nat→Prop}
theorem sby_any (A B:Pv.Dfa)(hA:A.Ok)(hB:B.Ok)(x:Pv.Spot)(hx:SpotOk A B x)(c s a b M bb:Nat)(lv sv:Value)(w:World)(hc:c<256)
  (hs:w.heap[s]?=some (.cells #[Ptr a,Ptr b,.map (some M),lv,sv,Ptr bb] 264)) (hda:DfaAt H w A a) (hdb:DfaAt H w B b) (hab:a≠b) (ha:H a) (hb:H b) (hH:∀k,H k→k<w.heap.size)
  (hnA:A.yes.length<549755813888) (hnB:B.yes.length<549755813888):
  Calls Tryz.prog 183 #[Ptr s,spotV x,.int .u8 (c:Int)] w fun e w'=>e = .returned (.tuple #[spotV (byV A B x c).1,.bool (byV A B x c).2])∧DfaAt H w' A a∧DfaAt H w' B b∧Keep (fun k=>k=a∨k=b) w w':=by
 obtain⟨ph,p,q,mv⟩:=x;obtain⟨h1,h2,h3,h4⟩:=hx;simp only at h1 h2 h3 h4
 match ph,h1,h2,h3,h4 with
 | 0,_,h2,_,_=>exact sby0 A B hA hB p q mv c s a b M bb lv sv w hc (h2 (by omega)) hs hda hdb hab ha hb hH hnA hnB
 | 1,_,h2,_,h4=>exact sby1 A B hA hB p q mv c s a b M bb lv sv w hc (h2 (by omega)) (h4 (by omega)) hs hda hdb hab ha hb hH hnA hnB
 | 2,_,_,h3,h4=>exact sby2 A B hA hB p q mv c s a b M bb lv sv w hc (h3 rfl) (h4 (by omega)) hs hda hdb hab ha hb hH hnA hnB
 | n+3,h1,_,_,_=>omega
theorem spotV_inj {x y:Pv.Spot}(h:spotV x=spotV y):x=y:=by
 obtain⟨a,b,c,d⟩:=x;obtain⟨a',b',c',d'⟩:=y;simp[spotV]at h;obtain⟨h1,h2,h3,h4⟩:=h;subst h4;have:a=a':=by omega
 have:b=b':=by omega
 have:c=c':=by omega
 subst_vars;rfl
theorem RowK.sl {base e k n:Nat}{w:World}{v:Value}{xs:List Value}(h:RowK base e k w v n xs):∃a c,v = .slice a n c:=by
 rcases RowK.blk h with⟨rfl,rfl,_⟩|⟨g,cap,cur,rfl,_⟩
 ·exact⟨none,0,rfl⟩
 ·exact⟨_,_,rfl⟩
abbrev addT (s bb M:Nat)(lv sv:Value):Nat→Prop:=fun k=>k=s∨k=bb∨k=M∨lv.ownBlock=some k∨sv.ownBlock=some k
theorem Moved.fresh2 {w:World}{v v':Value}(h:Moved w v v'){k:Nat}(hk:v'.ownBlock=some k):v.ownBlock=some k∨w.heap.size≤k:=h.fresh (Nat.le_refl _) hk
theorem dfa_add {w w':World}{s bb M:Nat}{lv sv lv' sv':Value}{D:Pv.Dfa}{d:Nat}(h:DfaAt (own2 H lv sv) w D d)(hk:Keep (addT s bb M lv sv) w w')(hm1:Moved w lv lv')(hm2:Moved w sv sv')(hh:H s∧H M∧H bb)
  (hd:¬addT s bb M lv sv d):DfaAt (own2 H lv' sv') w' D d:=by
 have h1:DfaAt (fun k=>own2 H lv sv k∨own2 H lv' sv' k) w D d:=h.widen fun k hk=>by
  rcases hk with hk|hk|hk|hk
  ·exact .inl hk
  ·exact .inl (.inl hk)
  ·rcases hm1.fresh2 hk with h|h
   ·exact .inl (.inr (.inl h))
   ·exact .inr h
  ·rcases hm2.fresh2 hk with h|h
   ·exact .inl (.inr (.inr h))
   ·exact .inr h
 refine(h1.keep hk (fun k e=> .inl (.inl ?_)) hd).widen fun k hk=> .inl (.inr hk)
 rcases e with e|e|e|e|e
 ·exact .inl (by rw[e];exact hh.1)
 ·exact .inl (by rw[e];exact hh.2.2)
 ·exact .inl (by rw[e];exact hh.2.1)
 ·exact .inr (.inl e)
 ·exact .inr (.inr e)
theorem DfaAt.blk {w:World}{D:Pv.Dfa}{d:Nat}(h:DfaAt H w D d):∃cs,w.heap[d]?=some (.cells cs 205):=by obtain⟨_,_,_,_,_,h,_⟩:=h;exact⟨_,h⟩
theorem SrAt.notT {N0 s a b M bb:Nat}{A B:Pv.Dfa}{lv sv:Value}{tr:Pv.Trail}{l u:Nat}{w:World}(h:SrAt H N0 w s a b M bb A B lv sv tr l u){d:Nat}{cs:Array Value}(hd:w.heap[d]?=some (.cells cs 205)):¬addT s bb M lv sv d:=fun e=>by
 rcases e with e|e|e|e|e
 ·subst e;rw[h.sr]at hd;cases hd
 ·subst e;rw[h.bud.2]at hd;cases hd
 ·subst e;exact h.m.ne hd rfl
 ·exact h.list.ne hd (by decide) e
 ·exact h.steps.ne hd (by decide) e
theorem SrAt.others {N0 s a b M bb:Nat}{A B:Pv.Dfa}{lv sv:Value}{tr:Pv.Trail}{l u:Nat}{w w':World}(h:SrAt H N0 w s a b M bb A B lv sv tr l u)(hk:Keep (addT s bb M lv sv) w w'):Others w w':=fun k cs t fr hb h1 h2 h3 h4 h5=>hk.blk (fun e=>by
 rcases e with e|e|e|e|e
 ·subst e;rw[h.sr]at hb;injection hb with hb;injection hb with _ hb;exact h1 hb.symm
 ·subst e;rw[h.bud.2]at hb;injection hb with hb;injection hb with _ hb;exact h2 hb.symm
 ·subst e;exact h.m.ne hb rfl
 ·exact h.list.ne hb (fun e=>h4 e.symm) e
 ·exact h.steps.ne hb (fun e=>h5 e.symm) e) hb
theorem SrAt.pushed {N0 s a b M bb:Nat}{A B:Pv.Dfa}{lv sv:Value}{tr:Pv.Trail}{l u:Nat}{w w':World}(h:SrAt H N0 w s a b M bb A B lv sv tr l u)(hk:Keep (addT s bb M lv sv) w w'){lv' sv':Value}{x:Pv.Spot}{st:Pv.Step}{l' u':Nat}
  (hs:w'.heap[s]?=some (.cells #[Ptr a,Ptr b,.map (some M),lv',sv',Ptr bb] 264)) (hm:MapAt w' M ((tr.map fun x=>spotV x.1)++[spotV x]) (((List.range tr.length).map intV)++[intV tr.length]))
  (hl:RowK N0 271 4 w' lv' (tr.length+1) ((tr.flatMap fun x=>spotC x.1)++spotC x)) (hst:RowK N0 273 3 w' sv' (tr.length+1) ((tr.flatMap fun x=>stepC x.2)++stepC st))
  (hb:BudAt w' bb l' u') (hm1:Moved w lv lv') (hm2:Moved w sv sv'):SrAt H N0 w' s a b M bb A B lv' sv' (tr++[(x,st)]) l' u' where
 sr:=hs
 da:=let ⟨_,q⟩:=h.da.blk;dfa_add h.da hk hm1 hm2 ⟨h.hh.1,h.hh.2.2.2.1,h.hh.2.2.2.2⟩ (h.notT q)
 db:=let ⟨_,q⟩:=h.db.blk;dfa_add h.db hk hm1 hm2 ⟨h.hh.1,h.hh.2.2.2.1,h.hh.2.2.2.2⟩ (h.notT q)
 m:=by rw[List.map_append,List.length_append,List.length_singleton,List.range_succ,List.map_append];exact hm
 list:=by rw[List.length_append,List.length_singleton,List.flatMap_append];simpa using hl
 steps:=by rw[List.length_append,List.length_singleton,List.flatMap_append];simpa using hst
 bud:=hb
 hh:=h.hh
 ab:=h.ab
 hlt:=fun k e=>Nat.lt_of_lt_of_le (h.hlt k e) hk.size
end Go.Proofs.YtamkfdlcdiadlaaGreatDoor
namespace Go.Eak
open Go Go.RowKit
section
variable {P:Program}{ops:Array Oper}{Q:Exit→Act→World→Prop}{md:Region.Mode}
variable {Rl:World→World→Prop}[hPre:Pre Rl]
def isMove (o:Oper):Bool:=match o.op with | .move _=>true|_=>false
theorem Gives.anyw {w:World}{o:Oper}{v:Value}{a:Act}(h:Gives Rl P ops w o v a)(hm:isMove o=true)(w1:World):Gives Rl P ops w1 o v a:=by
 obtain⟨x,hx⟩:∃x,o.op = .move x:=by
  unfold isMove at hm;split at hm
  ·exact⟨_,by assumption⟩
  ·cases hm
 have run:∀w,(execOp a.eval o).run P w = .ok (.value (a.eval x)) w:=fun w=>by simp[execOp,hx]
 rcases h with⟨h1,h2⟩|h
 ·refine .inl ⟨h1,fun w' _=> .inl ?_⟩;rcases h2 w (hPre.rf _) with h3|⟨f,args,h3,_⟩
  ·rw[run]at h3 ⊢;injection h3 with h3 _
   injection h3 with h3
   rw[h3]
  ·rw[run]at h3;injection h3 with h3 _
   cases h3
 ·exact .inr h
open Go.Eag (Sch)
def freeE' (ops:Array Oper)(M:Array Nat)(ex:Nat→Bool)(l:Array Bool)(i:Nat):Bool:=
 match ops[i]? with
 | none=>false
 | some oi=>(List.range ops.size).all fun j=>j==i||l.getD j true||(M.getD j 0).testBit i||(match ops[j]? with|some oj=>oi.apart ops oj&&(!ex j||isMove oi)|none=>true)
def okSch' (ops:Array Oper)(M:Array Nat)(ex:Nat→Bool):Sch→Array Bool→Nat→Bool
 | .fin,l,n=>n==0&&(Region.ready .any ops l).isEmpty
 | .mov i s,l,n=>n != 0&&(Region.ready .any ops l).contains i&&freeE' ops M ex l i&&okSch' ops M ex s (l.setIfInBounds i true) (n-1)
 | .anc i s,l,n=>n != 0&&Region.ready .any ops l==[i]&&okSch' ops M ex s (l.setIfInBounds i true) (n-1)
 | .two i s j t,l,n=>n != 0&&Region.ready .any ops l==[i,j]&&okSch' ops M ex s (l.setIfInBounds i true) (n-1)&&okSch' ops M ex t (l.setIfInBounds j true) (n-1)
theorem E_take' {ex:Nat→Bool}{M:Array Nat}(hM:okMask ops M=true)(hsel:Region.noSelect ops=true){i:Nat}{oi:Oper}{v:Value}(hi:ops[i]?=some oi)
  (hQ:∀c a w,Q (.panic c) a w→False):
  ∀(n:Nat) (l:Array Bool) (a:Act) (w:World),Shut ops l →
   (∀j oj,ops[j]?=some oj→j≠i→l.getD j true=false→(M.getD j 0).testBit i=false→oi.apart ops oj=true∧(ex j=false∨isMove oi=true)) →
   i∈Region.ready .any ops l→Gives Rl P ops w oi v a →
   wpE Rl P .any ops Q ex n (l.setIfInBounds i true) (a.put oi.dst v) w→wpE Rl P .any ops Q ex (n+1) l a w:=by
 intro n;induction n with
 | zero=>
   intro l a w _ _ hr hy H;refine⟨fun h=>(by rw[h]at hr;cases hr),fun j hj => ?_⟩;by_cases hji:j=i
   ·subst hji;exact hy.op hi ⟨.inr (hPre.rf _),H⟩
   ·have:=ready_mono hj hji;rw[H.1]at this;cases this
 | succ n ih=>
   intro l a w hl hf hr hy H;refine⟨fun h=>(by rw[h]at hr;cases hr),fun j hj => ?_⟩;by_cases hji:j=i
   ·subst hji;exact hy.op hi ⟨.inr (hPre.rf _),H⟩
   ·obtain⟨hun,oj,hoj,hall⟩:=mem_ready.1 hj;have hmask:(M.getD j 0).testBit i=false:=by
     cases hb:(M.getD j 0).testBit i with
     | false=>rfl
     | true=>
       have:=listed_of_mask hM hl j (mem_ready_lt hj) i (mem_ready_lt hr) hb (fun o ho e he hbi=>by rw[hoj]at ho;obtain rfl:=Option.some.inj ho;exact hall e he hbi);rw[unlisted_false (mem_ready.1 hr).1]at this;cases this
    obtain⟨hap,hex⟩:=hf j oj hoj hji hun hmask;have h2:=op_put hoj hap (fun cs b=>Region.noSelect_spec hsel i oi cs b hi) (fun cs b=>Region.noSelect_spec hsel j oj cs b hoj) (fun c a w h=>(hQ _ _ _ h).elim) hy (H.2 j (ready_mono hj hji));refine wpOp_mono (fun a' w' h3 => ?_) h2;obtain⟨hg,hbel,hE⟩:=h3;have hg2:Gives Rl P ops w' oi v a':=by
     rcases hex with hex|hex
     ·exact hg.later (hbel.resolve_left (by rw[hex];simp))
     ·exact hg.anyw hex w'
    refine⟨hbel,ih _ a' w' (shut_set hl hj) ?_ (ready_mono hr (Ne.symm hji)) hg2 ?_⟩
    ·intro k ok hk hki hkun hkno;refine hf k ok hk hki ?_ hkno;by_cases hjk:j=k
     ·subst hjk;exact hun
     ·rw[getD_set_ne true hjk]at hkun;exact hkun
    ·rw[Array.setIfInBounds_comm _ _ hji];exact hE
theorem E_of_sch' {K:Act→World→Prop}{ex:Nat→Bool}{M:Array Nat}(hM:okMask ops M=true)(hsel:Region.noSelect ops=true):
  ∀(s:Sch) (n:Nat) (l:Array Bool) (a:Act) (w:World),Shut ops l→okSch' ops M ex s l n=true→wpSch Rl P ops K ex s a w→wpE Rl P .any ops (calm K) ex n l a w
 | .fin,n,l,a,w,_,ho,h=>by
   simp only[okSch',Bool.and_eq_true,beq_iff_eq,List.isEmpty_iff]at ho;obtain⟨rfl,hr⟩:=ho;exact⟨hr,h⟩
 | .mov i s,n,l,a,w,hl,ho,h=>by
   obtain⟨n,rfl⟩:∃m,n=m+1:=⟨n-1,by simp only[okSch',Bool.and_eq_true,bne_iff_ne,ne_eq]at ho;omega⟩
   obtain⟨o,v,hi,hg,h⟩:=h;simp only[okSch',Bool.and_eq_true,Nat.add_sub_cancel]at ho;obtain⟨⟨⟨_,hr⟩,hf⟩,ho⟩:=ho;have hr':i∈Region.ready .any ops l:=by simpa using hr
   refine E_take' hM hsel hi (fun c a w h=>h) n l a w hl ?_ hr' hg (E_of_sch' hM hsel s n _ _ w (shut_set hl hr') ho h);intro j oj hj hne hun hm;simp only[freeE',hi,List.all_eq_true,List.mem_range]at hf;have:=hf j (Array.getElem?_eq_some_iff.1 hj).1;have hm':((M[j]?.getD 0).testBit i)=false:=by simpa using hm
   simp only[hj,hm',Bool.or_eq_true,beq_iff_eq,hne,false_or]at this;rw[hun,hm]at this;simpa using this
 | .anc i s,n,l,a,w,hl,ho,h=>by
   obtain⟨n,rfl⟩:∃m,n=m+1:=⟨n-1,by simp only[okSch',Bool.and_eq_true,bne_iff_ne,ne_eq]at ho;omega⟩
   simp only[okSch',Bool.and_eq_true,Nat.add_sub_cancel,beq_iff_eq]at ho;obtain⟨⟨_,hr⟩,ho⟩:=ho;refine⟨fun h0=>absurd (hr.symm.trans h0) (List.cons_ne_nil _ _),fun j hj => ?_⟩;rw[hr,List.mem_singleton]at hj;subst hj;exact wpOp_mono (fun a' w' k=>⟨k.1,E_of_sch' hM hsel s n _ a' w' (shut_set hl (by rw[hr];simp)) ho k.2⟩) (noEnd_op h)
 | .two i s j t,n,l,a,w,hl,ho,h=>by
   obtain⟨n,rfl⟩:∃m,n=m+1:=⟨n-1,by simp only[okSch',Bool.and_eq_true,bne_iff_ne,ne_eq]at ho;omega⟩
   simp only[okSch',Bool.and_eq_true,Nat.add_sub_cancel,beq_iff_eq]at ho;obtain⟨⟨⟨_,hr⟩,ho⟩,ho2⟩:=ho;refine⟨fun h0=>absurd (hr.symm.trans h0) (List.cons_ne_nil _ _),fun k hk => ?_⟩;rw[hr]at hk;simp only[List.mem_cons,List.not_mem_nil,or_false]at hk;rcases hk with rfl|rfl
   ·exact wpOp_mono (fun a' w' q=>⟨q.1,E_of_sch' hM hsel s n _ a' w' (shut_set hl (by rw[hr];simp)) ho q.2⟩) (noEnd_op h.1)
   ·exact wpOp_mono (fun a' w' q=>⟨q.1,E_of_sch' hM hsel t n _ a' w' (shut_set hl (by rw[hr];simp)) ho2 q.2⟩) (noEnd_op h.2)
def okAll' (ops:Array Oper)(ex:Nat→Bool)(s:Sch):Bool:=
 okMask ops (Region.before ops)&&(Region.noSelect ops&&okSch' ops (Region.before ops) ex s (Array.replicate ops.size false) ops.size)
theorem region' (Rl:World→World→Prop)[hPre:Pre Rl]{id:Nat}{l:List Oper}{a:Act}{w:World}(s:Sch)(exs:List Nat)(hm:P.follows .mixedOrders=true)
  (hk:okAll' l.toArray (fun i=>exs.contains i) s=true)
  (h:∀(K:Act→World→Prop) (ops:Array Oper),Hid (ops=l.toArray)→(∀a w,Q .normal a w→K a w)→wpSch Rl P ops K (fun i=>exs.contains i) s a w.drew):(Code.region id l.toArray true).wp P Q a w:=by
 simp only[okAll',Bool.and_eq_true]at hk;refine Wp_calm (K:=Q .normal) (fun _ _ h=>h) (wp_region_any hm (wpAny_of_E _ _ _ _ (E_of_sch' hk.1 hk.2.1 s _ _ a _ ?_ hk.2.2 (h _ _ rfl (fun _ _ h=>h)))));intro j o _ hj;simp[Array.getElem?_replicate]at hj;split at hj<;>simp at hj
end
end Go.Eak
