/- Terms in memory. -/
import Derived.Test.YtamkfdlcdiadlaaGreatDoorKb01
import Derived.Test.YtamkfdlcdiadlaaGreatDoorKb29
import Derived.Test.YtamkfdlcdiadlaaGreatDoorKb05
set_option linter.all false
namespace Go.Proofs.YtamkfdlcdiadlaaGreatDoor
open Go.RowKit Go.Maps
variable {H:Nat→Prop}
def ReO (H:Nat→Prop)(w:World):Option Pv.R→Value→Prop
 | none,v=>v = .pointer none
 | some r,v=>∃b,v=Ptr b∧ReAt H w r b
theorem ReO.later {w w':World}(hb:Below w.heap.size w w'):∀ {re:Option Pv.R} {v:Value},ReO H w re v→ReO H w' re v
 | none,_,h=>h
 | some _,_,h=>by obtain⟨b,e,h⟩:=h;exact⟨b,e,h.later hb⟩
theorem ReO.keep {w w':World}(hb:Keep H w w'):∀ {re:Option Pv.R} {v:Value},ReO H w re v→ReO H w' re v
 | none,_,h=>h
 | some _,_,h=>by obtain⟨b,e,h⟩:=h;exact⟨b,e,h.keep hb⟩
theorem ReO.widen {w:World}{H':Nat→Prop}(hH:∀x,H' x→H x∨w.heap.size≤x):∀ {re:Option Pv.R} {v:Value},ReO H w re v→ReO H' w re v
 | none,_,h=>h
 | some _,_,h=>by obtain⟨b,e,h⟩:=h;exact⟨b,e,h.widen hH⟩
mutual
def TAt (H:Nat→Prop)(w:World):Pv.T→Nat→Prop
 | .mk op at_ name re tx bk ks,b=>¬H b∧∃(rv:Value) (a:Option Addr) (c:Nat) (bs:List Nat),ReO H w re rv∧(∀blk off,a=some ⟨blk,off,none⟩→¬H blk∧blk<w.heap.size) ∧
  TermAt w b op at_ name rv tx bk (.slice a bs.length c)∧Sl w a c (bs.map Ptr)∧TsAt H w ks bs
def TsAt (H:Nat→Prop)(w:World):List Pv.T→List Nat→Prop
 | [],bs=>bs=[]
 | t::ts,bs=>∃b bs',bs=b::bs'∧TAt H w t b∧TsAt H w ts bs'
end
theorem TsAt.length {w:World}:∀ {ts:List Pv.T} {bs:List Nat},TsAt H w ts bs→bs.length=ts.length
 | [],_,h=>by unfold TsAt at h;subst h;rfl
 | t::ts,_,h=>by unfold TsAt at h;obtain⟨b,bs',rfl,_,h⟩:=h;simp[TsAt.length h]
theorem Sl.keep {w w':World}{a:Option Addr}{c:Nat}{vs:List Value}(h:Sl w a c vs)(hb:Keep H w w')(hn:∀blk off,a=some ⟨blk,off,none⟩→¬H blk):Sl w' a c vs:=
 ⟨h.1,h.2,fun i hi=>by obtain⟨b,o,e,hc⟩:=h.3 i hi;exact⟨b,o,e,hb.cell (hn b o e) hc⟩⟩
mutual
theorem TAt.later {w w':World}(hb:Below w.heap.size w w'):∀ {t:Pv.T} {b:Nat},TAt H w t b→TAt H w' t b
 | .mk op at_ name re tx bk ks,b,h=>by unfold TAt at *;obtain⟨h0,rv,a,c,bs,hr,ha,h1,h2,h3⟩:=h;exact⟨h0,rv,a,c,bs,hr.later hb,fun x y e=>⟨(ha x y e).1,Nat.lt_of_lt_of_le (ha x y e).2 hb.size⟩,later_blk hb h1,h2.later hb,TsAt.later hb h3⟩
theorem TsAt.later {w w':World}(hb:Below w.heap.size w w'):∀ {ts:List Pv.T} {bs:List Nat},TsAt H w ts bs→TsAt H w' ts bs
 | [],_,h=>by unfold TsAt at *;exact h
 | t::ts,_,h=>by unfold TsAt at *;obtain⟨b,bs',e,h1,h2⟩:=h;exact⟨b,bs',e,TAt.later hb h1,TsAt.later hb h2⟩
end
mutual
theorem TAt.keep {w w':World}(hb:Keep H w w'):∀ {t:Pv.T} {b:Nat},TAt H w t b→TAt H w' t b
 | .mk op at_ name re tx bk ks,b,h=>by unfold TAt at *;obtain⟨h0,rv,a,c,bs,hr,ha,h1,h2,h3⟩:=h;exact⟨h0,rv,a,c,bs,hr.keep hb,fun x y e=>⟨(ha x y e).1,Nat.lt_of_lt_of_le (ha x y e).2 hb.size⟩,hb.blk h0 h1,h2.keep hb (fun x y e=>(ha x y e).1),TsAt.keep hb h3⟩
theorem TsAt.keep {w w':World}(hb:Keep H w w'):∀ {ts:List Pv.T} {bs:List Nat},TsAt H w ts bs→TsAt H w' ts bs
 | [],_,h=>by unfold TsAt at *;exact h
 | t::ts,_,h=>by unfold TsAt at *;obtain⟨b,bs',e,h1,h2⟩:=h;exact⟨b,bs',e,TAt.keep hb h1,TsAt.keep hb h2⟩
end
mutual
theorem TAt.widen {w:World}{H':Nat→Prop}(hH:∀x,H' x→H x∨w.heap.size≤x):∀ {t:Pv.T} {b:Nat},TAt H w t b→TAt H' w t b
 | .mk op at_ name re tx bk ks,b,h=>by
   unfold TAt at *;obtain⟨h0,rv,a,c,bs,hr,ha,h1,h2,h3⟩:=h;refine⟨fun hx => ?_,rv,a,c,bs,hr.widen hH,?_,h1,h2,TsAt.widen hH h3⟩
   ·rcases hH _ hx with hx|hx
    ·exact h0 hx
    ·have:=blk_lt h1;omega
   ·intro x y e;refine⟨fun hx => ?_,(ha x y e).2⟩;rcases hH _ hx with hx|hx
    ·exact(ha x y e).1 hx
    ·have:=(ha x y e).2;omega
theorem TsAt.widen {w:World}{H':Nat→Prop}(hH:∀x,H' x→H x∨w.heap.size≤x):∀ {ts:List Pv.T} {bs:List Nat},TsAt H w ts bs→TsAt H' w ts bs
 | [],_,h=>by unfold TsAt at *;exact h
 | t::ts,_,h=>by unfold TsAt at *;obtain⟨b,bs',e,h1,h2⟩:=h;exact⟨b,bs',e,TAt.widen hH h1,TsAt.widen hH h2⟩
end
theorem TAt.open_ {w:World}{t:Pv.T}{b:Nat}(h:TAt H w t b):¬H b∧∃(rv:Value) (a:Option Addr) (c:Nat) (bs:List Nat),ReO H w t.re rv∧(∀blk off,a=some ⟨blk,off,none⟩→¬H blk∧blk<w.heap.size) ∧
  TermAt w b t.op t.at_ t.name rv t.text t.back (.slice a bs.length c)∧Sl w a c (bs.map Ptr)∧TsAt H w t.kids bs:=by
 cases t;unfold TAt at h;exact h
theorem TAt.mk_ {w:World}{t:Pv.T}{b:Nat}{rv:Value}{a:Option Addr}{c:Nat}{bs:List Nat}(h0:¬H b)(hr:ReO H w t.re rv)(ha:∀blk off,a=some ⟨blk,off,none⟩→¬H blk∧blk<w.heap.size)
  (h1:TermAt w b t.op t.at_ t.name rv t.text t.back (.slice a bs.length c)) (h2:Sl w a c (bs.map Ptr)) (h3:TsAt H w t.kids bs):TAt H w t b:=by
 cases t;unfold TAt;exact⟨h0,rv,a,c,bs,hr,ha,h1,h2,h3⟩
theorem TsAt.get {w:World}:∀ {ts:List Pv.T} {bs:List Nat} (_:TsAt H w ts bs) (i:Nat) (hi:i<ts.length),∃hb:i<bs.length,TAt H w ts[i] bs[i]
 | [],_,_,i,hi=>by cases hi
 | t::ts,_,h,i,hi=>by
   unfold TsAt at h;obtain⟨b,bs',rfl,h1,h2⟩:=h;cases i with
   | zero=>exact⟨by simp,h1⟩
   | succ i=>
     obtain⟨hb,h3⟩:=TsAt.get h2 i (by simpa using hi);exact⟨by simpa using hb,h3⟩
theorem TsAt.one {w:World}{t:Pv.T}{b:Nat}(h:TAt H w t b):TsAt H w [t] [b]:=by unfold TsAt;exact⟨b,[],rfl,h,by unfold TsAt;rfl⟩
theorem TsAt.two {w:World}{t u:Pv.T}{b c:Nat}(h:TAt H w t b)(h2:TAt H w u c):TsAt H w [t,u] [b,c]:=by unfold TsAt;exact⟨b,[c],rfl,h,TsAt.one h2⟩
theorem TsAt.nil {w:World}:TsAt H w [] []:=by unfold TsAt;rfl
theorem TAt.head {w:World}{t:Pv.T}{b:Nat}(h:TAt H w t b):HeadAt w b t.op t.at_:=by obtain⟨_,_,_,_,_,_,_,h,_⟩:=h.open_;exact TermAt.head h
end Go.Proofs.YtamkfdlcdiadlaaGreatDoor
namespace Go.Proofs.YtamkfdlcdiadlaaGreatDoor
open Go.RowKit Go.Maps
variable {H:Nat→Prop}
theorem within_true (P:Pv.R→Prop)(hP:∀r c,P r→P (Pv.by_ c r))(hPs:∀r,P r→Pv.size r≤300000)(x:Pv.R)(hxP:P x)(text:List UInt8)(bx c bb:Nat)(w:World)(hx:ReAt H w x bx)(hH:∀h,H h→h<w.heap.size)(htl:text.length<549755813888)
  (hc:CkAt w c bb {}) (tv:Value) (hq:Pv.matchR text x=true):
  Calls Tryz.prog 134 #[Ptr c,tv,Str text,Ptr bx] w fun en w'=>en = .returned (.bool true)∧Below w.heap.size w w':=by
 have hok:=ok_any c bb {} w hc;have hm:=dmatch_any (H:=H) P hP hPs x hxP bx text w hx hH htl;rw[hq]at hm;have HOk:=Hy hok;have HM:=Hy hm;clear hok hm hc hx hH hP hPs hq;go_enter Tryz.func134,Tryz.ntmps134;go_wp2_with fail;refine HOk.out.mono ?_;rintro e w' ⟨rfl,rfl⟩;go_wp2_with fail;refine HM.out.mono ?_;rintro e w1 ⟨rfl,hb1⟩;have HB1:=Hy hb1;clear hb1 HM;go_wp2_with fail;go_ret;exact⟨rfl,HB1.out⟩
set_option maxRecDepth 20000 in
theorem types_norm (P:Pv.R→Prop)(hP:∀r c,P r→P (Pv.by_ c r))(hPs:∀r,P r→Pv.size r≤300000)(r:Pv.R)(hrP:P r)(c bb k tb rb:Nat)(at_:Int)(name text back:List UInt8)(kids kv:Value)(w:World)(hx:w.heap[k]?=some (.cells (CanC tb (.pointer none) (.pointer none) kv (.pointer none) (.pointer none)) 131))(ht:TermAt w tb 17 at_ name (Ptr rb) text back kids)
  (hr:ReAt H w r rb) (hH:∀h,H h→h<w.heap.size) (hHk:H k) (htl:text.length<549755813888) (hc:CkAt w c bb {}) (hq:Pv.matchR text r=true):
  Calls Tryz.prog 94 #[Ptr c,Ptr k] w fun e w'=>∃wb,e = .returned (.bool true)∧w'.heap[k]?=some (.cells (CanC tb (Ptr rb) (Ptr wb) kv (.pointer none) (.pointer none)) 131)∧ReAt H w' (Pv.word text) wb∧Keep (· = k) w w':=by
 have x0:w.cell? ⟨k,0,none⟩=some (Ptr tb):=cB (o:=0) hx rfl;have t0:w.cell? ⟨tb,0,none⟩=some (.int .i64 17):=cB (o:=0) ht rfl;have t3:w.cell? ⟨tb,3,none⟩=some (Ptr rb):=cB (o:=3) ht rfl;have t4:w.cell? ⟨tb,4,none⟩=some (Str text):=cB (o:=4) ht rfl;have nft:¬(fun _:Nat=>False) tb:=fun h=>h
 have hwd:=word_any (H:=H) text w.drew hH (by omega);have HX:=Hy hx;have HT:=Hy ht;have HR:=Hy hr;have HC:=Hy hc;have HWd:=Hy hwd;have HH:=Hy hH;have HP:=Hy hP;have HPs:=Hy hPs;have HQ:=Hy hq;have hkc:k≠c:=by rintro rfl;have h2:=HC.out;unfold CkAt at h2;rw[HX.out]at h2;cases h2
 have hkt:k≠tb:=by rintro rfl;have h2:=HT.out;unfold TermAt at h2;rw[HX.out]at h2;cases h2
 clear hx ht hr hc hwd hH hP hPs hq;go_enter Tryz.func94,Tryz.ntmps94;go_wp2_with fail;refine Eaq.region (Keep fun _=>False) (.mov 0 (.mov 1 (.mov 2 (.mov 3 (.mov 4 (.mov 5 (.mov 6 (.mov 7 (.mov 8 (.mov 9 (.anc 10 (.mov 11 (.mov 12 (.anc 13 (.mov 14 (.mov 15 (.anc 16 Eag.Sch.fin))))))))))))))))) [13,16] [1] (by kernel_rfl) (by kernel_rfl) (fun K ops hops hK => ?_);iterate 10
  first
   | (refine Eaq.mov hops rfl rfl rfl (fun w' hb => ?_) ?_
      ·have q0:=Keep.cell hb nft t3;have q1:=Keep.cell hb nft t4;clear hb;go_simp)
   | (refine Eaq.movA hops rfl rfl (fun w' => ?_) ?_
      ·go_simp)
  go_simp
 refine Eaq.anc hops rfl rfl ?_;go_wp2_with fail;refine HWd.out.mono ?_;rintro e w1 ⟨wb,rfl,hat1,hb1⟩;refine⟨Keep.of_below hb1,?_⟩;have hB1:Below w.heap.size w w1:=(Below.refl _ w).drew.trans hb1;have hx1:=later_blk hB1 HX.out;have c1:w1.cell? ⟨k,1,none⟩=some (.pointer none):=cB (o:=1) hx1 rfl;have c2:w1.cell? ⟨k,2,none⟩=some (.pointer none):=cB (o:=2) hx1 rfl
 have fr:∀o,w1.frozen? ⟨k,o,none⟩=false:=fun o=>fob hx1
 have HX1:=Hy hx1;have HB1:=Hy hB1;have HA1:=Hy hat1;clear hx1 hB1 hb1 hat1 HWd t3 t4 t0 x0;iterate 2
  first
   | (refine Eaq.mov hops rfl rfl rfl (fun w' hb => ?_) ?_
      ·clear hb;go_simp)
   | (refine Eaq.movA hops rfl rfl (fun w' => ?_) ?_
      ·go_simp)
  go_simp
 refine Eaq.anc hops rfl rfl ?_;go_wp2_with fail;iterate 2
  first
   | (refine Eaq.mov hops rfl rfl rfl (fun w' hb => ?_) ?_
      ·clear hb;go_simp)
   | (refine Eaq.movA hops rfl rfl (fun w' => ?_) ?_
      ·go_simp)
  go_simp
 refine Eaq.anc hops rfl rfl ?_;go_wp2_with fail;refine Eaq.fin (hK _ _ ?_);clear hK hops;go_simp;obtain⟨w2,hw2⟩:∃w2,(w1.setCell ⟨k,1,none⟩ (Ptr rb)).setCell ⟨k,2,none⟩ (Ptr wb)=w2:=⟨_,rfl⟩
 have hk2:Keep (· = k) w1 w2:=by
  have K:∀(W:World) (o:Nat) (v:Value),Keep (· = k) W (W.setCell ⟨k,o,none⟩ v):=fun W o v=>Keep.set rfl
  rw[←hw2];exact(K _ _ _).trans (K _ _ _)
 have hx2:w2.heap[k]?=some (.cells (CanC tb (Ptr rb) (Ptr wb) kv (.pointer none) (.pointer none)) 131):=by rw[←hw2,blk_set (blk_set HX1.out)];rfl
 rw[hw2];clear hw2 c1 c2 fr;have hk02:Keep (· = k) w w2:=(Keep.of_below HB1.out).trans hk2;have ht2:=hk02.blk (show ¬tb=k by omega) HT.out;have t3:w2.cell? ⟨tb,3,none⟩=some (Ptr rb):=cB (o:=3) ht2 rfl;have t4:w2.cell? ⟨tb,4,none⟩=some (Str text):=cB (o:=4) ht2 rfl;have hc2:=HC.out.keep hk02 (fun e=>hkc e.symm);have hkH:Keep H w w2:=hk02.wide fun x e=> .inl (by rw[e];exact hHk)
 have hwi:=within_true (H:=H) P HP.out HPs.out r hrP text rb c bb w2.drew ((HR.out.keep hkH).later (Below.refl _ _).drew) (fun h hh=>by have h1:=HH.out h hh;have h2:=hk02.size;exact Nat.lt_of_lt_of_le h1 h2) htl (hc2.later (Below.refl _ _).drew) (Ptr tb) HQ.out;have HWi:=Hy hwi;have hkH1:Keep H w1 w2:=hk2.wide fun x e=> .inl (by rw[e];exact hHk)
 have HA2:=Hy (HA1.out.keep hkH1);have HX2:=Hy hx2;have HK2:=Hy hk02;clear hk2 hx2 hk02 ht2 hc2 hkH hwi hkH1 HA1;go_wp2_with fail;refine Eag.region (.mov 0 (.mov 1 (.mov 2 (.mov 3 (.mov 4 (.mov 5 (.mov 6 (.mov 7 (.mov 8 (.mov 9 (.anc 10 (.mov 11 Eag.Sch.fin)))))))))))) [] (by kernel_rfl) (by kernel_rfl) (fun K ops hops hK => ?_);iterate 10
  refine Eag.mov hops rfl rfl (fun w' hb => ?_) ?_
  ·have q0:=later hb t3;have q1:=later hb t4;clear hb;go_simp
  go_simp
 refine Eag.anc hops rfl rfl ?_;go_wp2_with fail;refine HWi.out.mono ?_;rintro e w3 ⟨rfl,hb3⟩;refine⟨hb3,?_⟩;have hB3:Below w2.heap.size w2 w3:=(Below.refl _ w2).drew.trans hb3;have HB3:=Hy hB3;clear hb3 hB3 HWi t3 t4;iterate 1
  refine Eag.mov hops rfl rfl (fun w' hb => ?_) ?_
  ·clear hb;go_simp
  go_simp
 refine Eag.fin (hK _ _ ?_);clear hK hops;go_simp;go_wp2_with fail;refine bodyPost_ret (v:= .bool true) ?_ rfl ⟨wb,rfl,later_blk HB3.out HX2.out,HA2.out.later HB3.out,HK2.out.trans (Keep.of_below HB3.out)⟩;simp[results,Tryz.results94,go_sem]
end Go.Proofs.YtamkfdlcdiadlaaGreatDoor
