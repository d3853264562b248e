/- Make where there is a fault; Canon by no state at all. -/
import Derived.Test.YtinpjfnnfkjbmaaGreatDoorKm05
import Derived.Test.YtinpjfnnfkjbmaaGreatDoorKm38
import Derived.Test.YtinpjfnnfkjbmaaGreatDoorKm34
import Derived.Test.YtinpjfnnfkjbmaaGreatDoorKm37
set_option linter.all false
namespace Go.Proofs.YtinpjfnnfkjbmaaGreatDoor
open Go.RowKit Go.Maps
variable {H:Nat→Prop}
abbrev FV (f:Pv.Fault):Value:= .agg (faultC f)
theorem fl_set2 {w:World}{r:Nat}(f:Pv.Fault)(h:w.heap[r]?=some (.cells #[.int .i64 0,.int .i64 0,.int .i64 0,.bool false,Str [],.int .i64 0,.int .i64 0] 45)):
  (((((((w.setCell ⟨r,0,none⟩ (.int .i64 (f.e:Int))).setCell ⟨r,1,none⟩ (.int .i64 (f.op:Int))).setCell ⟨r,2,none⟩ (.int .i64 f.at_)).setCell ⟨r,3,none⟩ (.bool f.view)).setCell ⟨r,4,none⟩ (Str f.text)).setCell ⟨r,5,none⟩ (.int .i64 f.i)).setCell ⟨r,6,none⟩ (.int .i64 f.j)).heap[r]?=some (.cells (faultC f) 45) ∧
  Keep (· = r) w (((((((w.setCell ⟨r,0,none⟩ (.int .i64 (f.e:Int))).setCell ⟨r,1,none⟩ (.int .i64 (f.op:Int))).setCell ⟨r,2,none⟩ (.int .i64 f.at_)).setCell ⟨r,3,none⟩ (.bool f.view)).setCell ⟨r,4,none⟩ (Str f.text)).setCell ⟨r,5,none⟩ (.int .i64 f.i)).setCell ⟨r,6,none⟩ (.int .i64 f.j)):=by
 have K:∀(W:World) (o:Nat) (v:Value),Keep (· = r) W (W.setCell ⟨r,o,none⟩ v):=fun W o v=>Keep.set rfl
 refine⟨?_,((((((K _ _ _).trans (K _ _ _)).trans (K _ _ _)).trans (K _ _ _)).trans (K _ _ _)).trans (K _ _ _)).trans (K _ _ _)⟩;rw[blk_set (blk_set (blk_set (blk_set (blk_set (blk_set (blk_set h))))))];rfl
set_option maxRecDepth 20000 in
theorem types_normF (P:Pv.R→Prop)(hP:∀r c,P r→P (Pv.by_ c r))(hPs:∀r,P r→Pv.size r≤300000)(r:Pv.R)(hrP:P r)(c bb k tb rb:Nat)(at_:Int)(name text back:List UInt8)(kids kv:Value)(w:World)(hx:w.heap[k]?=some (.cells (CanC tb (.pointer none) (.pointer none) kv (.pointer none) (.pointer none)) 63))(ht:TermAt w tb 17 at_ name (Ptr rb) text back kids)
  (hr:ReAt H w r rb) (hH:∀h,H h→h<w.heap.size) (hHk:H k) (htl:text.length<549755813888) (hc:CkAt w c bb {}) (hq:Pv.matchR text r=false):
  Calls Tryz.prog 76 #[Ptr c,Ptr k] w fun e w'=>e = .returned (.bool false)∧CkAt w' c bb { e:=23,op:=17,at_:=at_,text:=text }∧Keep (fun x=>x=k∨x=c) w w':=by
 have x0:w.cell? ⟨k,0,none⟩=some (Ptr tb):=cB (o:=0) hx rfl;have t0:w.cell? ⟨tb,0,none⟩=some (.int .i64 17):=cB (o:=0) ht rfl;have t3:w.cell? ⟨tb,3,none⟩=some (Ptr rb):=cB (o:=3) ht rfl;have t4:w.cell? ⟨tb,4,none⟩=some (Str text):=cB (o:=4) ht rfl;have nft:¬(fun _:Nat=>False) tb:=fun h=>h
 have hwd:=word_any (H:=H) text w.drew hH (by omega);have HX:=Hy hx;have HT:=Hy ht;have HR:=Hy hr;have HC:=Hy hc;have HWd:=Hy hwd;have HH:=Hy hH;have HP:=Hy hP;have HPs:=Hy hPs;have HQ:=Hy hq;have hkc:k≠c:=by rintro rfl;have h2:=HC.out;unfold CkAt at h2;rw[HX.out]at h2;cases h2
 have hkt:k≠tb:=by rintro rfl;have h2:=HT.out;unfold TermAt at h2;rw[HX.out]at h2;cases h2
 clear hx ht hr hc hwd hH hP hPs hq;go_enter Tryz.func76,Tryz.ntmps76;go_wp2_with fail;refine Eaq.region (Keep fun _=>False) (.mov 0 (.mov 1 (.mov 2 (.mov 3 (.mov 4 (.mov 5 (.mov 6 (.mov 7 (.mov 8 (.mov 9 (.anc 10 (.mov 11 (.mov 12 (.anc 13 (.mov 14 (.mov 15 (.anc 16 Eag.Sch.fin))))))))))))))))) [13,16] [1] (by kernel_rfl) (by kernel_rfl) (fun K ops hops hK => ?_);iterate 10
  first
   | (refine Eaq.mov hops rfl rfl rfl (fun w' hb => ?_) ?_
      ·have q0:=Keep.cell hb nft t3;have q1:=Keep.cell hb nft t4;clear hb;go_simp)
   | (refine Eaq.movA hops rfl rfl (fun w' => ?_) ?_
      ·go_simp)
  go_simp
 refine Eaq.anc hops rfl rfl ?_;go_wp2_with fail;refine HWd.out.mono ?_;rintro e w1 ⟨wb,rfl,hat1,hb1⟩;refine⟨Keep.of_below hb1,?_⟩;have hB1:Below w.heap.size w w1:=(Below.refl _ w).drew.trans hb1;have hx1:=later_blk hB1 HX.out;have c1:w1.cell? ⟨k,1,none⟩=some (.pointer none):=cB (o:=1) hx1 rfl;have c2:w1.cell? ⟨k,2,none⟩=some (.pointer none):=cB (o:=2) hx1 rfl
 have fr:∀o,w1.frozen? ⟨k,o,none⟩=false:=fun o=>fob hx1
 have HX1:=Hy hx1;have HB1:=Hy hB1;have HA1:=Hy hat1;clear hx1 hB1 hb1 hat1 HWd t3 t4 t0 x0;iterate 2
  first
   | (refine Eaq.mov hops rfl rfl rfl (fun w' hb => ?_) ?_
      ·clear hb;go_simp)
   | (refine Eaq.movA hops rfl rfl (fun w' => ?_) ?_
      ·go_simp)
  go_simp
 refine Eaq.anc hops rfl rfl ?_;go_wp2_with fail;iterate 2
  first
   | (refine Eaq.mov hops rfl rfl rfl (fun w' hb => ?_) ?_
      ·clear hb;go_simp)
   | (refine Eaq.movA hops rfl rfl (fun w' => ?_) ?_
      ·go_simp)
  go_simp
 refine Eaq.anc hops rfl rfl ?_;go_wp2_with fail;refine Eaq.fin (hK _ _ ?_);clear hK hops;go_simp;obtain⟨w2,hw2⟩:∃w2,(w1.setCell ⟨k,1,none⟩ (Ptr rb)).setCell ⟨k,2,none⟩ (Ptr wb)=w2:=⟨_,rfl⟩
 have hk2:Keep (· = k) w1 w2:=by
  have K:∀(W:World) (o:Nat) (v:Value),Keep (· = k) W (W.setCell ⟨k,o,none⟩ v):=fun W o v=>Keep.set rfl
  rw[←hw2];exact(K _ _ _).trans (K _ _ _)
 have hx2:w2.heap[k]?=some (.cells (CanC tb (Ptr rb) (Ptr wb) kv (.pointer none) (.pointer none)) 63):=by rw[←hw2,blk_set (blk_set HX1.out)];rfl
 rw[hw2];clear hw2 c1 c2 fr;have hk02:Keep (· = k) w w2:=(Keep.of_below HB1.out).trans hk2;have ht2:=hk02.blk (show ¬tb=k by omega) HT.out;have t3:w2.cell? ⟨tb,3,none⟩=some (Ptr rb):=cB (o:=3) ht2 rfl;have t4:w2.cell? ⟨tb,4,none⟩=some (Str text):=cB (o:=4) ht2 rfl;have hc2:=HC.out.keep hk02 (fun e=>hkc e.symm);have hkH:Keep H w w2:=hk02.wide fun x e=> .inl (by rw[e];exact hHk)
 have htc:¬(fun x=>x=c) tb:=fun e=>by have h1:=ht2;unfold TermAt at h1;rw[show tb=c from e]at h1;have h2:=hc2;unfold CkAt at h2;rw[h1]at h2;cases h2
 have hwi:=within_any (H:=H) P HP.out HPs.out r hrP text rb c bb w2.drew ((HR.out.keep hkH).later (Below.refl _ _).drew) (fun h hh=>by have h1:=HH.out h hh;have h2:=hk02.size;exact Nat.lt_of_lt_of_le h1 h2) htl (hc2.later (Below.refl _ _).drew) tb 17 at_ (HeadAt.later (TermAt.head ht2) (Below.refl _ _).drew);rw[HQ.out]at hwi;simp only[Bool.false_eq_true,if_false]at hwi;have HWi:=Hy hwi
 have HK2:=Hy hk02;clear hk2 hx2 hk02 ht2 hc2 hkH hwi HA1;go_wp2_with fail;refine Eaq.region (Keep fun x=>x=c) (.mov 0 (.mov 1 (.mov 2 (.mov 3 (.mov 4 (.mov 5 (.mov 6 (.mov 7 (.mov 8 (.mov 9 (.anc 10 (.mov 11 Eag.Sch.fin)))))))))))) [] [] (by kernel_rfl) (by kernel_rfl) (fun K ops hops hK => ?_);iterate 10
  first
   | (refine Eaq.mov hops rfl rfl rfl (fun w' hb => ?_) ?_
      ·have q0:=Keep.cell hb htc t3;have q1:=Keep.cell hb htc t4;clear hb;go_simp)
   | (refine Eaq.movA hops rfl rfl (fun w' => ?_) ?_
      ·go_simp)
  go_simp
 refine Eaq.anc hops rfl rfl ?_;go_wp2_with fail;refine HWi.out.mono ?_;rintro e w3 ⟨rfl,hc3,hk3⟩;refine⟨hk3,?_⟩;have HC3:=Hy hc3;have HK3:=Hy ((HK2.out.wide fun x e=> .inl (.inl e)).trans (((Keep.drew w2).trans hk3).wide fun x e=> .inl (.inr e)):Keep (fun x=>x=k∨x=c) w w3);clear hc3 hk3 HWi t3 t4;iterate 1
  first
   | (refine Eaq.mov hops rfl rfl rfl (fun w' hb => ?_) ?_
      ·clear hb;go_simp)
   | (refine Eaq.movA hops rfl rfl (fun w' => ?_) ?_
      ·go_simp)
  go_simp
 refine Eaq.fin (hK _ _ ?_);clear hK hops;go_simp;go_wp2_with fail;refine bodyPost_ret (v:= .bool false) ?_ rfl ⟨rfl,HC3.out,HK3.out⟩;simp[results,Tryz.results76,go_sem]
end Go.Proofs.YtinpjfnnfkjbmaaGreatDoor
namespace Go.Proofs.YtinpjfnnfkjbmaaGreatDoor
open Go.RowKit Go.Maps
variable {H:Nat→Prop}
def oneF (b:Pv.Fault)(e:Nat)(v:Bool)(s:List UInt8)(is:Bool)(told:Nat):Pv.Fault:=if told≠0 then { e:=told } else if is then { b with e:=e,view:=v,text:=s } else {}
set_option maxRecDepth 20000 in
theorem one17_any (b:Pv.Fault)(e:Nat)(v:Bool)(s:List UInt8)(is:Bool)(told:Nat)(w:World):
  Calls Tryz.prog 55 #[FV b,.int .i64 (e:Int),.bool v,Str s,.bool is,.int .i64 (told:Int)] w fun en w'=>en = .returned (FV (oneF b e v s is told))∧Below w.heap.size w w':=by
 by_cases ht:told=0
 ·subst ht;cases is with
  | true=>
    rw[show oneF b e v s true 0={ b with e:=e,view:=v,text:=s } from rfl];obtain⟨b0,b1,b2,b3,b4,b5,b6⟩:=b;go_enter Tryz.func55,Tryz.ntmps55;go_wp2_with fail;refine bodyPost_ret (v:=FV { e:=e,op:=b1,at_:=b2,view:=v,text:=s,i:=b5,j:=b6 }) ?_ rfl ⟨rfl,((Below.refl _ _).alloc (Nat.le_refl _) _).alloc (by simp) _⟩;simp[results,Tryz.results55,go_sem]
  | false=>
    rw[show oneF b e v s false 0={} from rfl];obtain⟨b0,b1,b2,b3,b4,b5,b6⟩:=b;go_enter Tryz.func55,Tryz.ntmps55;go_wp2_with fail;refine bodyPost_ret (v:=FV {}) ?_ rfl ⟨rfl,((Below.refl _ _).alloc (Nat.le_refl _) _).alloc (by simp) _⟩;simp[results,Tryz.results55,go_sem]
 ·rw[show oneF b e v s is told={ e:=told } by unfold oneF;rw[if_pos ht]];have hne:decide ((told:Int)=0)=false:=decide_eq_false (by omega);have hne2:((told:Int)==0)=false:=by simp;omega
  obtain⟨b0,b1,b2,b3,b4,b5,b6⟩:=b;go_enter Tryz.func55,Tryz.ntmps55;go_wp2_with fail;refine bodyPost_ret (v:=FV { e:=told }) ?_ rfl ⟨rfl,((Below.refl _ _).alloc (Nat.le_refl _) _).alloc (by simp) _⟩;simp[results,Tryz.results55,go_sem]
def twoF (b:Pv.Fault)(e:Nat)(v:Bool):Option (Option Pv.Two)→Pv.Fault
 | none=>{ e:=5 }
 | some none=>{}
 | some (some w)=>{ b with e:=e,view:=v,text:=w.text,i:=w.i,j:=w.j }
theorem twoF_one (b:Pv.Fault)(e:Nat)(v:Bool)(r:Option (Option Pv.Two)):∃(t:Pv.Two) (ok:Bool) (er:Nat),twoV r = .tuple #[.agg #[Str t.text,.int .i64 t.i,.int .i64 t.j],.bool ok,.int .i64 (er:Int)]∧oneF { b with i:=t.i,j:=t.j } e v t.text ok er=twoF b e v r:=by
 obtain⟨t,ok,er,h1,h2⟩:=twoV_form r;refine⟨t,ok,er,h1,?_⟩
 match r,h2 with
 | none,h=>obtain⟨rfl,rfl,rfl⟩:=h;rfl
 | some none,h=>obtain⟨rfl,rfl,rfl⟩:=h;rfl
 | some (some w),h=>obtain⟨rfl,rfl,rfl⟩:=h;rfl
def TwW (f:Pv.Fault)(bb l' u':Nat)(w:World)(e:Ending)(w':World):Prop:=e = .returned (FV f)∧BudAt w' bb l' u'∧Keep (· = bb) w w'
theorem fl_cells {w:World}{r:Nat}{f:Pv.Fault}(h:w.heap[r]?=some (.cells (faultC f) 45)):w.cell? ⟨r,0,none⟩=some (.int .i64 (f.e:Int))∧w.cell? ⟨r,1,none⟩=some (.int .i64 (f.op:Int))∧w.cell? ⟨r,2,none⟩=some (.int .i64 f.at_) ∧
  w.cell? ⟨r,3,none⟩=some (.bool f.view)∧w.cell? ⟨r,4,none⟩=some (Str f.text)∧w.cell? ⟨r,5,none⟩=some (.int .i64 f.i)∧w.cell? ⟨r,6,none⟩=some (.int .i64 f.j)∧∀o,w.frozen? ⟨r,o,none⟩=false:=
 ⟨cB (o:=0) h rfl,cB (o:=1) h rfl,cB (o:=2) h rfl,cB (o:=3) h rfl,cB (o:=4) h rfl,cB (o:=5) h rfl,cB (o:=6) h rfl,fun o=>fob h⟩
set_option maxRecDepth 20000 in
theorem two17_iter (b:Pv.Fault)(v:Bool)(r:Option (Option Pv.Two))(bx  bb l' u':Nat)(w:World)(hbb:bb<w.heap.size)
  (hc:∀W,Below w.heap.size w W→Calls Tryz.prog 86 #[Ptr bx,Ptr bb] W fun e w'=>e = .returned (twoV r)∧BudAt w' bb l' u'∧Keep (· = bb) W w'):
  Calls Tryz.prog 53 #[FV b,.int .i64 21,.bool v,Ptr bx,.pointer none,Ptr bb] w (TwW (twoF b 21 v r) bb l' u' w):=by
 obtain⟨t,ok,er,h1,h2⟩:=twoF_one b 21 v r;rw[h1]at hc;rw[←h2];obtain⟨b0,b1,b2,b3,b4,b5,b6⟩:=b;obtain⟨g,hg⟩:∃g,w.heap.size=g:=⟨_,rfl⟩
 obtain⟨w1,hw1⟩:∃w1,(w.alloc (.cells (faultC ⟨b0,b1,b2,b3,b4,b5,b6⟩) 45)).alloc (.cells (faultC {}) 45)=w1:=⟨_,rfl⟩
 have hb1:Below w.heap.size w w1:=by rw[←hw1];exact((Below.refl _ _).alloc (Nat.le_refl _) _).alloc (by simp) _
 have hg1:w1.heap[g]?=some (.cells (faultC ⟨b0,b1,b2,b3,b4,b5,b6⟩) 45):=by rw[←hw1];exact blk_old (blk_new hg)
 have hr1:w1.heap[g+1]?=some (.cells (faultC {}) 45):=by rw[←hw1];exact blk_new (by simp;omega)
 have HC:=Hy (hc w1 hb1);have HG:=Hy hg1;have HR:=Hy hr1;have HB1:=Hy hb1;have HW1:=Hy hw1;have hgb:¬g=bb:=by omega
 have hrb:¬g+1=bb:=by omega
 have hrg:¬g+1=g:=by omega
 clear hc h1 h2 hb1 hg1 hr1 hw1;go_enter Tryz.func53,Tryz.ntmps53;go_wp2_with fail;rw[show(w.alloc (.cells (faultC ⟨b0,b1,b2,b3,b4,b5,b6⟩) 45)).alloc (.cells #[.int .i64 0,.int .i64 0,.int .i64 0,.bool false,.string ⟨#[]⟩,.int .i64 0,.int .i64 0] 45)=w1 from HW1.out];clear HW1;refine HC.out.mono ?_;rintro e w2 ⟨rfl,hb2,hk2⟩;replace HG:=Hy (hk2.blk hgb HG.out);replace HR:=Hy (hk2.blk hrb HR.out)
 have HB:=Hy hb2;have HK:=Hy ((Keep.of_below (H:=(· = bb)) HB1.out).trans hk2);clear hb2 hk2 HB1 HC;go_upto_region 3 with fail
 obtain⟨q,hq⟩:∃q,w2.heap.size=q:=⟨_,rfl⟩
 obtain⟨w3,hw3⟩:∃w3,w2.alloc (.cells #[Str t.text,.int .i64 t.i,.int .i64 t.j] 148)=w3:=⟨_,rfl⟩
 have hb3:Below w2.heap.size w2 w3:=by rw[←hw3];exact(Below.refl _ _).alloc (Nat.le_refl _) _
 have hq3:w3.heap[q]?=some (.cells #[Str t.text,.int .i64 t.i,.int .i64 t.j] 148):=by rw[←hw3];exact blk_new hq
 have hqg:¬q=g:=by have:=blk_lt HG.out;omega
 rw[hq,hw3];clear hw3;replace HG:=Hy (later_blk hb3 HG.out);replace HR:=Hy (later_blk hb3 HR.out);replace HB:=Hy (HB.out.later hb3);replace HK:=Hy (HK.out.trans (Keep.of_below hb3));have HQ:=Hy hq3;clear hb3 hq3;obtain⟨x0,x1,x2,x3,x4,x5,x6,fr⟩:=fl_cells HG.out;have y0:w3.cell? ⟨q,0,none⟩=some (Str t.text):=cB (o:=0) HQ.out rfl;have y1:w3.cell? ⟨q,1,none⟩=some (.int .i64 t.i):=cB (o:=1) HQ.out rfl
 have y2:w3.cell? ⟨q,2,none⟩=some (.int .i64 t.j):=cB (o:=2) HQ.out rfl;go_upto_region 4 with fail
 obtain⟨w4,hw4⟩:∃W,w3.setCell ⟨g,5,none⟩ (.int .i64 t.i)=W:=⟨_,rfl⟩
 have hkk:Keep (· = g) w3 w4:=by rw[←hw4];exact Keep.set rfl
 have hgg:w4.heap[g]?=some (.cells (faultC (⟨b0,b1,b2,b3,b4,t.i,b6⟩)) 45):=by rw[←hw4,blk_set HG.out];rfl
 rw[hw4];clear hw4 x0 x1 x2 x3 x4 x5 x6 fr y0 y1 y2;replace HG:=Hy hgg;replace HQ:=Hy (hkk.blk hqg HQ.out);replace HR:=Hy (hkk.blk hrg HR.out);replace HB:=Hy (HB.out.keep hkk (fun e=>hgb e.symm));replace HK:=Hy (HK.out.trans_ hkk fun x e=> .inr (by rw[e];omega));clear hkk hgg;obtain⟨x0,x1,x2,x3,x4,x5,x6,fr⟩:=fl_cells HG.out;have y0:w4.cell? ⟨q,0,none⟩=some (Str t.text):=cB (o:=0) HQ.out rfl
 have y1:w4.cell? ⟨q,1,none⟩=some (.int .i64 t.i):=cB (o:=1) HQ.out rfl;have y2:w4.cell? ⟨q,2,none⟩=some (.int .i64 t.j):=cB (o:=2) HQ.out rfl;go_upto_region 5 with fail
 obtain⟨w5,hw5⟩:∃W,w4.setCell ⟨g,6,none⟩ (.int .i64 t.j)=W:=⟨_,rfl⟩
 have hkk:Keep (· = g) w4 w5:=by rw[←hw5];exact Keep.set rfl
 have hgg:w5.heap[g]?=some (.cells (faultC (⟨b0,b1,b2,b3,b4,t.i,t.j⟩)) 45):=by rw[←hw5,blk_set HG.out];rfl
 rw[hw5];clear hw5 x0 x1 x2 x3 x4 x5 x6 fr y0 y1 y2;replace HG:=Hy hgg;replace HQ:=Hy (hkk.blk hqg HQ.out);replace HR:=Hy (hkk.blk hrg HR.out);replace HB:=Hy (HB.out.keep hkk (fun e=>hgb e.symm));replace HK:=Hy (HK.out.trans_ hkk fun x e=> .inr (by rw[e];omega));clear hkk hgg;obtain⟨x0,x1,x2,x3,x4,x5,x6,fr⟩:=fl_cells HG.out;have y0:w5.cell? ⟨q,0,none⟩=some (Str t.text):=cB (o:=0) HQ.out rfl
 have y1:w5.cell? ⟨q,1,none⟩=some (.int .i64 t.i):=cB (o:=1) HQ.out rfl;have y2:w5.cell? ⟨q,2,none⟩=some (.int .i64 t.j):=cB (o:=2) HQ.out rfl;go_wp2_with fail;have hone:=one17_any { e:=b0,op:=b1,at_:=b2,view:=b3,text:=b4,i:=t.i,j:=t.j } 21 v t.text ok er w5;obtain⟨f,hf⟩:∃f,oneF { e:=b0,op:=b1,at_:=b2,view:=b3,text:=b4,i:=t.i,j:=t.j } 21 v t.text ok er=f:=⟨_,rfl⟩
 rw[hf]at hone;clear x0 x1 x2 x3 x4 x5 x6 fr y0 y1 y2;refine hone.mono ?_;rintro e w6 ⟨rfl,hb6⟩;replace HR:=Hy (later_blk hb6 HR.out);replace HB:=Hy (HB.out.later hb6);replace HK:=Hy (HK.out.trans (Keep.of_below hb6));clear hb6 HG HQ hone;obtain⟨x0,x1,x2,x3,x4,x5,x6,fr⟩:=fl_cells HR.out;go_wp2_with fail;clear x0 x1 x2 x3 x4 x5 x6 fr;have hst:=fl_set2 f HR.out
 obtain⟨w7,hw7⟩:∃w7,(((((((w6.setCell ⟨g+1,0,none⟩ (.int .i64 (f.e:Int))).setCell ⟨g+1,1,none⟩ (.int .i64 (f.op:Int))).setCell ⟨g+1,2,none⟩ (.int .i64 f.at_)).setCell ⟨g+1,3,none⟩ (.bool f.view)).setCell ⟨g+1,4,none⟩ (Str f.text)).setCell ⟨g+1,5,none⟩ (.int .i64 f.i)).setCell ⟨g+1,6,none⟩ (.int .i64 f.j))=w7:=⟨_,rfl⟩
 rw[hw7]at hst ⊢;clear hw7;obtain⟨x0,x1,x2,x3,x4,x5,x6,fr⟩:=fl_cells hst.1;refine bodyPost_ret (v:=FV f) ?_ rfl ⟨by rw[hf],HB.out.keep hst.2 (fun e=>hrb e.symm),HK.out.trans_ hst.2 fun x e=> .inr (by rw[e];omega)⟩;simp[results,Tryz.results53,go_sem,x0,x1,x2,x3,x4,x5,x6]
set_option maxRecDepth 20000 in
theorem two17_cat (b:Pv.Fault)(v:Bool)(r:Option (Option Pv.Two))(bx by_ bb l' u':Nat)(w:World)(hbb:bb<w.heap.size)
  (hc:∀W,Below w.heap.size w W→Calls Tryz.prog 87 #[Ptr bx,Ptr by_,Ptr bb] W fun e w'=>e = .returned (twoV r)∧BudAt w' bb l' u'∧Keep (· = bb) W w'):
  Calls Tryz.prog 53 #[FV b,.int .i64 20,.bool v,Ptr bx,Ptr by_,Ptr bb] w (TwW (twoF b 20 v r) bb l' u' w):=by
 obtain⟨t,ok,er,h1,h2⟩:=twoF_one b 20 v r;rw[h1]at hc;rw[←h2];obtain⟨b0,b1,b2,b3,b4,b5,b6⟩:=b;obtain⟨g,hg⟩:∃g,w.heap.size=g:=⟨_,rfl⟩
 obtain⟨w1,hw1⟩:∃w1,(w.alloc (.cells (faultC ⟨b0,b1,b2,b3,b4,b5,b6⟩) 45)).alloc (.cells (faultC {}) 45)=w1:=⟨_,rfl⟩
 have hb1:Below w.heap.size w w1:=by rw[←hw1];exact((Below.refl _ _).alloc (Nat.le_refl _) _).alloc (by simp) _
 have hg1:w1.heap[g]?=some (.cells (faultC ⟨b0,b1,b2,b3,b4,b5,b6⟩) 45):=by rw[←hw1];exact blk_old (blk_new hg)
 have hr1:w1.heap[g+1]?=some (.cells (faultC {}) 45):=by rw[←hw1];exact blk_new (by simp;omega)
 have HC:=Hy (hc w1 hb1);have HG:=Hy hg1;have HR:=Hy hr1;have HB1:=Hy hb1;have HW1:=Hy hw1;have hgb:¬g=bb:=by omega
 have hrb:¬g+1=bb:=by omega
 have hrg:¬g+1=g:=by omega
 clear hc h1 h2 hb1 hg1 hr1 hw1;go_enter Tryz.func53,Tryz.ntmps53;go_wp2_with fail;rw[show(w.alloc (.cells (faultC ⟨b0,b1,b2,b3,b4,b5,b6⟩) 45)).alloc (.cells #[.int .i64 0,.int .i64 0,.int .i64 0,.bool false,.string ⟨#[]⟩,.int .i64 0,.int .i64 0] 45)=w1 from HW1.out];clear HW1;refine HC.out.mono ?_;rintro e w2 ⟨rfl,hb2,hk2⟩;replace HG:=Hy (hk2.blk hgb HG.out);replace HR:=Hy (hk2.blk hrb HR.out)
 have HB:=Hy hb2;have HK:=Hy ((Keep.of_below (H:=(· = bb)) HB1.out).trans hk2);clear hb2 hk2 HB1 HC;go_upto_region 7 with fail
 obtain⟨q,hq⟩:∃q,w2.heap.size=q:=⟨_,rfl⟩
 obtain⟨w3,hw3⟩:∃w3,w2.alloc (.cells #[Str t.text,.int .i64 t.i,.int .i64 t.j] 148)=w3:=⟨_,rfl⟩
 have hb3:Below w2.heap.size w2 w3:=by rw[←hw3];exact(Below.refl _ _).alloc (Nat.le_refl _) _
 have hq3:w3.heap[q]?=some (.cells #[Str t.text,.int .i64 t.i,.int .i64 t.j] 148):=by rw[←hw3];exact blk_new hq
 have hqg:¬q=g:=by have:=blk_lt HG.out;omega
 rw[hq,hw3];clear hw3;replace HG:=Hy (later_blk hb3 HG.out);replace HR:=Hy (later_blk hb3 HR.out);replace HB:=Hy (HB.out.later hb3);replace HK:=Hy (HK.out.trans (Keep.of_below hb3));have HQ:=Hy hq3;clear hb3 hq3;obtain⟨x0,x1,x2,x3,x4,x5,x6,fr⟩:=fl_cells HG.out;have y0:w3.cell? ⟨q,0,none⟩=some (Str t.text):=cB (o:=0) HQ.out rfl;have y1:w3.cell? ⟨q,1,none⟩=some (.int .i64 t.i):=cB (o:=1) HQ.out rfl
 have y2:w3.cell? ⟨q,2,none⟩=some (.int .i64 t.j):=cB (o:=2) HQ.out rfl;go_upto_region 8 with fail
 obtain⟨w4,hw4⟩:∃W,w3.setCell ⟨g,5,none⟩ (.int .i64 t.i)=W:=⟨_,rfl⟩
 have hkk:Keep (· = g) w3 w4:=by rw[←hw4];exact Keep.set rfl
 have hgg:w4.heap[g]?=some (.cells (faultC (⟨b0,b1,b2,b3,b4,t.i,b6⟩)) 45):=by rw[←hw4,blk_set HG.out];rfl
 rw[hw4];clear hw4 x0 x1 x2 x3 x4 x5 x6 fr y0 y1 y2;replace HG:=Hy hgg;replace HQ:=Hy (hkk.blk hqg HQ.out);replace HR:=Hy (hkk.blk hrg HR.out);replace HB:=Hy (HB.out.keep hkk (fun e=>hgb e.symm));replace HK:=Hy (HK.out.trans_ hkk fun x e=> .inr (by rw[e];omega));clear hkk hgg;obtain⟨x0,x1,x2,x3,x4,x5,x6,fr⟩:=fl_cells HG.out;have y0:w4.cell? ⟨q,0,none⟩=some (Str t.text):=cB (o:=0) HQ.out rfl
 have y1:w4.cell? ⟨q,1,none⟩=some (.int .i64 t.i):=cB (o:=1) HQ.out rfl;have y2:w4.cell? ⟨q,2,none⟩=some (.int .i64 t.j):=cB (o:=2) HQ.out rfl;go_upto_region 9 with fail
 obtain⟨w5,hw5⟩:∃W,w4.setCell ⟨g,6,none⟩ (.int .i64 t.j)=W:=⟨_,rfl⟩
 have hkk:Keep (· = g) w4 w5:=by rw[←hw5];exact Keep.set rfl
 have hgg:w5.heap[g]?=some (.cells (faultC (⟨b0,b1,b2,b3,b4,t.i,t.j⟩)) 45):=by rw[←hw5,blk_set HG.out];rfl
 rw[hw5];clear hw5 x0 x1 x2 x3 x4 x5 x6 fr y0 y1 y2;replace HG:=Hy hgg;replace HQ:=Hy (hkk.blk hqg HQ.out);replace HR:=Hy (hkk.blk hrg HR.out);replace HB:=Hy (HB.out.keep hkk (fun e=>hgb e.symm));replace HK:=Hy (HK.out.trans_ hkk fun x e=> .inr (by rw[e];omega));clear hkk hgg;obtain⟨x0,x1,x2,x3,x4,x5,x6,fr⟩:=fl_cells HG.out;have y0:w5.cell? ⟨q,0,none⟩=some (Str t.text):=cB (o:=0) HQ.out rfl
 have y1:w5.cell? ⟨q,1,none⟩=some (.int .i64 t.i):=cB (o:=1) HQ.out rfl;have y2:w5.cell? ⟨q,2,none⟩=some (.int .i64 t.j):=cB (o:=2) HQ.out rfl;go_wp2_with fail;have hone:=one17_any { e:=b0,op:=b1,at_:=b2,view:=b3,text:=b4,i:=t.i,j:=t.j } 20 v t.text ok er w5;obtain⟨f,hf⟩:∃f,oneF { e:=b0,op:=b1,at_:=b2,view:=b3,text:=b4,i:=t.i,j:=t.j } 20 v t.text ok er=f:=⟨_,rfl⟩
 rw[hf]at hone;clear x0 x1 x2 x3 x4 x5 x6 fr y0 y1 y2;refine hone.mono ?_;rintro e w6 ⟨rfl,hb6⟩;replace HR:=Hy (later_blk hb6 HR.out);replace HB:=Hy (HB.out.later hb6);replace HK:=Hy (HK.out.trans (Keep.of_below hb6));clear hb6 HG HQ hone;obtain⟨x0,x1,x2,x3,x4,x5,x6,fr⟩:=fl_cells HR.out;go_wp2_with fail;clear x0 x1 x2 x3 x4 x5 x6 fr;have hst:=fl_set2 f HR.out
 obtain⟨w7,hw7⟩:∃w7,(((((((w6.setCell ⟨g+1,0,none⟩ (.int .i64 (f.e:Int))).setCell ⟨g+1,1,none⟩ (.int .i64 (f.op:Int))).setCell ⟨g+1,2,none⟩ (.int .i64 f.at_)).setCell ⟨g+1,3,none⟩ (.bool f.view)).setCell ⟨g+1,4,none⟩ (Str f.text)).setCell ⟨g+1,5,none⟩ (.int .i64 f.i)).setCell ⟨g+1,6,none⟩ (.int .i64 f.j))=w7:=⟨_,rfl⟩
 rw[hw7]at hst ⊢;clear hw7;obtain⟨x0,x1,x2,x3,x4,x5,x6,fr⟩:=fl_cells hst.1;refine bodyPost_ret (v:=FV f) ?_ rfl ⟨by rw[hf],HB.out.keep hst.2 (fun e=>hrb e.symm),HK.out.trans_ hst.2 fun x e=> .inr (by rw[e];omega)⟩;simp[results,Tryz.results53,go_sem,x0,x1,x2,x3,x4,x5,x6]
end Go.Proofs.YtinpjfnnfkjbmaaGreatDoor
