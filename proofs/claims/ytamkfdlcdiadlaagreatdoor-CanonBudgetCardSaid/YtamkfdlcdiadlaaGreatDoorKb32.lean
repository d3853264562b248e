/- Canonizers: Canon at Keep, Norm and Cat. -/
import Derived.Test.YtamkfdlcdiadlaaGreatDoorKb05
import Derived.Test.YtamkfdlcdiadlaaGreatDoorKb31
set_option linter.all false
namespace Go.Proofs.YtamkfdlcdiadlaaGreatDoor
open Go.RowKit Go.Maps
variable {H:Nat→Prop}
theorem SideAt.widen {w:World}{S:Pv.Side}{s:Nat}(h:SideAt H w S s){H':Nat→Prop}(hH:∀k,H' k→H k∨w.heap.size≤k):SideAt H' w S s:=by
 obtain⟨h0,f,b,h1,h2,h3⟩:=h;refine⟨fun hs => ?_,f,b,h1,h2.widen hH,h3.widen hH⟩;rcases hH _ hs with h|h
 ·exact h0 h
 ·have:=blk_lt h1;omega
theorem SideAt.keep1 {w w':World}{S:Pv.Side}{s g:Nat}(h:SideAt H w S s)(hk:Keep (· = g) w w')(hg:H g){cs:Array Value}{t:TypeId}{fr:Nat × Nat}(hb:w.heap[g]?=some (.cells cs t fr))(ht:t≠205):SideAt H w' S s:=
 h.keep hk (fun k e=> .inl (by rw[e];exact hg)) (fun k cs' fr' h1 e=>by
  rw[e,hb]at h1;injection h1 with h1
  injection h1 with _ h1
  exact ht h1)
set_option maxRecDepth 20000 in
set_option maxHeartbeats 1000000 in
theorem canon_keep (rw_:Pv.R)(tb wb_ c bb l_ u:Nat)(at_:Int)(name text back:List UInt8)(w:World)(hT:Tab w)(ht:TermAt w tb 16 at_ name (Ptr wb_) text back (.slice none 0 0))(hr:ReAt H w rw_ wb_)(hbud:BudAt w bb l_ u)(hbb:H bb)(hH:∀h,H h→h<w.heap.size)
  (hz1:Pv.size rw_<137438953472) (hll:l_<274877906944) (hc:CkAt w c bb {}) (S1 S2:Pv.Side) (hs1:(Pv.side rw_ l_).2=some S1) (l1:Nat) (hl1:(Pv.side rw_ l_).1=l1) (hl1l:l1<274877906944) (hs2:(Pv.side rw_ l1).2=some S2):
  Calls Tryz.prog 57 #[Ptr c,Ptr tb] w fun e w'=>∃k s1 s2,e = .returned (Ptr k)∧w.heap.size≤k∧w'.heap[k]?=some (.cells (CanC tb (Ptr wb_) (Ptr wb_) (.slice none 0 0) (Ptr s1) (Ptr s2)) 131)∧SideAt H w' S1 s1∧SideAt H w' S2 s2∧S1.Ok∧S2.Ok∧(∃u',BudAt w' bb (Pv.side rw_ l1).1 u')∧Keep (· = bb) w w':=by
 have hsh:=shaped_keep tb at_ name text back w wb_ ht;have t0:w.cell? ⟨tb,0,none⟩=some (.int .i64 16):=cB (o:=0) ht rfl;have t6:w.cell? ⟨tb,6,none⟩=some (.slice none 0 0):=cB (o:=6) ht rfl;have htl:=blk_lt ht;have HSh:=Hy hsh;have HT:=Hy hT;have HTm:=Hy ht;have HR:=Hy hr;have HBud:=Hy hbud;have HH:=Hy hH;have HC:=Hy hc;have HS1:=Hy hs1;have HS2:=Hy hs2;have HL1:=Hy hl1
 clear hsh hT ht hr hbud hH hc hs1 hs2 hl1;go_enter Tryz.func57,Tryz.ntmps57;go_wp2_with fail;refine HSh.out.mono ?_;rintro e w' ⟨rfl,rfl⟩;go_wp2_with fail;obtain⟨k,hk⟩:∃k,w.heap.size=k:=⟨_,rfl⟩
 obtain⟨w1,hw1⟩:∃w1,w.alloc (.cells #[Ptr tb,.pointer none,.pointer none,.slice none 0 0,.pointer none,.pointer none] 131)=w1:=⟨_,rfl⟩
 have hb1:Below w.heap.size w w1:=by rw[←hw1];exact(Below.refl _ _).alloc (Nat.le_refl _) _
 have hx1:w1.heap[k]?=some (.cells (CanC tb (.pointer none) (.pointer none) (.slice none 0 0) (.pointer none) (.pointer none)) 131):=by rw[←hw1];exact blk_new hk
 rw[hw1,hk];have hwk:w.heap.size≤k:=by omega
 clear hw1 t0 t6;have HB1:=Hy hb1;have HX1:=Hy hx1;clear hb1 hx1;go_loopw [58] (fun i wr=>i = .int .i64 0∧wr=w1) (fun _ _=>0)
 case atStart=>exact⟨rfl,rfl⟩
 case round=>
 obtain⟨rfl,rfl⟩:=hrel;obtain⟨w1,hw1⟩:∃w1,wr=w1:=⟨_,rfl⟩
 rw[hw1]at HB1 HX1 ⊢;clear hw1;have htm1:=later_blk HB1.out HTm.out;have hty:=types_keep c k tb wb_ at_ name text back (.slice none 0 0) (.slice none 0 0) w1 HX1.out htm1;have HTy:=Hy hty;clear hty htm1;go_wp2_with fail;refine HTy.out.mono ?_;rintro e w2 ⟨rfl,hx2,hk2⟩;have hK2:Keep (· = bb) w w2:=(Keep.of_below HB1.out).trans_ hk2 fun x e=> .inr (by rw[e];exact hwk)
 obtain⟨H1,hH1⟩:∃H1:Nat→Prop,(fun x=>H x∨x=k)=H1:=⟨_,rfl⟩
 have hHH1:∀x,H x→H1 x:=fun x h=>by rw[←hH1];exact .inl h
 have H1k:H1 k:=by rw[←hH1];exact .inr rfl
 have H1b:H1 bb:=hHH1 _ hbb;have h1lt:∀h,H1 h→h<w2.heap.size:=fun h hh=>by
  have h3:=blk_lt hx2;have h4:=hK2.size;rw[←hH1]at hh;rcases hh with hh|hh
  ·have:=HH.out h hh;omega
  ·omega
 have hrw1:ReAt H1 w rw_ wb_:=HR.out.widen fun x hx=>by
  rw[←hH1]at hx;rcases hx with hx|hx
  ·exact .inl hx
  ·exact .inr (by omega)
 have hrw:ReAt H1 w2 rw_ wb_:=hrw1.keep (hK2.wide fun x e=> .inl (by rw[e];exact H1b));have HRW:=Hy hrw;have HRC:Hid (ReAt H1 w2 rw_ wb_):=hrw;have HX2:Hid (w2.heap[k]?=some (.cells (CanC tb (Ptr wb_) (Ptr wb_) (.slice none 0 0) (.pointer none) (.pointer none)) 131)):=hx2;have hkbb:bb≠k:=by have:=HH.out bb hbb;omega
 have hb2:BudAt w2 bb l_ u:=(HBud.out.later HB1.out).keep hk2 hkbb;have hcw:=blk_lt HC.out;have hc2:CkAt w2 c bb {}:=(HC.out.later HB1.out).keep hk2 (show ¬c=k by omega);have hT2:Tab w2:=(HT.out.later HB1.out).keep hk2 (fun e=>by
  have h0:=(HT.out 0 (by decide))
  have:=World.block_lt_of_cell? w _ h0;simp at this;omega)
 have HB2:=Hy hb2;have HC2:=Hy hc2;have HT2:=Hy hT2;have HK2:=Hy hK2;have hhH1:=Hy h1lt;have hHHh:=Hy hHH1;clear hx2 hk2 hK2 hrw hrw1 hb2 hc2 hT2 hkbb HTy h1lt hHH1 hH1;have h1lt:=hhH1;have hHH1:=hHHh;have hz2:=hz1;clear hhH1 hHHh;have z1:=HX2.out;have c1:w2.cell? ⟨k,1,none⟩=some (Ptr wb_):=cB (o:=1) z1 rfl;have hcb:=HC2.out.ne_bud HB2.out;have hkbb:k≠bb:=by
  rintro rfl;have h2:=HB2.out.2;rw[HX2.out]at h2;cases h2
 have hsd:=side_any (H:=H1) rw_ wb_ c bb l_ u w2 HT2.out HRW.out HB2.out H1b h1lt.out hz1 hll HC2.out S1 HS1.out;have HSd:=Hy hsd;clear hsd z1;go_wp2_with fail;refine HSd.out.mono ?_;rintro e w3 ⟨s1,rfl,hs1,hS1,hsz1,hc3,⟨u3,hb3⟩,hk3⟩;rw[HL1.out]at hb3;have hx3:=hk3.blk hkbb HX2.out;have c4:w3.cell? ⟨k,4,none⟩=some (.pointer none):=cB (o:=4) hx3 rfl
 have c2:w3.cell? ⟨k,2,none⟩=some (Ptr wb_):=cB (o:=2) hx3 rfl;have f4:∀o,w3.frozen? ⟨k,o,none⟩=false:=fun o=>fob hx3
 have hT3:Tab w3:=HT2.out.keep hk3 (fun e=>HT2.out.bud HB2.out e.symm);have hkH:Keep H1 w2 w3:=hk3.wide fun x e=> .inl (by rw[e];exact H1b)
 have HRC3:=Hy (HRC.out.keep hkH);have hsz3:=hk3.size;have HX3:=Hy hx3;have HS3:=Hy hs1;have HC3:=Hy hc3;have HB3:=Hy hb3;have HK3:=Hy hk3;have HT3:=Hy hT3;have HOK1:=Hy hS1;clear hx3 hs1 hc3 hb3 hk3 hT3 hkH HSd c1 hS1;go_wp2_with fail;obtain⟨w4,hw4⟩:∃w4,w3.setCell ⟨k,4,none⟩ (Ptr s1)=w4:=⟨_,rfl⟩
 have hk4:Keep (· = k) w3 w4:=by rw[←hw4];exact Keep.set rfl
 have hx4:w4.heap[k]?=some (.cells (CanC tb (Ptr wb_) (Ptr wb_) (.slice none 0 0) (Ptr s1) (.pointer none)) 131):=by rw[←hw4,blk_set HX3.out];rfl
 rw[hw4];clear hw4 c4 f4;have hs4:=HS3.out.keep1 hk4 H1k HX3.out (by decide);have hb4:BudAt w4 bb l1 u3:=HB3.out.keep hk4 (fun e=>hkbb e.symm);have hkc:c≠k:=by rintro rfl;have h2:=HC3.out;unfold CkAt at h2;rw[HX3.out]at h2;cases h2
 have hc4:=HC3.out.keep hk4 hkc;have hT4:Tab w4:=HT3.out.keep hk4 (fun e=>HT3.out.ne_ptr HX3.out rfl e.symm);have hkH4:Keep H1 w3 w4:=hk4.wide fun x e=> .inl (by rw[e];exact H1k)
 have hrc4:=HRC3.out.keep hkH4;have hsz4:=hk4.size;have hsd:=side_any (H:=H1) rw_ wb_ c bb l1 u3 w4 hT4 hrc4 hb4 H1b (fun h hh=>by have:=h1lt.out h hh;omega) hz2 hl1l hc4 S2 HS2.out;have HSd:=Hy hsd;have HX4:=Hy hx4;have HS4:=Hy hs4;have HB4:=Hy hb4;have HK4:=Hy hk4;clear hs4 hb4 hc4 hT4 hkH4 hrc4 hsd hx4 hk4;refine HSd.out.mono ?_;rintro e w5 ⟨s2,rfl,hs5,hS2,hsz5,hc5,⟨u5,hb5⟩,hk5⟩
 have hx5:=hk5.blk hkbb HX4.out;have hs1':SideAt H1 w5 S1 s1:=HS4.out.keep1 hk5 H1b HB4.out.2 (by decide);have c5:w5.cell? ⟨k,5,none⟩=some (.pointer none):=cB (o:=5) hx5 rfl;have f5:∀o,w5.frozen? ⟨k,o,none⟩=false:=fun o=>fob hx5
 have HX5:=Hy hx5;have HS5:=Hy hs5;have HS1':=Hy hs1';have HC5:=Hy hc5;have HB5:=Hy hb5;have HK5:=Hy hk5;have HOK2:=Hy hS2;clear hx5 hs5 hs1' hc5 hb5 hk5 HSd c2 hS2;go_wp2_with fail;obtain⟨w6,hw6⟩:∃w6,w5.setCell ⟨k,5,none⟩ (Ptr s2)=w6:=⟨_,rfl⟩
 have hk6:Keep (· = k) w5 w6:=by rw[←hw6];exact Keep.set rfl
 have hx6:w6.heap[k]?=some (.cells (CanC tb (Ptr wb_) (Ptr wb_) (.slice none 0 0) (Ptr s1) (Ptr s2)) 131):=by rw[←hw6,blk_set HX5.out];rfl
 rw[hw6];clear hw6 c5 f5;have hok6:=ok_any c bb {} w6 (HC5.out.keep hk6 hkc);have HOk6:=Hy hok6;have HKr:Hid (Keep (fun x=>x=k∨x=bb) w2 w6):=(((HK3.out.wide fun x e=> .inl (.inr e)).trans (HK4.out.wide fun x e=> .inl (.inl e))).trans (HK5.out.wide fun x e=> .inl (.inr e))).trans (hk6.wide fun x e=> .inl (.inl e))
 have hKall:Keep (· = bb) w w6:=(((HK2.out.trans HK3.out).trans_ HK4.out fun x e=> .inr (by rw[e];exact hwk)).trans HK5.out).trans_ hk6 fun x e=> .inr (by rw[e];exact hwk)
 have HFin:Hid (w.heap.size≤k∧w6.heap[k]?=some (.cells (CanC tb (Ptr wb_) (Ptr wb_) (.slice none 0 0) (Ptr s1) (Ptr s2)) 131)∧SideAt H w6 S1 s1∧SideAt H w6 S2 s2∧S1.Ok∧S2.Ok∧(∃u',BudAt w6 bb (Pv.side rw_ l1).1 u')∧Keep (· = bb) w w6):=
  ⟨hwk,hx6,(HS1'.out.keep1 hk6 H1k HX5.out (by decide)).widen fun x h=> .inl (hHH1.out x h),(HS5.out.keep1 hk6 H1k HX5.out (by decide)).widen fun x h=> .inl (hHH1.out x h),HOK1.out,HOK2.out,⟨_,HB5.out.keep hk6 (fun e=>hkbb e.symm)⟩,hKall⟩
 have HRW6:=Hy ((((HRW.out.keep (HK3.out.wide fun x e=> .inl (by rw[e];exact H1b))).keep (HK4.out.wide fun x e=> .inl (by rw[e];exact H1k))).keep (HK5.out.wide fun x e=> .inl (by rw[e];exact H1b))).keep (hk6.wide fun x e=> .inl (by rw[e];exact H1k)))
 have HRC6:=Hy (((HRC3.out.keep (HK4.out.wide fun x e=> .inl (by rw[e];exact H1k))).keep (HK5.out.wide fun x e=> .inl (by rw[e];exact H1b))).keep (hk6.wide fun x e=> .inl (by rw[e];exact H1k)));clear hk6 hx6 hok6 hKall;go_wp2_with fail;refine HOk6.out.mono ?_;rintro e w' ⟨rfl,rfl⟩;go_wp2_with fail;go_ret;exact⟨k,s1,s2,rfl,HFin.out⟩
set_option maxRecDepth 20000 in
set_option maxHeartbeats 1000000 in
theorem canon_norm (P:Pv.R→Prop)(hP:∀r c,P r→P (Pv.by_ c r))(hPs:∀r,P r→Pv.size r≤300000)(rw_:Pv.R)(hrP:P rw_)  (tb wb_ c bb l_ u:Nat)(at_:Int)(name text back:List UInt8)(w:World)(hT:Tab w)(htx:text.length<137438953)(hq:Pv.matchR text rw_=true)(ht:TermAt w tb 17 at_ name (Ptr wb_) text back (.slice none 0 0))(hr:ReAt H w rw_ wb_)(hbud:BudAt w bb l_ u)(hbb:H bb)(hH:∀h,H h→h<w.heap.size)
  (hz1:Pv.size rw_<137438953472) (hll:l_<274877906944) (hc:CkAt w c bb {}) (S1 S2:Pv.Side) (hs1:(Pv.side rw_ l_).2=some S1) (l1:Nat) (hl1:(Pv.side rw_ l_).1=l1) (hl1l:l1<274877906944) (hs2:(Pv.side (Pv.word text) l1).2=some S2):
  Calls Tryz.prog 57 #[Ptr c,Ptr tb] w fun e w'=>∃k s1 s2 cb,e = .returned (Ptr k)∧ReAt H w' (Pv.word text) cb∧w.heap.size≤k∧w'.heap[k]?=some (.cells (CanC tb (Ptr wb_) (Ptr cb) (.slice none 0 0) (Ptr s1) (Ptr s2)) 131)∧SideAt H w' S1 s1∧SideAt H w' S2 s2∧S1.Ok∧S2.Ok∧(∃u',BudAt w' bb (Pv.side (Pv.word text) l1).1 u')∧Keep (· = bb) w w':=by
 have hsh:=shaped_norm tb at_ name text back w wb_ ht;have t0:w.cell? ⟨tb,0,none⟩=some (.int .i64 17):=cB (o:=0) ht rfl;have t6:w.cell? ⟨tb,6,none⟩=some (.slice none 0 0):=cB (o:=6) ht rfl;have htl:=blk_lt ht;have HSh:=Hy hsh;have HT:=Hy hT;have HTm:=Hy ht;have HR:=Hy hr;have HBud:=Hy hbud;have HH:=Hy hH;have HC:=Hy hc;have HQ:=Hy hq;have HP:=Hy hP;have HPs:=Hy hPs;have HS1:=Hy hs1;have HS2:=Hy hs2
 have HL1:=Hy hl1;clear hsh hT ht hr hbud hH hc hs1 hs2 hl1 hq hP hPs;go_enter Tryz.func57,Tryz.ntmps57;go_wp2_with fail;refine HSh.out.mono ?_;rintro e w' ⟨rfl,rfl⟩;go_wp2_with fail;obtain⟨k,hk⟩:∃k,w.heap.size=k:=⟨_,rfl⟩
 obtain⟨w1,hw1⟩:∃w1,w.alloc (.cells #[Ptr tb,.pointer none,.pointer none,.slice none 0 0,.pointer none,.pointer none] 131)=w1:=⟨_,rfl⟩
 have hb1:Below w.heap.size w w1:=by rw[←hw1];exact(Below.refl _ _).alloc (Nat.le_refl _) _
 have hx1:w1.heap[k]?=some (.cells (CanC tb (.pointer none) (.pointer none) (.slice none 0 0) (.pointer none) (.pointer none)) 131):=by rw[←hw1];exact blk_new hk
 rw[hw1,hk];have hwk:w.heap.size≤k:=by omega
 clear hw1 t0 t6;have HB1:=Hy hb1;have HX1:=Hy hx1;clear hb1 hx1;go_loopw [58] (fun i wr=>i = .int .i64 0∧wr=w1) (fun _ _=>0)
 case atStart=>exact⟨rfl,rfl⟩
 case round=>
 obtain⟨rfl,rfl⟩:=hrel;obtain⟨w1,hw1⟩:∃w1,wr=w1:=⟨_,rfl⟩
 rw[hw1]at HB1 HX1 ⊢;clear hw1;have htm1:=later_blk HB1.out HTm.out;obtain⟨H1,hH1⟩:∃H1:Nat→Prop,(fun x=>H x∨x=k)=H1:=⟨_,rfl⟩
 have hHH1:∀x,H x→H1 x:=fun x h=>by rw[←hH1];exact .inl h
 have H1k:H1 k:=by rw[←hH1];exact .inr rfl
 have H1b:H1 bb:=hHH1 _ hbb;have hrw1:ReAt H1 w rw_ wb_:=HR.out.widen fun x hx=>by
  rw[←hH1]at hx;rcases hx with hx|hx
  ·exact .inl hx
  ·exact .inr (by omega)
 have hty:=types_norm (H:=H1) P HP.out HPs.out rw_ hrP c bb k tb wb_ at_ name text back (.slice none 0 0) (.slice none 0 0) w1 HX1.out htm1 (hrw1.later HB1.out) (fun h hh=>by
  have h3:=blk_lt HX1.out;have h4:=HB1.out.size;rw[←hH1]at hh;rcases hh with hh|hh
  ·have:=HH.out h hh;omega
  ·omega) H1k (by omega) (HC.out.later HB1.out) HQ.out
 have HTy:=Hy hty;clear hty htm1;go_wp2_with fail;refine HTy.out.mono ?_;rintro e w2 ⟨cb,rfl,hx2,hrc,hk2⟩;have hK2:Keep (· = bb) w w2:=(Keep.of_below HB1.out).trans_ hk2 fun x e=> .inr (by rw[e];exact hwk)
 have h1lt:∀h,H1 h→h<w2.heap.size:=fun h hh=>by
  have h3:=blk_lt hx2;have h4:=hK2.size;rw[←hH1]at hh;rcases hh with hh|hh
  ·have:=HH.out h hh;omega
  ·omega
 have hrw:ReAt H1 w2 rw_ wb_:=hrw1.keep (hK2.wide fun x e=> .inl (by rw[e];exact H1b));have HRW:=Hy hrw;have HRC:=Hy hrc;have HX2:Hid (w2.heap[k]?=some (.cells (CanC tb (Ptr wb_) (Ptr cb) (.slice none 0 0) (.pointer none) (.pointer none)) 131)):=hx2;have hkbb:bb≠k:=by have:=HH.out bb hbb;omega
 have hb2:BudAt w2 bb l_ u:=(HBud.out.later HB1.out).keep hk2 hkbb;have hcw:=blk_lt HC.out;have hc2:CkAt w2 c bb {}:=(HC.out.later HB1.out).keep hk2 (show ¬c=k by omega);have hT2:Tab w2:=(HT.out.later HB1.out).keep hk2 (fun e=>by
  have h0:=(HT.out 0 (by decide))
  have:=World.block_lt_of_cell? w _ h0;simp at this;omega)
 have HB2:=Hy hb2;have HC2:=Hy hc2;have HT2:=Hy hT2;have HK2:=Hy hK2;have hhH1:=Hy h1lt;have hHHh:=Hy hHH1;clear hx2 hk2 hK2 hrw hrc hrw1 hb2 hc2 hT2 hkbb HTy h1lt hHH1 hH1;have h1lt:=hhH1;have hHH1:=hHHh;have hz2:Pv.size (Pv.word text)<137438953472:=by unfold Pv.word;have:=size_cat (text.map fun b=>Pv.one (Pv.S4.of [b]));rw[sizes_ones]at this;omega
 clear hhH1 hHHh;have z1:=HX2.out;have c1:w2.cell? ⟨k,1,none⟩=some (Ptr wb_):=cB (o:=1) z1 rfl;have hcb:=HC2.out.ne_bud HB2.out;have hkbb:k≠bb:=by rintro rfl;have h2:=HB2.out.2;rw[HX2.out]at h2;cases h2
 have hsd:=side_any (H:=H1) rw_ wb_ c bb l_ u w2 HT2.out HRW.out HB2.out H1b h1lt.out hz1 hll HC2.out S1 HS1.out;have HSd:=Hy hsd;clear hsd z1;go_wp2_with fail;refine HSd.out.mono ?_;rintro e w3 ⟨s1,rfl,hs1,hS1,hsz1,hc3,⟨u3,hb3⟩,hk3⟩;rw[HL1.out]at hb3;have hx3:=hk3.blk hkbb HX2.out;have c4:w3.cell? ⟨k,4,none⟩=some (.pointer none):=cB (o:=4) hx3 rfl
 have c2:w3.cell? ⟨k,2,none⟩=some (Ptr cb):=cB (o:=2) hx3 rfl;have f4:∀o,w3.frozen? ⟨k,o,none⟩=false:=fun o=>fob hx3
 have hT3:Tab w3:=HT2.out.keep hk3 (fun e=>HT2.out.bud HB2.out e.symm);have hkH:Keep H1 w2 w3:=hk3.wide fun x e=> .inl (by rw[e];exact H1b)
 have HRC3:=Hy (HRC.out.keep hkH);have hsz3:=hk3.size;have HX3:=Hy hx3;have HS3:=Hy hs1;have HC3:=Hy hc3;have HB3:=Hy hb3;have HK3:=Hy hk3;have HT3:=Hy hT3;have HOK1:=Hy hS1;clear hx3 hs1 hc3 hb3 hk3 hT3 hkH HSd c1 hS1;go_wp2_with fail;obtain⟨w4,hw4⟩:∃w4,w3.setCell ⟨k,4,none⟩ (Ptr s1)=w4:=⟨_,rfl⟩
 have hk4:Keep (· = k) w3 w4:=by rw[←hw4];exact Keep.set rfl
 have hx4:w4.heap[k]?=some (.cells (CanC tb (Ptr wb_) (Ptr cb) (.slice none 0 0) (Ptr s1) (.pointer none)) 131):=by rw[←hw4,blk_set HX3.out];rfl
 rw[hw4];clear hw4 c4 f4;have hs4:=HS3.out.keep1 hk4 H1k HX3.out (by decide);have hb4:BudAt w4 bb l1 u3:=HB3.out.keep hk4 (fun e=>hkbb e.symm);have hkc:c≠k:=by rintro rfl;have h2:=HC3.out;unfold CkAt at h2;rw[HX3.out]at h2;cases h2
 have hc4:=HC3.out.keep hk4 hkc;have hT4:Tab w4:=HT3.out.keep hk4 (fun e=>HT3.out.ne_ptr HX3.out rfl e.symm);have hkH4:Keep H1 w3 w4:=hk4.wide fun x e=> .inl (by rw[e];exact H1k)
 have hrc4:=HRC3.out.keep hkH4;have hsz4:=hk4.size;have hsd:=side_any (H:=H1) (Pv.word text) cb c bb l1 u3 w4 hT4 hrc4 hb4 H1b (fun h hh=>by have:=h1lt.out h hh;omega) hz2 hl1l hc4 S2 HS2.out;have HSd:=Hy hsd;have HX4:=Hy hx4;have HS4:=Hy hs4;have HB4:=Hy hb4;have HK4:=Hy hk4;clear hs4 hb4 hc4 hT4 hkH4 hrc4 hsd hx4 hk4;refine HSd.out.mono ?_;rintro e w5 ⟨s2,rfl,hs5,hS2,hsz5,hc5,⟨u5,hb5⟩,hk5⟩
 have hx5:=hk5.blk hkbb HX4.out;have hs1':SideAt H1 w5 S1 s1:=HS4.out.keep1 hk5 H1b HB4.out.2 (by decide);have c5:w5.cell? ⟨k,5,none⟩=some (.pointer none):=cB (o:=5) hx5 rfl;have f5:∀o,w5.frozen? ⟨k,o,none⟩=false:=fun o=>fob hx5
 have HX5:=Hy hx5;have HS5:=Hy hs5;have HS1':=Hy hs1';have HC5:=Hy hc5;have HB5:=Hy hb5;have HK5:=Hy hk5;have HOK2:=Hy hS2;clear hx5 hs5 hs1' hc5 hb5 hk5 HSd c2 hS2;go_wp2_with fail;obtain⟨w6,hw6⟩:∃w6,w5.setCell ⟨k,5,none⟩ (Ptr s2)=w6:=⟨_,rfl⟩
 have hk6:Keep (· = k) w5 w6:=by rw[←hw6];exact Keep.set rfl
 have hx6:w6.heap[k]?=some (.cells (CanC tb (Ptr wb_) (Ptr cb) (.slice none 0 0) (Ptr s1) (Ptr s2)) 131):=by rw[←hw6,blk_set HX5.out];rfl
 rw[hw6];clear hw6 c5 f5;have hok6:=ok_any c bb {} w6 (HC5.out.keep hk6 hkc);have HOk6:=Hy hok6;have HKr:Hid (Keep (fun x=>x=k∨x=bb) w2 w6):=(((HK3.out.wide fun x e=> .inl (.inr e)).trans (HK4.out.wide fun x e=> .inl (.inl e))).trans (HK5.out.wide fun x e=> .inl (.inr e))).trans (hk6.wide fun x e=> .inl (.inl e))
 have hKall:Keep (· = bb) w w6:=(((HK2.out.trans HK3.out).trans_ HK4.out fun x e=> .inr (by rw[e];exact hwk)).trans HK5.out).trans_ hk6 fun x e=> .inr (by rw[e];exact hwk)
 have HFin:Hid (w.heap.size≤k∧w6.heap[k]?=some (.cells (CanC tb (Ptr wb_) (Ptr cb) (.slice none 0 0) (Ptr s1) (Ptr s2)) 131)∧SideAt H w6 S1 s1∧SideAt H w6 S2 s2∧S1.Ok∧S2.Ok∧(∃u',BudAt w6 bb (Pv.side (Pv.word text) l1).1 u')∧Keep (· = bb) w w6):=
  ⟨hwk,hx6,(HS1'.out.keep1 hk6 H1k HX5.out (by decide)).widen fun x h=> .inl (hHH1.out x h),(HS5.out.keep1 hk6 H1k HX5.out (by decide)).widen fun x h=> .inl (hHH1.out x h),HOK1.out,HOK2.out,⟨_,HB5.out.keep hk6 (fun e=>hkbb e.symm)⟩,hKall⟩
 have HRW6:=Hy ((((HRW.out.keep (HK3.out.wide fun x e=> .inl (by rw[e];exact H1b))).keep (HK4.out.wide fun x e=> .inl (by rw[e];exact H1k))).keep (HK5.out.wide fun x e=> .inl (by rw[e];exact H1b))).keep (hk6.wide fun x e=> .inl (by rw[e];exact H1k)))
 have HRC6:=Hy (((HRC3.out.keep (HK4.out.wide fun x e=> .inl (by rw[e];exact H1k))).keep (HK5.out.wide fun x e=> .inl (by rw[e];exact H1b))).keep (hk6.wide fun x e=> .inl (by rw[e];exact H1k)));clear hk6 hx6 hok6 hKall;go_wp2_with fail;refine HOk6.out.mono ?_;rintro e w' ⟨rfl,rfl⟩;go_wp2_with fail;go_ret;exact⟨k,s1,s2,cb,rfl,HRC6.out.widen fun x h=> .inl (hHH1.out x h),HFin.out⟩
end Go.Proofs.YtamkfdlcdiadlaaGreatDoor
