/- Terms made by plans of law 17. -/
import Derived.Test.YtamkfdlcdiadlaaGreatDoorKb05
import Derived.Test.YtamkfdlcdiadlaaGreatDoorKb35
import Derived.Test.YtamkfdlcdiadlaaGreatDoorKb12
set_option linter.all false
namespace Go.Proofs.YtamkfdlcdiadlaaGreatDoor
open Go.RowKit Go.Maps
open _root_.Pv (P10)
variable {H:Nat→Prop}
theorem blk_cell {w:World}{b o:Nat}{v:Value}{cs:Array Value}{t:TypeId}{fr:Nat × Nat}(h:w.heap[b]?=some (.cells cs t fr))(hc:w.cell? ⟨b,o,none⟩=some v):cs[o]?=some v:=by simpa [World.cell?,h] using hc
def NoPl (w:World)(b:Nat):Prop:=∀(off:Nat) (i j k:Int),w.cell? ⟨b,off,none⟩=some (.int .i64 i)→w.cell? ⟨b,off+1,none⟩=some (.int .i64 j)→w.cell? ⟨b,off+2,none⟩=some (.int .i64 k)→False
mutual
theorem PlAt.keepG {G:Nat→Prop}{w w':World}(hb:Keep G w w')(hx:∀b,G b→NoPl w b):∀ {p:P10} {blk off:Nat},PlAt w p blk off→PlAt w' p blk off
 | .mk o y n ks,blk,off,h=>by
   unfold PlAt at *;obtain⟨a,c,b',o',h0,h1,h2,h3,h4,h5,h6⟩:=h;have hne:¬G blk:=fun e=>hx _ e _ _ _ _ h0 h1 h2
   exact⟨a,c,b',o',hb.cell hne h0,hb.cell hne h1,hb.cell hne h2,hb.cell hne h3,h4,h5,PlsAt.keepG hb hx h6⟩
theorem PlsAt.keepG {G:Nat→Prop}{w w':World}(hb:Keep G w w')(hx:∀b,G b→NoPl w b):∀ {ps:List P10} {blk off:Nat},PlsAt w ps blk off→PlsAt w' ps blk off
 | [],_,_,_=>by unfold PlsAt;trivial
 | p::ps,_,_,h=>by unfold PlsAt at *;exact⟨PlAt.keepG hb hx h.1,PlsAt.keepG hb hx h.2⟩
end
theorem PlV.keepG {G:Nat→Prop}{w w':World}(hb:Keep G w w')(hx:∀b,G b→NoPl w b){p:P10}{v:Value}(h:PlV w p v):PlV w' p v:=by obtain⟨a,c,b',o',h1,h2,h3,h4⟩:=h;exact⟨a,c,b',o',h1,h2,h3,h4.keepG hb hx⟩
theorem noPl_one {w:World}{b:Nat}{x:Value}{t:TypeId}(h:w.heap[b]?=some (.cells #[x] t)):NoPl w b:=fun off i j k _ h1 _=>by have:=blk_cell h h1;simp at this
theorem noPl_term {w:World}{b:Nat}{op at_:Int}{rv kv:Value}{nm tx bk:List UInt8}(h:w.heap[b]?=some (.cells #[.int .i64 op,.int .i64 at_,Str nm,rv,Str tx,Str bk,kv] 62)):NoPl w b:=fun off i j k h0 h1 h2=>by
 have c0:=blk_cell h h0;have c1:=blk_cell h h1;have c2:=blk_cell h h2
 match off with
 | 0=>simp at c2
 | 1=>simp at c1
 | 2=>simp at c0
 | 3=>simp at c1
 | 4=>simp at c0
 | 5=>simp at c0
 | n+6=>simp at c1
theorem PlV.keepA {w w':World}{ab:Nat}{x:Value}{t:TypeId}(hb:Keep (· = ab) w w')(hx:w.heap[ab]?=some (.cells #[x] t)){p:P10}{v:Value}(h:PlV w p v):PlV w' p v:=
 h.keepG hb fun b e=>by rw[e];exact noPl_one hx
theorem kind_wrap (p:P10):wrap64 ((IntKind.u64.wrap p.op).tmod 5)=(P10.kind p:Int):=by
 have h1:IntKind.u64.wrap p.op=p.op % 18446744073709551616:=by simp[IntKind.wrap,IntKind.bits,IntKind.signed]
 rw[h1,Int.tmod_eq_emod_of_nonneg (by omega)];unfold P10.kind;have h2:wrap64 (p.op % 18446744073709551616 % 5)=p.op % 18446744073709551616 % 5:=by unfold wrap64;omega
 rw[h2];omega
def CtAt (w:World)(ab n:Nat):Prop:=w.heap[ab]?=some (.cells #[.int .i64 (n:Int)] 3)
def needN (p:P10):Nat:=if P10.kind p<2 then 1 else 3*P10.nodes p
theorem needN_le (p:P10):needN p≤3*P10.nodes p:=by have:=P10.nodes_pos p;unfold needN;split<;>omega
theorem needN_kid (p:P10)(i:Nat):needN (kidP p i)≤(if h:i<p.kids.length then 3*P10.nodes p.kids[i] else 1):=by
 unfold kidP;split
 ·rename_i h;rw[List.getElem?_eq_getElem h];exact needN_le _
 ·rename_i h;rw[List.getElem?_eq_none (by omega)];decide
theorem need_two (p:P10):needN (kidP p 0)+needN (kidP p 1)+1≤3*P10.nodes p:=by
 have h:=nodes_eq p;have k0:=needN_kid p 0;have k1:=needN_kid p 1;split at k0
 ·rename_i h0;split at k1
  ·rename_i h1;have:=P10.nodes_get2 h1;omega
  ·have:=P10.nodes_get h0;omega
 ·split at k1
  ·omega
  ·omega
theorem need_one (p:P10):needN (kidP p 0)+1≤3*P10.nodes p:=by
 have h:=nodes_eq p;have k0:=needN_kid p 0;split at k0
 ·rename_i h0;have:=P10.nodes_get h0;omega
 ·omega
theorem kid_less (p:P10)(i m:Nat)(hm:P10.nodesL p.kids≤m):P10.kind (kidP p i)<2∨P10.nodes (kidP p i)≤m:=by
 unfold kidP;by_cases h:i<p.kids.length
 ·rw[List.getElem?_eq_getElem h];have:=P10.nodes_get h;exact .inr (by simp only[Option.getD_some];omega)
 ·rw[List.getElem?_eq_none (by omega)];exact .inl (by decide)
def MadeK (H:Nat→Prop)(ab lo:Nat)(p:P10)(w:World)(e:Ending)(w':World):Prop:=∃(t:Pv.T) (b hi:Nat),e = .returned (Ptr b)∧Pv.CG t∧Pv.Ats t lo hi∧Pv.tsize t≤needN p∧TAt H w' t b∧CtAt w' ab hi∧w.heap.size≤b∧Keep (· = ab) w w'
abbrev tK (op at_:Int)(rv:Value)(tx:List UInt8)(kv:Value):Array Value:=#[.int .i64 op,.int .i64 at_,Str [],rv,Str tx,Str [],kv]
def Makes17 (m:Nat):Prop:=∀(H:Nat→Prop) (q:P10) (v:Value) (ab lo:Nat) (W:World),(P10.kind q<2∨P10.nodes q≤m)→PlV W q v→CtAt W ab lo→H ab→(∀h,H h→h<W.heap.size)→lo+needN q<1099511627776 →
 Calls Tryz.prog 11 #[v,Ptr ab] W (MadeK H ab lo q W)
theorem made17_leaf {p:P10}{ab lo op tb rb:Nat}{r:Pv.R}{tx:List UInt8}{w w':World}(hc:w'.heap[tb]?=some (.cells (tK op ((lo:Int)+1) (Ptr rb) tx (.slice none 0 0)) 62))(hr:ReAt H w' r rb)(hop:op=16∨op=17)(hrx:r∈Pv.exL)(htx:tx∈Pv.txL)
  (hct:w'.heap[ab]?=some (.cells #[.int .i64 ((lo:Int)+1)] 3)) (htb:w.heap.size≤tb) (hH:∀h,H h→h<w.heap.size) (hk:Keep (· = ab) w w'):MadeK H ab lo p w (.returned (Ptr tb)) w':=by
 have hn:=P10.nodes_pos p;refine⟨.mk op (((lo+1:Nat)):Int) [] (some r) tx [] [],tb,lo+1,rfl,?_,?_,?_,?_,?_,htb,hk⟩
 ·unfold Pv.CG;refine⟨by rcases hop with e|e<;>rw[e]<;>rfl,by rcases hop with e|e<;>rw[e]<;>rfl,(fun x e=>by cases e;exact hrx),htx,rfl,rfl,by unfold Pv.CGs;trivial⟩
 ·unfold Pv.Ats Pv.AtsL;exact⟨rfl,rfl⟩
 ·simp only[Pv.tsize,Pv.tsizes];unfold needN;split<;>omega
 ·refine TAt.mk_ (a:=none) (c:=0) (bs:=[]) (fun h=>by have:=hH _ h;omega) ⟨rb,rfl,hr⟩ (fun _ _ e=>by cases e) ?_ (Sl.nil _) TsAt.nil;unfold TermAt;exact hc
 ·unfold CtAt;exact hct
theorem PlV.keepT {w w':World}{tb:Nat}{op at_:Int}{rv:Value}{tx:List UInt8}{kv:Value}(hb:Keep (· = tb) w w')(hx:w.heap[tb]?=some (.cells (tK op at_ rv tx kv) 62)){p:P10}{v:Value}(h:PlV w p v):PlV w' p v:=
 h.keepG hb fun b e=>by rw[e];exact noPl_term hx
set_option maxRecDepth 20000 in
theorem make17_0 (p:P10)(v:Value)(ab lo:Nat)(w:World)(hv:PlV w p v)(hop:P10.kind p=0)(hab:CtAt w ab lo)(hHa:H ab)(hH:∀h,H h→h<w.heap.size)(hlo:lo+1<1099511627776):Calls Tryz.prog 11 #[v,Ptr ab] w (MadeK H ab lo p w):=by
 have HV:=Hy hv;obtain⟨a,c,b',o',rfl,ha,hkl,hks⟩:=hv;have HH:=Hy hH;have hkw:wrap64 ((IntKind.u64.wrap p.op).tmod 5)=0:=by have h:=kind_wrap p;rw[hop]at h;exact h
 have hlo':(lo:Int)<1099511627776:=by omega
 have HA:=Hy hab;have a0:w.cell? ⟨ab,0,none⟩=some (.int .i64 (lo:Int)):=cB (o:=0) hab rfl;have fra:∀o,w.frozen? ⟨ab,o,none⟩=false:=fun o=>fob hab
 have habl:=blk_lt hab;clear hH ha hks hab;go_enter Tryz.func11,Tryz.ntmps11;go_upto_region 2 with fail
 clear a0 fra;obtain⟨pb,hpb⟩:∃n,w.heap.size=n:=⟨_,rfl⟩
 obtain⟨w1,hw1⟩:∃w1,(w.setCell ⟨ab,0,none⟩ (.int .i64 ((lo:Int)+1))).alloc (.cells #[.int .i64 p.op,.int .i64 p.w,.int .i64 p.n,.slice a p.kids.length c] 24)=w1:=⟨_,rfl⟩
 have hk1:Keep (· = ab) w w1:=by rw[←hw1];exact(Keep.set (H:=(· = ab)) rfl).trans (Keep.alloc _ _)
 have hp1:w1.heap[pb]?=some (.cells #[.int .i64 p.op,.int .i64 p.w,.int .i64 p.n,.slice a p.kids.length c] 24):=by rw[←hw1];exact blk_new (by simpa using hpb)
 have ha1:w1.heap[ab]?=some (.cells #[.int .i64 ((lo:Int)+1)] 3):=by rw[←hw1];refine blk_old ?_;rw[blk_set HA.out];rfl
 have hv1:PlV w1 p (.agg #[.int .i64 p.op,.int .i64 p.w,.int .i64 p.n,.slice a p.kids.length c]):=HV.out.keepA hk1 HA.out;rw[hpb,hw1];clear hw1;have a1:w1.cell? ⟨ab,0,none⟩=some (.int .i64 ((lo:Int)+1)):=cB (o:=0) ha1 rfl;have HK1:=Hy hk1;have HP1:=Hy hp1;have HA1:=Hy ha1;have HV1:=Hy hv1;clear hk1 hp1 ha1 hv1 HV HA;go_upto_region 3 with fail
 obtain⟨tb,htb⟩:∃n,w1.heap.size=n:=⟨_,rfl⟩
 obtain⟨w2,hw2⟩:∃w2,w1.alloc (.cells (tK 0 ((lo:Int)+1) (.pointer none) [] (.slice none 0 0)) 62)=w2:=⟨_,rfl⟩
 have hb2:Below w1.heap.size w1 w2:=by rw[←hw2];exact(Below.refl _ _).alloc (Nat.le_refl _) _
 have ht2:w2.heap[tb]?=some (.cells (tK 0 ((lo:Int)+1) (.pointer none) [] (.slice none 0 0)) 62):=by rw[←hw2];exact blk_new htb
 have hwtb:w.heap.size≤tb:=by have:=HK1.out.size;omega
 have hptb:pb≠tb:=by have:=blk_lt HP1.out;omega
 have hatb:ab≠tb:=by have:=blk_lt HA1.out;omega
 have HT:=Hy ht2;have HP:=Hy (later_blk hb2 HP1.out);have HA:=Hy (later_blk hb2 HA1.out);have HV:=Hy (HV1.out.later hb2);have HK:=Hy (HK1.out.trans (Keep.of_below hb2));rw[htb];rw[hw2];clear hw2 hb2 ht2 a1 HK1 HP1 HA1 HV1;have hH2:∀h,(H h∨h=tb)→h<w2.heap.size:=fun h hh=>by
  rcases hh with hh|hh
  ·have h1:=HH.out h hh;have h2:=HK.out.size;omega
  ·have h1:=blk_lt HT.out;omega
 have HH2:=Hy hH2;clear hH2;have HT2:=Hy HT.out;have x0:w2.cell? ⟨tb,0,none⟩=some (.int .i64 0):=cB (o:=0) HT.out rfl;have fr:∀o,w2.frozen? ⟨tb,o,none⟩=false:=fun o=>fob HT.out
 have p0:w2.cell? ⟨pb,0,none⟩=some (.int .i64 p.op):=cB (o:=0) HP.out rfl;go_upto_region 6 with fail
 obtain⟨w3,hw3⟩:∃w3,w2.setCell ⟨tb,0,none⟩ (.int .i64 16)=w3:=⟨_,rfl⟩
 have hk3:Keep (· = tb) w2 w3:=by rw[←hw3];exact Keep.set (H:=(· = tb)) rfl
 have ht3:w3.heap[tb]?=some (.cells (tK 16 ((lo:Int)+1) (.pointer none) [] (.slice none 0 0)) 62):=by rw[←hw3];exact(by rw[blk_set HT2.out];rfl)
 rw[hw3];clear hw3 x0 fr p0;have hsz3:=hk3.size;replace HT:=Hy ht3;replace HP:=Hy (hk3.blk hptb HP.out);replace HA:=Hy (hk3.blk hatb HA.out);replace HV:=Hy (HV.out.keepT hk3 HT2.out);replace HK:=Hy (HK.out.trans_ hk3 fun x e=> .inr (by rw[e];exact hwtb));clear hk3 ht3;have p1:w3.cell? ⟨pb,1,none⟩=some (.int .i64 p.w):=cB (o:=1) HP.out rfl
 have p2:w3.cell? ⟨pb,2,none⟩=some (.int .i64 p.n):=cB (o:=2) HP.out rfl;go_wp2_with fail;refine(exprH_any (H:=fun x=>H x∨x=tb) p.w w3 (fun h hh=>by have:=HH2.out h hh;omega)).mono ?_;rintro e w4 ⟨rb,rfl,hr,hb⟩;replace HT:=Hy (later_blk hb HT.out);replace HP:=Hy (later_blk hb HP.out);replace HA:=Hy (later_blk hb HA.out);replace HK:=Hy (HK.out.trans (Keep.of_below hb));have HR:=Hy hr
 clear hr hb p1 p2;have x3:w4.cell? ⟨tb,3,none⟩=some (.pointer none):=cB (o:=3) HT.out rfl;have fr:∀o,w4.frozen? ⟨tb,o,none⟩=false:=fun o=>fob HT.out
 go_upto_region 19 with fail
 obtain⟨w5,hw5⟩:∃w5,w4.setCell ⟨tb,3,none⟩ (Ptr rb)=w5:=⟨_,rfl⟩
 have hk5:Keep (· = tb) w4 w5:=by rw[←hw5];exact Keep.set rfl
 have ht5:w5.heap[tb]?=some (.cells (tK 16 ((lo:Int)+1) (Ptr rb) [] (.slice none 0 0)) 62):=by rw[←hw5,blk_set HT.out];rfl
 rw[hw5];clear hw5 x3 fr;replace HT:=Hy ht5;replace HP:=Hy (hk5.blk hptb HP.out);replace HA:=Hy (hk5.blk hatb HA.out);replace HR:=Hy (HR.out.keep (hk5.wide fun x e=> .inl (.inr e)));have hsz5:=hk5.size;replace HK:=Hy (HK.out.trans_ hk5 fun x e=> .inr (by rw[e];exact hwtb));clear hk5 ht5;go_wp2_with fail
 refine bodyPost_ret (v:=Ptr tb) ?_ rfl (made17_leaf HT.out (HR.out.widen fun x h=> .inl (.inl h)) (.inl rfl) (Pv.exOf_mem _) (by decide) HA.out hwtb HH.out HK.out);simp[results,Tryz.results11,go_sem]
set_option maxRecDepth 20000 in
theorem make17_1 (p:P10)(v:Value)(ab lo:Nat)(w:World)(hv:PlV w p v)(hop:P10.kind p=1)(hab:CtAt w ab lo)(hHa:H ab)(hH:∀h,H h→h<w.heap.size)(hlo:lo+1<1099511627776):Calls Tryz.prog 11 #[v,Ptr ab] w (MadeK H ab lo p w):=by
 have HV:=Hy hv;obtain⟨a,c,b',o',rfl,ha,hkl,hks⟩:=hv;have HH:=Hy hH;have hkw:wrap64 ((IntKind.u64.wrap p.op).tmod 5)=1:=by have h:=kind_wrap p;rw[hop]at h;exact h
 have hlo':(lo:Int)<1099511627776:=by omega
 have HA:=Hy hab;have a0:w.cell? ⟨ab,0,none⟩=some (.int .i64 (lo:Int)):=cB (o:=0) hab rfl;have fra:∀o,w.frozen? ⟨ab,o,none⟩=false:=fun o=>fob hab
 have habl:=blk_lt hab;clear hH ha hks hab;go_enter Tryz.func11,Tryz.ntmps11;go_upto_region 2 with fail
 clear a0 fra;obtain⟨pb,hpb⟩:∃n,w.heap.size=n:=⟨_,rfl⟩
 obtain⟨w1,hw1⟩:∃w1,(w.setCell ⟨ab,0,none⟩ (.int .i64 ((lo:Int)+1))).alloc (.cells #[.int .i64 p.op,.int .i64 p.w,.int .i64 p.n,.slice a p.kids.length c] 24)=w1:=⟨_,rfl⟩
 have hk1:Keep (· = ab) w w1:=by rw[←hw1];exact(Keep.set (H:=(· = ab)) rfl).trans (Keep.alloc _ _)
 have hp1:w1.heap[pb]?=some (.cells #[.int .i64 p.op,.int .i64 p.w,.int .i64 p.n,.slice a p.kids.length c] 24):=by rw[←hw1];exact blk_new (by simpa using hpb)
 have ha1:w1.heap[ab]?=some (.cells #[.int .i64 ((lo:Int)+1)] 3):=by rw[←hw1];refine blk_old ?_;rw[blk_set HA.out];rfl
 have hv1:PlV w1 p (.agg #[.int .i64 p.op,.int .i64 p.w,.int .i64 p.n,.slice a p.kids.length c]):=HV.out.keepA hk1 HA.out;rw[hpb,hw1];clear hw1;have a1:w1.cell? ⟨ab,0,none⟩=some (.int .i64 ((lo:Int)+1)):=cB (o:=0) ha1 rfl;have HK1:=Hy hk1;have HP1:=Hy hp1;have HA1:=Hy ha1;have HV1:=Hy hv1;clear hk1 hp1 ha1 hv1 HV HA;go_upto_region 3 with fail
 obtain⟨tb,htb⟩:∃n,w1.heap.size=n:=⟨_,rfl⟩
 obtain⟨w2,hw2⟩:∃w2,w1.alloc (.cells (tK 0 ((lo:Int)+1) (.pointer none) [] (.slice none 0 0)) 62)=w2:=⟨_,rfl⟩
 have hb2:Below w1.heap.size w1 w2:=by rw[←hw2];exact(Below.refl _ _).alloc (Nat.le_refl _) _
 have ht2:w2.heap[tb]?=some (.cells (tK 0 ((lo:Int)+1) (.pointer none) [] (.slice none 0 0)) 62):=by rw[←hw2];exact blk_new htb
 have hwtb:w.heap.size≤tb:=by have:=HK1.out.size;omega
 have hptb:pb≠tb:=by have:=blk_lt HP1.out;omega
 have hatb:ab≠tb:=by have:=blk_lt HA1.out;omega
 have HT:=Hy ht2;have HP:=Hy (later_blk hb2 HP1.out);have HA:=Hy (later_blk hb2 HA1.out);have HV:=Hy (HV1.out.later hb2);have HK:=Hy (HK1.out.trans (Keep.of_below hb2));rw[htb];rw[hw2];clear hw2 hb2 ht2 a1 HK1 HP1 HA1 HV1;have hH2:∀h,(H h∨h=tb)→h<w2.heap.size:=fun h hh=>by
  rcases hh with hh|hh
  ·have h1:=HH.out h hh;have h2:=HK.out.size;omega
  ·have h1:=blk_lt HT.out;omega
 have HH2:=Hy hH2;clear hH2;have HT2:=Hy HT.out;have x0:w2.cell? ⟨tb,0,none⟩=some (.int .i64 0):=cB (o:=0) HT.out rfl;have fr:∀o,w2.frozen? ⟨tb,o,none⟩=false:=fun o=>fob HT.out
 have p0:w2.cell? ⟨pb,0,none⟩=some (.int .i64 p.op):=cB (o:=0) HP.out rfl;go_upto_region 9 with fail
 obtain⟨w3,hw3⟩:∃w3,w2.setCell ⟨tb,0,none⟩ (.int .i64 17)=w3:=⟨_,rfl⟩
 have hk3:Keep (· = tb) w2 w3:=by rw[←hw3];exact Keep.set (H:=(· = tb)) rfl
 have ht3:w3.heap[tb]?=some (.cells (tK 17 ((lo:Int)+1) (.pointer none) [] (.slice none 0 0)) 62):=by rw[←hw3];exact(by rw[blk_set HT2.out];rfl)
 rw[hw3];clear hw3 x0 fr p0;have hsz3:=hk3.size;replace HT:=Hy ht3;replace HP:=Hy (hk3.blk hptb HP.out);replace HA:=Hy (hk3.blk hatb HA.out);replace HV:=Hy (HV.out.keepT hk3 HT2.out);replace HK:=Hy (HK.out.trans_ hk3 fun x e=> .inr (by rw[e];exact hwtb));clear hk3 ht3;have p1:w3.cell? ⟨pb,1,none⟩=some (.int .i64 p.w):=cB (o:=1) HP.out rfl
 have p2:w3.cell? ⟨pb,2,none⟩=some (.int .i64 p.n):=cB (o:=2) HP.out rfl;go_wp2_with fail;refine(exprH_any (H:=fun x=>H x∨x=tb) p.w w3 (fun h hh=>by have:=HH2.out h hh;omega)).mono ?_;rintro e w4 ⟨rb,rfl,hr,hb⟩;replace HT:=Hy (later_blk hb HT.out);replace HP:=Hy (later_blk hb HP.out);replace HA:=Hy (later_blk hb HA.out);replace HK:=Hy (HK.out.trans (Keep.of_below hb));have HR:=Hy hr
 clear hr hb p1 p2;have x3:w4.cell? ⟨tb,3,none⟩=some (.pointer none):=cB (o:=3) HT.out rfl;have fr:∀o,w4.frozen? ⟨tb,o,none⟩=false:=fun o=>fob HT.out
 go_upto_region 10 with fail
 obtain⟨w5,hw5⟩:∃w5,w4.setCell ⟨tb,3,none⟩ (Ptr rb)=w5:=⟨_,rfl⟩
 have hk5:Keep (· = tb) w4 w5:=by rw[←hw5];exact Keep.set rfl
 have ht5:w5.heap[tb]?=some (.cells (tK 17 ((lo:Int)+1) (Ptr rb) [] (.slice none 0 0)) 62):=by rw[←hw5,blk_set HT.out];rfl
 rw[hw5];clear hw5 x3 fr;replace HT:=Hy ht5;replace HP:=Hy (hk5.blk hptb HP.out);replace HA:=Hy (hk5.blk hatb HA.out);replace HR:=Hy (HR.out.keep (hk5.wide fun x e=> .inl (.inr e)));have hsz5:=hk5.size;replace HK:=Hy (HK.out.trans_ hk5 fun x e=> .inr (by rw[e];exact hwtb));clear hk5 ht5;have p2:w5.cell? ⟨pb,2,none⟩=some (.int .i64 p.n):=cB (o:=2) HP.out rfl;go_wp2_with fail
 refine(text17_any _ w5).mono ?_;rintro e w6 ⟨⟨l,rfl,hl⟩,hb⟩;replace HT:=Hy (later_blk hb HT.out);replace HA:=Hy (later_blk hb HA.out);replace HK:=Hy (HK.out.trans (Keep.of_below hb));replace HR:=Hy (HR.out.later hb);clear hb p2;have x4:w6.cell? ⟨tb,4,none⟩=some (Str []):=cB (o:=4) HT.out rfl;have fr:∀o,w6.frozen? ⟨tb,o,none⟩=false:=fun o=>fob HT.out
 go_upto_region 19 with fail
 obtain⟨w7,hw7⟩:∃w7,w6.setCell ⟨tb,4,none⟩ (Str l)=w7:=⟨_,rfl⟩
 have hk7:Keep (· = tb) w6 w7:=by rw[←hw7];exact Keep.set rfl
 have ht7:w7.heap[tb]?=some (.cells (tK 17 ((lo:Int)+1) (Ptr rb) l (.slice none 0 0)) 62):=by rw[←hw7,blk_set HT.out];rfl
 rw[hw7];clear hw7 x4 fr;go_wp2_with fail;refine bodyPost_ret (v:=Ptr tb) ?_ rfl (made17_leaf ht7 ((HR.out.keep (hk7.wide fun x e=> .inl (.inr e))).widen fun x h=> .inl (.inl h)) (.inr rfl) (Pv.exOf_mem _) hl (hk7.blk hatb HA.out) hwtb HH.out (HK.out.trans_ hk7 fun x e=> .inr (by rw[e];exact hwtb)));simp[results,Tryz.results11,go_sem]
theorem made17_kids {p:P10}{ab lo hi op tb g:Nat}{ks:List Pv.T}{bs:List Nat}{w w':World}(hc:w'.heap[tb]?=some (.cells (tK op ((lo:Int)+1) (.pointer none) [] (.slice (some ⟨g,0,none⟩) bs.length bs.length)) 62))(hg:w'.heap[g]?=some (.cells (bs.map Ptr).toArray 26))
  (hks:TsAt H w' ks bs) (hgk:Pv.CGs ks) (hat:Pv.AtsL ks (lo+1) hi) (hsz:Pv.tsizes ks+1≤3*P10.nodes p) (hk2:¬P10.kind p<2) (ho:Pv.isCanonOp op=true) (hs:Pv.shapedOf op false ks.length=true) (hbl:bs.length≤2)
  (hct:CtAt w' ab hi) (htb:w.heap.size≤tb) (hgb:w.heap.size≤g) (hH:∀h,H h→h<w.heap.size) (hk:Keep (· = ab) w w'):MadeK H ab lo p w (.returned (Ptr tb)) w':=by
 have hrow:Row w.heap.size 26 w' (.slice (some ⟨g,0,none⟩) bs.length bs.length) (bs.map Ptr):=by have:=Row.of_blk (base:=w.heap.size) (w:=w') (xs:=bs.map Ptr) hgb hg (by unfold maxLen;simp;omega);simpa using this
 obtain⟨a,c,e1,e2,_⟩:=hrow.form;simp only[List.length_map,Value.slice.injEq,true_and]at e1;obtain⟨rfl,rfl⟩:=e1;refine⟨.mk op (((lo+1:Nat)):Int) [] none [] [] ks,tb,hi,rfl,?_,?_,?_,?_,hct,htb,hk⟩
 ·unfold Pv.CG;exact⟨ho,hs,(fun _ h=>by cases h),by decide,rfl,rfl,hgk⟩
 ·unfold Pv.Ats;exact⟨rfl,hat⟩
 ·simp only[Pv.tsize];unfold needN;rw[if_neg hk2];omega
 ·refine TAt.mk_ (fun h=>by have:=hH _ h;omega) rfl (fun blk off e=>by cases e;exact⟨fun h=>by have:=hH _ h;omega,blk_lt hg⟩) ?_ e2 hks;unfold TermAt;exact hc
set_option maxRecDepth 20000 in
theorem make17_2 (m:Nat)(hmake:Makes17 m)(p:P10)(hm:P10.nodesL p.kids≤m)(v:Value)(ab lo:Nat)(w:World)(hv:PlV w p v)(hop:P10.kind p=2)(hab:CtAt w ab lo)(hHa:H ab)(hH:∀h,H h→h<w.heap.size)(hlo:lo+3*P10.nodes p<1099511627776):Calls Tryz.prog 11 #[v,Ptr ab] w (MadeK H ab lo p w):=by
 have hnp:=P10.nodes_pos p;have HV:=Hy hv;obtain⟨a,c,b',o',rfl,ha,hkl,hks⟩:=hv;have HH:=Hy hH;have hkw:wrap64 ((IntKind.u64.wrap p.op).tmod 5)=2:=by have h:=kind_wrap p;rw[hop]at h;exact h
 have hlo':(lo:Int)<1099511627776:=by omega
 have HA:=Hy hab;have a0:w.cell? ⟨ab,0,none⟩=some (.int .i64 (lo:Int)):=cB (o:=0) hab rfl;have fra:∀o,w.frozen? ⟨ab,o,none⟩=false:=fun o=>fob hab
 have habl:=blk_lt hab;clear hH ha hks hab;go_enter Tryz.func11,Tryz.ntmps11;go_upto_region 2 with fail
 clear a0 fra;obtain⟨pb,hpb⟩:∃n,w.heap.size=n:=⟨_,rfl⟩
 obtain⟨w1,hw1⟩:∃w1,(w.setCell ⟨ab,0,none⟩ (.int .i64 ((lo:Int)+1))).alloc (.cells #[.int .i64 p.op,.int .i64 p.w,.int .i64 p.n,.slice a p.kids.length c] 24)=w1:=⟨_,rfl⟩
 have hk1:Keep (· = ab) w w1:=by rw[←hw1];exact(Keep.set (H:=(· = ab)) rfl).trans (Keep.alloc _ _)
 have hp1:w1.heap[pb]?=some (.cells #[.int .i64 p.op,.int .i64 p.w,.int .i64 p.n,.slice a p.kids.length c] 24):=by rw[←hw1];exact blk_new (by simpa using hpb)
 have ha1:w1.heap[ab]?=some (.cells #[.int .i64 ((lo:Int)+1)] 3):=by rw[←hw1];refine blk_old ?_;rw[blk_set HA.out];rfl
 have hv1:PlV w1 p (.agg #[.int .i64 p.op,.int .i64 p.w,.int .i64 p.n,.slice a p.kids.length c]):=HV.out.keepA hk1 HA.out;rw[hpb,hw1];clear hw1;have a1:w1.cell? ⟨ab,0,none⟩=some (.int .i64 ((lo:Int)+1)):=cB (o:=0) ha1 rfl;have HK1:=Hy hk1;have HP1:=Hy hp1;have HA1:=Hy ha1;have HV1:=Hy hv1;clear hk1 hp1 ha1 hv1 HV HA;go_upto_region 3 with fail
 obtain⟨tb,htb⟩:∃n,w1.heap.size=n:=⟨_,rfl⟩
 obtain⟨w2,hw2⟩:∃w2,w1.alloc (.cells (tK 0 ((lo:Int)+1) (.pointer none) [] (.slice none 0 0)) 62)=w2:=⟨_,rfl⟩
 have hb2:Below w1.heap.size w1 w2:=by rw[←hw2];exact(Below.refl _ _).alloc (Nat.le_refl _) _
 have ht2:w2.heap[tb]?=some (.cells (tK 0 ((lo:Int)+1) (.pointer none) [] (.slice none 0 0)) 62):=by rw[←hw2];exact blk_new htb
 have hwtb:w.heap.size≤tb:=by have:=HK1.out.size;omega
 have hptb:pb≠tb:=by have:=blk_lt HP1.out;omega
 have hatb:ab≠tb:=by have:=blk_lt HA1.out;omega
 have HT:=Hy ht2;have HP:=Hy (later_blk hb2 HP1.out);have HA:=Hy (later_blk hb2 HA1.out);have HV:=Hy (HV1.out.later hb2);have HK:=Hy (HK1.out.trans (Keep.of_below hb2));rw[htb];rw[hw2];clear hw2 hb2 ht2 a1 HK1 HP1 HA1 HV1;have hH2:∀h,(H h∨h=tb)→h<w2.heap.size:=fun h hh=>by
  rcases hh with hh|hh
  ·have h1:=HH.out h hh;have h2:=HK.out.size;omega
  ·have h1:=blk_lt HT.out;omega
 have HH2:=Hy hH2;clear hH2;have HMk:=Hy hmake;clear hmake;have HT2:=Hy HT.out;have x0:w2.cell? ⟨tb,0,none⟩=some (.int .i64 0):=cB (o:=0) HT.out rfl;have fr:∀o,w2.frozen? ⟨tb,o,none⟩=false:=fun o=>fob HT.out
 have p0:w2.cell? ⟨pb,0,none⟩=some (.int .i64 p.op):=cB (o:=0) HP.out rfl;have q0:(w2.alloc (.cells #[.int .i64 7,.int .i64 8] 35)).cell? ⟨pb,0,none⟩=some (.int .i64 p.op):=cB (o:=0) (blk_old HP.out) rfl;have q1:(w2.alloc (.cells #[.int .i64 7,.int .i64 8] 35)).cell? ⟨tb,0,none⟩=some (.int .i64 0):=cB (o:=0) (blk_old HT.out) rfl
 have q2:∀o,(w2.alloc (.cells #[.int .i64 7,.int .i64 8] 35)).frozen? ⟨tb,o,none⟩=false:=fun o=>fob (blk_old HT.out)
 have q3:(w2.alloc (.cells #[.int .i64 7,.int .i64 8] 35)).cell? ⟨w2.heap.size,0,none⟩=some (.int .i64 7):=cB (o:=0) (blk_new rfl) rfl;have q4:(w2.alloc (.cells #[.int .i64 7,.int .i64 8] 35)).cell? ⟨w2.heap.size,1,none⟩=some (.int .i64 8):=cB (o:=1) (blk_new rfl) rfl;have htl:=blk_lt HT.out;have hpl:=blk_lt HP.out;go_upto_region 14 with fail
 obtain⟨w3,hw3⟩:∃w3,(w2.setCell ⟨tb,0,none⟩ (.int .i64 7)).alloc (.cells #[.int .i64 7,.int .i64 8] 35)=w3:=⟨_,rfl⟩
 have hk3:Keep (· = tb) w2 w3:=by rw[←hw3];exact(Keep.set (H:=(· = tb)) rfl).trans (Keep.alloc _ _)
 have ht3:w3.heap[tb]?=some (.cells (tK 7 ((lo:Int)+1) (.pointer none) [] (.slice none 0 0)) 62):=by rw[←hw3];exact(blk_old (by rw[blk_set HT2.out];rfl))
 rw[hw3];clear hw3 x0 fr p0;have hsz3:=hk3.size;replace HT:=Hy ht3;replace HP:=Hy (hk3.blk hptb HP.out);replace HA:=Hy (hk3.blk hatb HA.out);replace HV:=Hy (HV.out.keepT hk3 HT2.out);replace HK:=Hy (HK.out.trans_ hk3 fun x e=> .inr (by rw[e];exact hwtb));clear hk3 ht3;have p1:w3.cell? ⟨pb,1,none⟩=some (.int .i64 p.w):=cB (o:=1) HP.out rfl
 have hpab:¬pb=ab:=fun e=>by have h1:=HP.out;rw[e,HA.out]at h1;simp at h1
 clear p1;have p0:w3.cell? ⟨pb,0,none⟩=some (.int .i64 p.op):=cB (o:=0) HP.out rfl;have p1:w3.cell? ⟨pb,1,none⟩=some (.int .i64 p.w):=cB (o:=1) HP.out rfl;have p2:w3.cell? ⟨pb,2,none⟩=some (.int .i64 p.n):=cB (o:=2) HP.out rfl;have p3:w3.cell? ⟨pb,3,none⟩=some (.slice a p.kids.length c):=cB (o:=3) HP.out rfl;go_wp2_with fail;refine(kid17_any p _ 0 (by omega) w3 HV.out).mono ?_
 rintro e w4 ⟨vw4,rfl,hvw4,hb⟩;replace HT:=Hy (later_blk hb HT.out);replace HP:=Hy (later_blk hb HP.out);replace HA:=Hy (later_blk hb HA.out);replace HV:=Hy (HV.out.later hb);replace HK:=Hy (HK.out.trans (Keep.of_below hb));have hszw4:=hb.size;have HVk:=Hy hvw4;clear hvw4 p0 p1 p2 p3;try replace HA1:=Hy (HA1.out.later hb)
 clear hb;go_wp2_with fail;refine(HMk.out (fun x=>H x∨x=tb) (kidP p 0) vw4 ab (lo+1) w4 (kid_less p 0 m hm) HVk.out HA.out (.inl hHa) (fun h hh=>by have:=HH2.out h hh;omega) (by have h0:=needN_kid p 0;have h1:=nodes_eq p;have h2:=need_two p;omega)).mono ?_;rintro e w5 ⟨t0,b0,hi0,rfl,hg0,hat0,hz0,hta0,hct0,hbb0,hk0⟩;have hNb:∀b,b=ab→NoPl w4 b:=fun b e=>by rw[e];exact noPl_one HA.out
 replace HT:=Hy (hk0.blk (fun e=>hatb e.symm) HT.out);replace HP:=Hy (hk0.blk hpab HP.out);replace HV:=Hy (HV.out.keepG hk0 hNb);replace HK:=Hy (HK.out.trans hk0);replace HA:=Hy hct0;have hszw5:=hk0.size;have HG0:=Hy hg0;have HAt0:=Hy hat0;have HZ0:=Hy hz0;have HTa0:=Hy hta0;try replace HA1:=Hy (HA1.out.keep (hk0.wide fun x e=> .inl (.inl (by rw[e];exact hHa))))
 clear hg0 hat0 hz0 hta0 hct0 hk0 hNb HVk;have HA1:=Hy HTa0.out;clear HTa0;have p0:w5.cell? ⟨pb,0,none⟩=some (.int .i64 p.op):=cB (o:=0) HP.out rfl;have p1:w5.cell? ⟨pb,1,none⟩=some (.int .i64 p.w):=cB (o:=1) HP.out rfl;have p2:w5.cell? ⟨pb,2,none⟩=some (.int .i64 p.n):=cB (o:=2) HP.out rfl;have p3:w5.cell? ⟨pb,3,none⟩=some (.slice a p.kids.length c):=cB (o:=3) HP.out rfl;go_wp2_with fail
 refine(kid17_any p _ 1 (by omega) w5 HV.out).mono ?_;rintro e w6 ⟨vw6,rfl,hvw6,hb⟩;replace HT:=Hy (later_blk hb HT.out);replace HP:=Hy (later_blk hb HP.out);replace HA:=Hy (later_blk hb HA.out);replace HV:=Hy (HV.out.later hb);replace HK:=Hy (HK.out.trans (Keep.of_below hb));have hszw6:=hb.size;have HVk:=Hy hvw6;clear hvw6 p0 p1 p2 p3;try replace HA1:=Hy (HA1.out.later hb)
 clear hb;go_wp2_with fail;refine(HMk.out (fun x=>H x∨x=tb) (kidP p 1) vw6 ab hi0 w6 (kid_less p 1 m hm) HVk.out HA.out (.inl hHa) (fun h hh=>by have:=HH2.out h hh;omega) (by have h0:=HZ0.out;have h1:=Pv.ats_size HAt0.out;have h2:=need_two p;omega)).mono ?_;rintro e w7 ⟨t1,b1,hi1,rfl,hg1,hat1,hz1,hta1,hct1,hbb1,hk1⟩;have hNb:∀b,b=ab→NoPl w6 b:=fun b e=>by rw[e];exact noPl_one HA.out
 replace HT:=Hy (hk1.blk (fun e=>hatb e.symm) HT.out);replace HP:=Hy (hk1.blk hpab HP.out);replace HV:=Hy (HV.out.keepG hk1 hNb);replace HK:=Hy (HK.out.trans hk1);replace HA:=Hy hct1;have hszw7:=hk1.size;have HG1:=Hy hg1;have HAt1:=Hy hat1;have HZ1:=Hy hz1;have HTa1:=Hy hta1;try replace HA1:=Hy (HA1.out.keep (hk1.wide fun x e=> .inl (.inl (by rw[e];exact hHa))))
 clear hg1 hat1 hz1 hta1 hct1 hk1 hNb HVk;obtain⟨g,hg⟩:∃n,w7.heap.size=n:=⟨_,rfl⟩
 have z6:(w7.alloc (.cells #[Ptr b0,Ptr b1] 26)).cell? ⟨tb,6,none⟩=some (.slice none 0 0):=cB (o:=6) (blk_old HT.out) rfl;have zf:∀o,(w7.alloc (.cells #[Ptr b0,Ptr b1] 26)).frozen? ⟨tb,o,none⟩=false:=fun o=>fob (blk_old HT.out)
 have htl7:=blk_lt HT.out;go_wp2_with fail;obtain⟨w8,hw8⟩:∃w8,(w7.alloc (.cells #[Ptr b0,Ptr b1] 26)).setCell ⟨tb,6,none⟩ (.slice (some ⟨g,0,none⟩) 2 2)=w8:=⟨_,rfl⟩
 have hk8:Keep (· = tb) w7 w8:=by rw[←hw8];exact(Keep.alloc (H:=(· = tb)) _ _).trans (Keep.set rfl)
 have ht8:w8.heap[tb]?=some (.cells (tK 7 ((lo:Int)+1) (.pointer none) [] (.slice (some ⟨g,0,none⟩) 2 2)) 62):=by rw[←hw8,blk_set (blk_old HT.out)];rfl
 have hx8:w8.heap[g]?=some (.cells #[Ptr b0,Ptr b1] 26):=by rw[←hw8];exact keep_set (blk_new hg) (by omega)
 rw[hw8];clear hw8 z6 zf;refine bodyPost_ret (v:=Ptr tb) ?_ rfl (made17_kids (ks:=[t0,t1]) (bs:=[b0,b1]) ht8 hx8 (TsAt.two ((HA1.out.keep (hk8.wide fun x e=> .inl (.inr e))).widen fun x h=> .inl (.inl h)) ((HTa1.out.keep (hk8.wide fun x e=> .inl (.inr e))).widen fun x h=> .inl (.inl h))) (by unfold Pv.CGs Pv.CGs Pv.CGs;exact⟨HG0.out,HG1.out,trivial⟩)
  (by unfold Pv.AtsL;exact⟨hi0,HAt0.out,by unfold Pv.AtsL;exact⟨hi1,HAt1.out,by unfold Pv.AtsL;rfl⟩⟩) (by have h1:=need_two p;have h2:=HZ0.out;have h3:=HZ1.out;simp only[Pv.tsizes];omega) (by omega) (by decide) rfl (by simp) (hk8.blk hatb HA.out) hwtb (by omega) HH.out (HK.out.trans_ hk8 fun x e=> .inr (by rw[e];exact hwtb)))
 simp[results,Tryz.results11,go_sem]
set_option maxRecDepth 20000 in
theorem make17_3 (m:Nat)(hmake:Makes17 m)(p:P10)(hm:P10.nodesL p.kids≤m)(v:Value)(ab lo:Nat)(w:World)(hv:PlV w p v)(hop:P10.kind p=3)(hab:CtAt w ab lo)(hHa:H ab)(hH:∀h,H h→h<w.heap.size)(hlo:lo+3*P10.nodes p<1099511627776):Calls Tryz.prog 11 #[v,Ptr ab] w (MadeK H ab lo p w):=by
 have hnp:=P10.nodes_pos p;have HV:=Hy hv;obtain⟨a,c,b',o',rfl,ha,hkl,hks⟩:=hv;have HH:=Hy hH;have hkw:wrap64 ((IntKind.u64.wrap p.op).tmod 5)=3:=by have h:=kind_wrap p;rw[hop]at h;exact h
 have hlo':(lo:Int)<1099511627776:=by omega
 have HA:=Hy hab;have a0:w.cell? ⟨ab,0,none⟩=some (.int .i64 (lo:Int)):=cB (o:=0) hab rfl;have fra:∀o,w.frozen? ⟨ab,o,none⟩=false:=fun o=>fob hab
 have habl:=blk_lt hab;clear hH ha hks hab;go_enter Tryz.func11,Tryz.ntmps11;go_upto_region 2 with fail
 clear a0 fra;obtain⟨pb,hpb⟩:∃n,w.heap.size=n:=⟨_,rfl⟩
 obtain⟨w1,hw1⟩:∃w1,(w.setCell ⟨ab,0,none⟩ (.int .i64 ((lo:Int)+1))).alloc (.cells #[.int .i64 p.op,.int .i64 p.w,.int .i64 p.n,.slice a p.kids.length c] 24)=w1:=⟨_,rfl⟩
 have hk1:Keep (· = ab) w w1:=by rw[←hw1];exact(Keep.set (H:=(· = ab)) rfl).trans (Keep.alloc _ _)
 have hp1:w1.heap[pb]?=some (.cells #[.int .i64 p.op,.int .i64 p.w,.int .i64 p.n,.slice a p.kids.length c] 24):=by rw[←hw1];exact blk_new (by simpa using hpb)
 have ha1:w1.heap[ab]?=some (.cells #[.int .i64 ((lo:Int)+1)] 3):=by rw[←hw1];refine blk_old ?_;rw[blk_set HA.out];rfl
 have hv1:PlV w1 p (.agg #[.int .i64 p.op,.int .i64 p.w,.int .i64 p.n,.slice a p.kids.length c]):=HV.out.keepA hk1 HA.out;rw[hpb,hw1];clear hw1;have a1:w1.cell? ⟨ab,0,none⟩=some (.int .i64 ((lo:Int)+1)):=cB (o:=0) ha1 rfl;have HK1:=Hy hk1;have HP1:=Hy hp1;have HA1:=Hy ha1;have HV1:=Hy hv1;clear hk1 hp1 ha1 hv1 HV HA;go_upto_region 3 with fail
 obtain⟨tb,htb⟩:∃n,w1.heap.size=n:=⟨_,rfl⟩
 obtain⟨w2,hw2⟩:∃w2,w1.alloc (.cells (tK 0 ((lo:Int)+1) (.pointer none) [] (.slice none 0 0)) 62)=w2:=⟨_,rfl⟩
 have hb2:Below w1.heap.size w1 w2:=by rw[←hw2];exact(Below.refl _ _).alloc (Nat.le_refl _) _
 have ht2:w2.heap[tb]?=some (.cells (tK 0 ((lo:Int)+1) (.pointer none) [] (.slice none 0 0)) 62):=by rw[←hw2];exact blk_new htb
 have hwtb:w.heap.size≤tb:=by have:=HK1.out.size;omega
 have hptb:pb≠tb:=by have:=blk_lt HP1.out;omega
 have hatb:ab≠tb:=by have:=blk_lt HA1.out;omega
 have HT:=Hy ht2;have HP:=Hy (later_blk hb2 HP1.out);have HA:=Hy (later_blk hb2 HA1.out);have HV:=Hy (HV1.out.later hb2);have HK:=Hy (HK1.out.trans (Keep.of_below hb2));rw[htb];rw[hw2];clear hw2 hb2 ht2 a1 HK1 HP1 HA1 HV1;have hH2:∀h,(H h∨h=tb)→h<w2.heap.size:=fun h hh=>by
  rcases hh with hh|hh
  ·have h1:=HH.out h hh;have h2:=HK.out.size;omega
  ·have h1:=blk_lt HT.out;omega
 have HH2:=Hy hH2;clear hH2;have HMk:=Hy hmake;clear hmake;have HT2:=Hy HT.out;have x0:w2.cell? ⟨tb,0,none⟩=some (.int .i64 0):=cB (o:=0) HT.out rfl;have fr:∀o,w2.frozen? ⟨tb,o,none⟩=false:=fun o=>fob HT.out
 have p0:w2.cell? ⟨pb,0,none⟩=some (.int .i64 p.op):=cB (o:=0) HP.out rfl;have q0:(w2.alloc (.cells #[.int .i64 7,.int .i64 8] 35)).cell? ⟨pb,0,none⟩=some (.int .i64 p.op):=cB (o:=0) (blk_old HP.out) rfl;have q1:(w2.alloc (.cells #[.int .i64 7,.int .i64 8] 35)).cell? ⟨tb,0,none⟩=some (.int .i64 0):=cB (o:=0) (blk_old HT.out) rfl
 have q2:∀o,(w2.alloc (.cells #[.int .i64 7,.int .i64 8] 35)).frozen? ⟨tb,o,none⟩=false:=fun o=>fob (blk_old HT.out)
 have q3:(w2.alloc (.cells #[.int .i64 7,.int .i64 8] 35)).cell? ⟨w2.heap.size,0,none⟩=some (.int .i64 7):=cB (o:=0) (blk_new rfl) rfl;have q4:(w2.alloc (.cells #[.int .i64 7,.int .i64 8] 35)).cell? ⟨w2.heap.size,1,none⟩=some (.int .i64 8):=cB (o:=1) (blk_new rfl) rfl;have htl:=blk_lt HT.out;have hpl:=blk_lt HP.out;go_upto_region 14 with fail
 obtain⟨w3,hw3⟩:∃w3,(w2.setCell ⟨tb,0,none⟩ (.int .i64 8)).alloc (.cells #[.int .i64 7,.int .i64 8] 35)=w3:=⟨_,rfl⟩
 have hk3:Keep (· = tb) w2 w3:=by rw[←hw3];exact(Keep.set (H:=(· = tb)) rfl).trans (Keep.alloc _ _)
 have ht3:w3.heap[tb]?=some (.cells (tK 8 ((lo:Int)+1) (.pointer none) [] (.slice none 0 0)) 62):=by rw[←hw3];exact(blk_old (by rw[blk_set HT2.out];rfl))
 rw[hw3];clear hw3 x0 fr p0;have hsz3:=hk3.size;replace HT:=Hy ht3;replace HP:=Hy (hk3.blk hptb HP.out);replace HA:=Hy (hk3.blk hatb HA.out);replace HV:=Hy (HV.out.keepT hk3 HT2.out);replace HK:=Hy (HK.out.trans_ hk3 fun x e=> .inr (by rw[e];exact hwtb));clear hk3 ht3;have p1:w3.cell? ⟨pb,1,none⟩=some (.int .i64 p.w):=cB (o:=1) HP.out rfl
 have hpab:¬pb=ab:=fun e=>by have h1:=HP.out;rw[e,HA.out]at h1;simp at h1
 clear p1;have p0:w3.cell? ⟨pb,0,none⟩=some (.int .i64 p.op):=cB (o:=0) HP.out rfl;have p1:w3.cell? ⟨pb,1,none⟩=some (.int .i64 p.w):=cB (o:=1) HP.out rfl;have p2:w3.cell? ⟨pb,2,none⟩=some (.int .i64 p.n):=cB (o:=2) HP.out rfl;have p3:w3.cell? ⟨pb,3,none⟩=some (.slice a p.kids.length c):=cB (o:=3) HP.out rfl;go_wp2_with fail;refine(kid17_any p _ 0 (by omega) w3 HV.out).mono ?_
 rintro e w4 ⟨vw4,rfl,hvw4,hb⟩;replace HT:=Hy (later_blk hb HT.out);replace HP:=Hy (later_blk hb HP.out);replace HA:=Hy (later_blk hb HA.out);replace HV:=Hy (HV.out.later hb);replace HK:=Hy (HK.out.trans (Keep.of_below hb));have hszw4:=hb.size;have HVk:=Hy hvw4;clear hvw4 p0 p1 p2 p3;try replace HA1:=Hy (HA1.out.later hb)
 clear hb;go_wp2_with fail;refine(HMk.out (fun x=>H x∨x=tb) (kidP p 0) vw4 ab (lo+1) w4 (kid_less p 0 m hm) HVk.out HA.out (.inl hHa) (fun h hh=>by have:=HH2.out h hh;omega) (by have h0:=needN_kid p 0;have h1:=nodes_eq p;have h2:=need_two p;omega)).mono ?_;rintro e w5 ⟨t0,b0,hi0,rfl,hg0,hat0,hz0,hta0,hct0,hbb0,hk0⟩;have hNb:∀b,b=ab→NoPl w4 b:=fun b e=>by rw[e];exact noPl_one HA.out
 replace HT:=Hy (hk0.blk (fun e=>hatb e.symm) HT.out);replace HP:=Hy (hk0.blk hpab HP.out);replace HV:=Hy (HV.out.keepG hk0 hNb);replace HK:=Hy (HK.out.trans hk0);replace HA:=Hy hct0;have hszw5:=hk0.size;have HG0:=Hy hg0;have HAt0:=Hy hat0;have HZ0:=Hy hz0;have HTa0:=Hy hta0;try replace HA1:=Hy (HA1.out.keep (hk0.wide fun x e=> .inl (.inl (by rw[e];exact hHa))))
 clear hg0 hat0 hz0 hta0 hct0 hk0 hNb HVk;have HA1:=Hy HTa0.out;clear HTa0;have p0:w5.cell? ⟨pb,0,none⟩=some (.int .i64 p.op):=cB (o:=0) HP.out rfl;have p1:w5.cell? ⟨pb,1,none⟩=some (.int .i64 p.w):=cB (o:=1) HP.out rfl;have p2:w5.cell? ⟨pb,2,none⟩=some (.int .i64 p.n):=cB (o:=2) HP.out rfl;have p3:w5.cell? ⟨pb,3,none⟩=some (.slice a p.kids.length c):=cB (o:=3) HP.out rfl;go_wp2_with fail
 refine(kid17_any p _ 1 (by omega) w5 HV.out).mono ?_;rintro e w6 ⟨vw6,rfl,hvw6,hb⟩;replace HT:=Hy (later_blk hb HT.out);replace HP:=Hy (later_blk hb HP.out);replace HA:=Hy (later_blk hb HA.out);replace HV:=Hy (HV.out.later hb);replace HK:=Hy (HK.out.trans (Keep.of_below hb));have hszw6:=hb.size;have HVk:=Hy hvw6;clear hvw6 p0 p1 p2 p3;try replace HA1:=Hy (HA1.out.later hb)
 clear hb;go_wp2_with fail;refine(HMk.out (fun x=>H x∨x=tb) (kidP p 1) vw6 ab hi0 w6 (kid_less p 1 m hm) HVk.out HA.out (.inl hHa) (fun h hh=>by have:=HH2.out h hh;omega) (by have h0:=HZ0.out;have h1:=Pv.ats_size HAt0.out;have h2:=need_two p;omega)).mono ?_;rintro e w7 ⟨t1,b1,hi1,rfl,hg1,hat1,hz1,hta1,hct1,hbb1,hk1⟩;have hNb:∀b,b=ab→NoPl w6 b:=fun b e=>by rw[e];exact noPl_one HA.out
 replace HT:=Hy (hk1.blk (fun e=>hatb e.symm) HT.out);replace HP:=Hy (hk1.blk hpab HP.out);replace HV:=Hy (HV.out.keepG hk1 hNb);replace HK:=Hy (HK.out.trans hk1);replace HA:=Hy hct1;have hszw7:=hk1.size;have HG1:=Hy hg1;have HAt1:=Hy hat1;have HZ1:=Hy hz1;have HTa1:=Hy hta1;try replace HA1:=Hy (HA1.out.keep (hk1.wide fun x e=> .inl (.inl (by rw[e];exact hHa))))
 clear hg1 hat1 hz1 hta1 hct1 hk1 hNb HVk;obtain⟨g,hg⟩:∃n,w7.heap.size=n:=⟨_,rfl⟩
 have z6:(w7.alloc (.cells #[Ptr b0,Ptr b1] 26)).cell? ⟨tb,6,none⟩=some (.slice none 0 0):=cB (o:=6) (blk_old HT.out) rfl;have zf:∀o,(w7.alloc (.cells #[Ptr b0,Ptr b1] 26)).frozen? ⟨tb,o,none⟩=false:=fun o=>fob (blk_old HT.out)
 have htl7:=blk_lt HT.out;go_wp2_with fail;obtain⟨w8,hw8⟩:∃w8,(w7.alloc (.cells #[Ptr b0,Ptr b1] 26)).setCell ⟨tb,6,none⟩ (.slice (some ⟨g,0,none⟩) 2 2)=w8:=⟨_,rfl⟩
 have hk8:Keep (· = tb) w7 w8:=by rw[←hw8];exact(Keep.alloc (H:=(· = tb)) _ _).trans (Keep.set rfl)
 have ht8:w8.heap[tb]?=some (.cells (tK 8 ((lo:Int)+1) (.pointer none) [] (.slice (some ⟨g,0,none⟩) 2 2)) 62):=by rw[←hw8,blk_set (blk_old HT.out)];rfl
 have hx8:w8.heap[g]?=some (.cells #[Ptr b0,Ptr b1] 26):=by rw[←hw8];exact keep_set (blk_new hg) (by omega)
 rw[hw8];clear hw8 z6 zf;refine bodyPost_ret (v:=Ptr tb) ?_ rfl (made17_kids (ks:=[t0,t1]) (bs:=[b0,b1]) ht8 hx8 (TsAt.two ((HA1.out.keep (hk8.wide fun x e=> .inl (.inr e))).widen fun x h=> .inl (.inl h)) ((HTa1.out.keep (hk8.wide fun x e=> .inl (.inr e))).widen fun x h=> .inl (.inl h))) (by unfold Pv.CGs Pv.CGs Pv.CGs;exact⟨HG0.out,HG1.out,trivial⟩)
  (by unfold Pv.AtsL;exact⟨hi0,HAt0.out,by unfold Pv.AtsL;exact⟨hi1,HAt1.out,by unfold Pv.AtsL;rfl⟩⟩) (by have h1:=need_two p;have h2:=HZ0.out;have h3:=HZ1.out;simp only[Pv.tsizes];omega) (by omega) (by decide) rfl (by simp) (hk8.blk hatb HA.out) hwtb (by omega) HH.out (HK.out.trans_ hk8 fun x e=> .inr (by rw[e];exact hwtb)))
 simp[results,Tryz.results11,go_sem]
set_option maxRecDepth 20000 in
theorem make17_4 (m:Nat)(hmake:Makes17 m)(p:P10)(hm:P10.nodesL p.kids≤m)(v:Value)(ab lo:Nat)(w:World)(hv:PlV w p v)(hop:P10.kind p=4)(hab:CtAt w ab lo)(hHa:H ab)(hH:∀h,H h→h<w.heap.size)(hlo:lo+3*P10.nodes p<1099511627776):Calls Tryz.prog 11 #[v,Ptr ab] w (MadeK H ab lo p w):=by
 have hnp:=P10.nodes_pos p;have HV:=Hy hv;obtain⟨a,c,b',o',rfl,ha,hkl,hks⟩:=hv;have HH:=Hy hH;have hkw:wrap64 ((IntKind.u64.wrap p.op).tmod 5)=4:=by have h:=kind_wrap p;rw[hop]at h;exact h
 have hlo':(lo:Int)<1099511627776:=by omega
 have HA:=Hy hab;have a0:w.cell? ⟨ab,0,none⟩=some (.int .i64 (lo:Int)):=cB (o:=0) hab rfl;have fra:∀o,w.frozen? ⟨ab,o,none⟩=false:=fun o=>fob hab
 have habl:=blk_lt hab;clear hH ha hks hab;go_enter Tryz.func11,Tryz.ntmps11;go_upto_region 2 with fail
 clear a0 fra;obtain⟨pb,hpb⟩:∃n,w.heap.size=n:=⟨_,rfl⟩
 obtain⟨w1,hw1⟩:∃w1,(w.setCell ⟨ab,0,none⟩ (.int .i64 ((lo:Int)+1))).alloc (.cells #[.int .i64 p.op,.int .i64 p.w,.int .i64 p.n,.slice a p.kids.length c] 24)=w1:=⟨_,rfl⟩
 have hk1:Keep (· = ab) w w1:=by rw[←hw1];exact(Keep.set (H:=(· = ab)) rfl).trans (Keep.alloc _ _)
 have hp1:w1.heap[pb]?=some (.cells #[.int .i64 p.op,.int .i64 p.w,.int .i64 p.n,.slice a p.kids.length c] 24):=by rw[←hw1];exact blk_new (by simpa using hpb)
 have ha1:w1.heap[ab]?=some (.cells #[.int .i64 ((lo:Int)+1)] 3):=by rw[←hw1];refine blk_old ?_;rw[blk_set HA.out];rfl
 have hv1:PlV w1 p (.agg #[.int .i64 p.op,.int .i64 p.w,.int .i64 p.n,.slice a p.kids.length c]):=HV.out.keepA hk1 HA.out;rw[hpb,hw1];clear hw1;have a1:w1.cell? ⟨ab,0,none⟩=some (.int .i64 ((lo:Int)+1)):=cB (o:=0) ha1 rfl;have HK1:=Hy hk1;have HP1:=Hy hp1;have HA1:=Hy ha1;have HV1:=Hy hv1;clear hk1 hp1 ha1 hv1 HV HA;go_upto_region 3 with fail
 obtain⟨tb,htb⟩:∃n,w1.heap.size=n:=⟨_,rfl⟩
 obtain⟨w2,hw2⟩:∃w2,w1.alloc (.cells (tK 0 ((lo:Int)+1) (.pointer none) [] (.slice none 0 0)) 62)=w2:=⟨_,rfl⟩
 have hb2:Below w1.heap.size w1 w2:=by rw[←hw2];exact(Below.refl _ _).alloc (Nat.le_refl _) _
 have ht2:w2.heap[tb]?=some (.cells (tK 0 ((lo:Int)+1) (.pointer none) [] (.slice none 0 0)) 62):=by rw[←hw2];exact blk_new htb
 have hwtb:w.heap.size≤tb:=by have:=HK1.out.size;omega
 have hptb:pb≠tb:=by have:=blk_lt HP1.out;omega
 have hatb:ab≠tb:=by have:=blk_lt HA1.out;omega
 have HT:=Hy ht2;have HP:=Hy (later_blk hb2 HP1.out);have HA:=Hy (later_blk hb2 HA1.out);have HV:=Hy (HV1.out.later hb2);have HK:=Hy (HK1.out.trans (Keep.of_below hb2));rw[htb];rw[hw2];clear hw2 hb2 ht2 a1 HK1 HP1 HA1 HV1;have hH2:∀h,(H h∨h=tb)→h<w2.heap.size:=fun h hh=>by
  rcases hh with hh|hh
  ·have h1:=HH.out h hh;have h2:=HK.out.size;omega
  ·have h1:=blk_lt HT.out;omega
 have HH2:=Hy hH2;clear hH2;have HMk:=Hy hmake;clear hmake;have HT2:=Hy HT.out;have x0:w2.cell? ⟨tb,0,none⟩=some (.int .i64 0):=cB (o:=0) HT.out rfl;have fr:∀o,w2.frozen? ⟨tb,o,none⟩=false:=fun o=>fob HT.out
 have p0:w2.cell? ⟨pb,0,none⟩=some (.int .i64 p.op):=cB (o:=0) HP.out rfl;go_upto_region 18 with fail
 obtain⟨w3,hw3⟩:∃w3,w2.setCell ⟨tb,0,none⟩ (.int .i64 9)=w3:=⟨_,rfl⟩
 have hk3:Keep (· = tb) w2 w3:=by rw[←hw3];exact Keep.set (H:=(· = tb)) rfl
 have ht3:w3.heap[tb]?=some (.cells (tK 9 ((lo:Int)+1) (.pointer none) [] (.slice none 0 0)) 62):=by rw[←hw3];exact(by rw[blk_set HT2.out];rfl)
 rw[hw3];clear hw3 x0 fr p0;have hsz3:=hk3.size;replace HT:=Hy ht3;replace HP:=Hy (hk3.blk hptb HP.out);replace HA:=Hy (hk3.blk hatb HA.out);replace HV:=Hy (HV.out.keepT hk3 HT2.out);replace HK:=Hy (HK.out.trans_ hk3 fun x e=> .inr (by rw[e];exact hwtb));clear hk3 ht3;have p1:w3.cell? ⟨pb,1,none⟩=some (.int .i64 p.w):=cB (o:=1) HP.out rfl
 have hpab:¬pb=ab:=fun e=>by have h1:=HP.out;rw[e,HA.out]at h1;simp at h1
 clear p1;have p0:w3.cell? ⟨pb,0,none⟩=some (.int .i64 p.op):=cB (o:=0) HP.out rfl;have p1:w3.cell? ⟨pb,1,none⟩=some (.int .i64 p.w):=cB (o:=1) HP.out rfl;have p2:w3.cell? ⟨pb,2,none⟩=some (.int .i64 p.n):=cB (o:=2) HP.out rfl;have p3:w3.cell? ⟨pb,3,none⟩=some (.slice a p.kids.length c):=cB (o:=3) HP.out rfl;go_wp2_with fail;refine(kid17_any p _ 0 (by omega) w3 HV.out).mono ?_
 rintro e w4 ⟨vw4,rfl,hvw4,hb⟩;replace HT:=Hy (later_blk hb HT.out);replace HP:=Hy (later_blk hb HP.out);replace HA:=Hy (later_blk hb HA.out);replace HV:=Hy (HV.out.later hb);replace HK:=Hy (HK.out.trans (Keep.of_below hb));have hszw4:=hb.size;have HVk:=Hy hvw4;clear hvw4 p0 p1 p2 p3;try replace HA1:=Hy (HA1.out.later hb)
 clear hb;go_wp2_with fail;refine(HMk.out (fun x=>H x∨x=tb) (kidP p 0) vw4 ab (lo+1) w4 (kid_less p 0 m hm) HVk.out HA.out (.inl hHa) (fun h hh=>by have:=HH2.out h hh;omega) (by have h0:=needN_kid p 0;have h1:=nodes_eq p;have h2:=need_one p;omega)).mono ?_;rintro e w5 ⟨t0,b0,hi0,rfl,hg0,hat0,hz0,hta0,hct0,hbb0,hk0⟩;have hNb:∀b,b=ab→NoPl w4 b:=fun b e=>by rw[e];exact noPl_one HA.out
 replace HT:=Hy (hk0.blk (fun e=>hatb e.symm) HT.out);replace HP:=Hy (hk0.blk hpab HP.out);replace HV:=Hy (HV.out.keepG hk0 hNb);replace HK:=Hy (HK.out.trans hk0);replace HA:=Hy hct0;have hszw5:=hk0.size;have HG0:=Hy hg0;have HAt0:=Hy hat0;have HZ0:=Hy hz0;have HTa0:=Hy hta0;try replace HA1:=Hy (HA1.out.keep (hk0.wide fun x e=> .inl (.inl (by rw[e];exact hHa))))
 clear hg0 hat0 hz0 hta0 hct0 hk0 hNb HVk;obtain⟨g,hg⟩:∃n,w5.heap.size=n:=⟨_,rfl⟩
 have z6:(w5.alloc (.cells #[Ptr b0] 26)).cell? ⟨tb,6,none⟩=some (.slice none 0 0):=cB (o:=6) (blk_old HT.out) rfl;have zf:∀o,(w5.alloc (.cells #[Ptr b0] 26)).frozen? ⟨tb,o,none⟩=false:=fun o=>fob (blk_old HT.out)
 have htl7:=blk_lt HT.out;go_wp2_with fail;obtain⟨w8,hw8⟩:∃w8,(w5.alloc (.cells #[Ptr b0] 26)).setCell ⟨tb,6,none⟩ (.slice (some ⟨g,0,none⟩) 1 1)=w8:=⟨_,rfl⟩
 have hk8:Keep (· = tb) w5 w8:=by rw[←hw8];exact(Keep.alloc (H:=(· = tb)) _ _).trans (Keep.set rfl)
 have ht8:w8.heap[tb]?=some (.cells (tK 9 ((lo:Int)+1) (.pointer none) [] (.slice (some ⟨g,0,none⟩) 1 1)) 62):=by rw[←hw8,blk_set (blk_old HT.out)];rfl
 have hx8:w8.heap[g]?=some (.cells #[Ptr b0] 26):=by rw[←hw8];exact keep_set (blk_new hg) (by omega)
 rw[hw8];clear hw8 z6 zf;refine bodyPost_ret (v:=Ptr tb) ?_ rfl (made17_kids (ks:=[t0]) (bs:=[b0]) ht8 hx8 (TsAt.one ((HTa0.out.keep (hk8.wide fun x e=> .inl (.inr e))).widen fun x h=> .inl (.inl h))) (by unfold Pv.CGs Pv.CGs;exact⟨HG0.out,trivial⟩)
  (by unfold Pv.AtsL;exact⟨hi0,HAt0.out,by unfold Pv.AtsL;rfl⟩) (by have h1:=need_one p;have h2:=HZ0.out;simp only[Pv.tsizes];omega) (by omega) (by decide) rfl (by simp) (hk8.blk hatb HA.out) hwtb (by omega) HH.out (HK.out.trans_ hk8 fun x e=> .inr (by rw[e];exact hwtb)))
 simp[results,Tryz.results11,go_sem]
theorem makes17_all:∀(m:Nat),Makes17 m
 | m,H,q,v,ab,lo,W,hq,hv,hab,hHa,hH,hlo=>by
   have hn:=nodes_eq q;have hk:P10.kind q=0∨P10.kind q=1∨P10.kind q=2∨P10.kind q=3∨P10.kind q=4:=by have:=P10.kind_lt q;omega
   rcases hk with e|e|e|e|e
   ·have h1:needN q=1:=by unfold needN;rw[if_pos (by omega)]
    exact make17_0 q v ab lo W hv e hab hHa hH (by omega)
   ·have h1:needN q=1:=by unfold needN;rw[if_pos (by omega)]
    exact make17_1 q v ab lo W hv e hab hHa hH (by omega)
   ·have h1:needN q=3*P10.nodes q:=by unfold needN;rw[if_neg (by omega)]
    match m,hq with
    | 0,hq=>omega
    | m+1,hq=>exact make17_2 m (makes17_all m) q (by omega) v ab lo W hv e hab hHa hH (by omega)
   ·have h1:needN q=3*P10.nodes q:=by unfold needN;rw[if_neg (by omega)]
    match m,hq with
    | 0,hq=>omega
    | m+1,hq=>exact make17_3 m (makes17_all m) q (by omega) v ab lo W hv e hab hHa hH (by omega)
   ·have h1:needN q=3*P10.nodes q:=by unfold needN;rw[if_neg (by omega)]
    match m,hq with
    | 0,hq=>omega
    | m+1,hq=>exact make17_4 m (makes17_all m) q (by omega) v ab lo W hv e hab hHa hH (by omega)
theorem make17_any (p:P10)(v:Value)(ab lo:Nat)(w:World)(hv:PlV w p v)(hab:CtAt w ab lo)(hHa:H ab)(hH:∀h,H h→h<w.heap.size)(hlo:lo+3*P10.nodes p<1099511627776):
  Calls Tryz.prog 11 #[v,Ptr ab] w (MadeK H ab lo p w):=
 makes17_all _ H p v ab lo w (.inr (Nat.le_refl _)) hv hab hHa hH (by have:=needN_le p;omega)
end Go.Proofs.YtamkfdlcdiadlaaGreatDoor
