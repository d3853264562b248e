/- What a canonizer of a Keep and a Norm, one behind the other, makes of a text. -/
import Derived.Test.YtamkfdlcdiadlaaGreatDoorKb05
import Derived.Test.YtamkfdlcdiadlaaGreatDoorKb33
import Derived.Test.YtamkfdlcdiadlaaGreatDoorKb03
set_option linter.all false
namespace Go.Proofs.YtamkfdlcdiadlaaGreatDoor
open Go.RowKit Go.Maps
variable {H:Nat→Prop}
theorem burn_eq (f:Pv.Fuel)(n:Nat)(h:n≤f.left):f.burn n=(⟨f.left-n,f.used+n⟩,0):=by unfold Pv.Fuel.burn;rw[if_neg (by omega)]
structure CatAt (w:World)(k k1 k2 ka kc tb ta tn sa sb s1:Nat)(text:List UInt8):Prop where
 hk:∃wv cv v1,w.heap[k]?=some (.cells (CanC tb wv cv (.slice (some ⟨ka,0,none⟩) 2 kc) (Ptr s1) v1) 131)
 c0:w.cell? ⟨ka,0,none⟩=some (Ptr k1)
 c1:w.cell? ⟨ka,1,none⟩=some (Ptr k2)
 h1:∃v2 v3 v4 v5,w.heap[k1]?=some (.cells (CanC ta v2 v3 v5 (Ptr sa) v4) 131)
 h2:∃v2 v3 v4 v5,w.heap[k2]?=some (.cells (CanC tn v2 v3 v5 (Ptr sb) v4) 131)
 tt:∃a n re t b ks,TermAt w tb 8 a n re t b ks
 t1:∃a n re t b ks,TermAt w ta 16 a n re t b ks
 t2:∃a n re b ks,TermAt w tn 17 a n re text b ks
theorem CatAt.keep {w w':World}{k k1 k2 ka kc tb ta tn sa sb s1:Nat}{text:List UInt8}(h:CatAt w k k1 k2 ka kc tb ta tn sa sb s1 text){G:Nat→Prop}(hk:Keep G w w')(hG:∀x,G x→∃cs t fr,w.heap[x]?=some (.cells cs t fr)∧t≠131∧t≠62)(hka:¬G ka):CatAt w' k k1 k2 ka kc tb ta tn sa sb s1 text:=by
 have hn:∀ {b:Nat} {cs:Array Value} {t:TypeId} {fr:Nat × Nat},w.heap[b]?=some (.cells cs t fr)→(t=131∨t=62)→¬G b:=fun hb ht hg=>by
  obtain⟨cs',t',fr',h1,h2,h3⟩:=hG _ hg;rw[hb]at h1;injection h1 with h1
  injection h1 with _ h1
  rcases ht with ht|ht
  ·exact h2 (h1▸ht)
  ·exact h3 (h1▸ht)
 obtain⟨⟨a1,a2,a3,a4⟩,c0,c1,⟨b1,b2,b3,b4,b5⟩,⟨d1,d2,d3,d4,d5⟩,⟨e1,e2,e3,e4,e5,e6,e7⟩,⟨f1,f2,f3,f4,f5,f6,f7⟩,⟨g1,g2,g3,g4,g5,g6⟩⟩:=h
 exact⟨⟨a1,a2,a3,hk.blk (hn a4 (.inl rfl)) a4⟩,hk.cell hka c0,hk.cell hka c1,⟨b1,b2,b3,b4,hk.blk (hn b5 (.inl rfl)) b5⟩,⟨d1,d2,d3,d4,hk.blk (hn d5 (.inl rfl)) d5⟩,⟨e1,e2,e3,e4,e5,e6,hk.blk (hn e7 (.inr rfl)) e7⟩,⟨f1,f2,f3,f4,f5,f6,hk.blk (hn f7 (.inr rfl)) f7⟩,⟨g1,g2,g3,g4,g5,hk.blk (hn g6 (.inr rfl)) g6⟩⟩
theorem CatAt.later {w w':World}{k k1 k2 ka kc tb ta tn sa sb s1:Nat}{text:List UInt8}(h:CatAt w k k1 k2 ka kc tb ta tn sa sb s1 text)(hb:Below w.heap.size w w'):CatAt w' k k1 k2 ka kc tb ta tn sa sb s1 text:=
 h.keep (G:=fun _=>False) (Keep.of_below hb) (fun _ h=>h.elim) (fun h=>h)
set_option maxRecDepth 20000 in
set_option maxHeartbeats 1000000 in
theorem run_cat (SA SB:Pv.Side)(hSA:SA.Ok)(hSB:SB.Ok)(r fb k k1 k2 ka kc tb ta tn sa sb s1:Nat)(text s:List UInt8)(f:Pv.Fuel)(w:World)(h:RunAt w r fb)(hc:CatAt w k k1 k2 ka kc tb ta tn sa sb s1 text)(ha:SideAt H w SA sa)(hb:SideAt H w SB sb)(hf:FuelAt w fb f)(hfb:H fb)(hka:ka≠r∧ka≠fb)
  (hs:s.length<1000) (htx:text.length<1000) (i:Nat) (hp:Pv.places SA SB s=[i]) (hfl:5*s.length+text.length+10≤f.left):
  Calls Tryz.prog 122 #[Ptr r,Ptr k,Str s] w fun e w'=>e = .returned (Str (s.take i++text))∧RunAt w' r fb∧Keep (fun x=>x=r∨x=fb) w w':=by
 have hside1:∀w1,Below w.heap.size w w1→Pure 120 #[Ptr r,Ptr k1] w1 (Ptr sa):=fun w1 hb1=>by obtain⟨_,_,_,_,h1⟩:=(hc.later hb1).h1;exact rside_any r fb k1 ta sa _ _ _ _ w1 (later_blk hb1 h) h1
 have hside2:∀w1,Below w.heap.size w w1→Pure 120 #[Ptr r,Ptr k2] w1 (Ptr sb):=fun w1 hb1=>by obtain⟨_,_,_,_,h1⟩:=(hc.later hb1).h2;exact rside_any r fb k2 tn sb _ _ _ _ w1 (later_blk hb1 h) h1
 have x0:w.cell? ⟨r,0,none⟩=some (Ptr fb):=cB (o:=0) h rfl;have x2:w.cell? ⟨r,2,none⟩=some (.int .i64 0):=cB (o:=2) h rfl;obtain⟨wv,cv,v1,hk⟩:=hc.hk;obtain⟨_,_,_,_,_,_,htb⟩:=hc.tt;have y0:w.cell? ⟨k,0,none⟩=some (Ptr tb):=cB (o:=0) hk rfl;have y3:w.cell? ⟨k,3,none⟩=some (.slice (some ⟨ka,0,none⟩) 2 kc):=cB (o:=3) hk rfl;have t0:w.cell? ⟨tb,0,none⟩=some (.int .i64 8):=cB (o:=0) htb rfl
 have g0:=hc.c0;have g1:=hc.c1;have hrf:r≠fb:=by rintro rfl;have h2:=hf.2;rw[h]at h2;cases h2
 have hil:i≤s.length:=by
  have:i∈Pv.places SA SB s:=by rw[hp];simp
  unfold Pv.places at this;have:=(List.mem_filter.1 this).1;have:=List.mem_range.1 this;omega
 have HR:=Hy h;have HCt:=Hy hc;have HA:=Hy ha;have HB:=Hy hb;have HF:=Hy hf;have HSd1:=Hy hside1;have HSd2:=Hy hside2;have HPl:=Hy hp;have HOA:=Hy hSA;have HOB:=Hy hSB;have hbe:=burn_eq f (2*(s.length+1)) (by omega);have HBe:=Hy hbe;clear h hc ha hb hf hside1 hside2 hp hk htb hSA hSB hbe;go_enter Tryz.func122,Tryz.ntmps122;go_wp2_with fail
 refine Eag.region (.mov 0 (.mov 1 (.mov 2 (.mov 3 (.mov 4 (.mov 5 (.mov 6 (.mov 8 (.mov 9 (.mov 10 (.mov 11 (.mov 12 (.mov 13 (.mov 14 (.mov 16 (.mov 17 (.mov 18 (.mov 19 (.mov 20 (.anc 7 (.anc 15 (.anc 21 (.mov 22 (.mov 23 (.mov 24 (.mov 25 (.mov 26 (.mov 27 (.mov 28 Eag.Sch.fin))))))))))))))))))))))))))))) [21] (by kernel_rfl) (by kernel_rfl) (fun K ops hops hK => ?_);iterate 19
  refine Eag.mov hops rfl rfl (fun w' hb => ?_) ?_
  ·have q0:=later hb x0;have q1:=later hb y3;have q2:=later hb g0;have q3:=later hb g1;clear hb;go_simp
  go_simp
 refine Eag.anc hops rfl rfl ?_;go_wp2_with fail;refine(HSd1.out w.drew (Below.refl _ _).drew).mono ?_;rintro e w1 ⟨rfl,e1⟩;refine⟨by rw[e1];exact Below.refl _ _,?_⟩;subst e1;refine Eag.anc hops rfl rfl ?_;go_wp2_with fail;refine(HSd2.out w.drew (Below.refl _ _).drew).mono ?_;rintro e w1 ⟨rfl,e1⟩;refine⟨by rw[e1];exact Below.refl _ _,?_⟩;subst e1;clear HSd1 HSd2 x0 x2 y0 t0
 refine Eag.anc hops rfl rfl ?_;go_wp2_with fail;refine scat_any (H:=H) _ SA SB HOA.out HOB.out sa sb fb f s w.drew (HA.out.later (Below.refl _ _).drew) (HB.out.later (Below.refl _ _).drew) (HF.out.later (Below.refl _ _).drew) (by omega) hfb ?_ ?_ ?_
 ·intro w' h1;rw[HBe.out]at h1;cases h1
 ·intro w' _ h1;rw[HPl.out]at h1;exact absurd rfl h1
 intro w2 j _ h1 hf2 hk2;rw[HPl.out]at h1;obtain rfl:i=j:=by injection h1
 rw[HBe.out]at hf2;simp only at hf2;have hk2':Keep (· = fb) w w2:=(Keep.drew _).trans hk2;have hGf:∀x,x=fb→∃cs t fr,w.heap[x]?=some (.cells cs t fr)∧t≠131∧t≠62:=fun x e=>by rw[e];exact⟨_,_,_,HF.out.2,by decide,by decide⟩
 have hc2:=HCt.out.keep hk2' hGf hka.2;have hr2:RunAt w2 r fb:=hk2'.blk hrf HR.out;have hfa:=failed_ok r fb w2 hr2;have HC2:=Hy hc2;have HF2:=Hy hf2;have HK2:=Hy hk2';have HFa:=Hy hfa;have HR2:=Hy hr2;clear hf2 hk2 hk2' hc2 hr2 hfa h1 hGf y3 g0 g1;iterate 7
  refine Eag.mov hops rfl rfl (fun w' hb => ?_) ?_
  ·clear hb;go_simp
  go_simp
 refine Eag.fin (hK _ _ ?_);clear hK hops;go_simp;go_wp2_with fail;refine HFa.out.mono ?_;rintro e w3 ⟨rfl,hr3,hk3⟩;have hGr:∀x,x=r→∃cs t fr,w2.heap[x]?=some (.cells cs t fr)∧t≠131∧t≠62:=fun x e=>by rw[e];exact⟨_,_,_,HR2.out,by decide,by decide⟩
 have hc3:=HC2.out.keep hk3 hGr hka.1;have hf3:FuelAt w3 fb _:=HF2.out.keep hk3 (fun e=>hrf e.symm);obtain⟨wv3,cv3,v13,hkk⟩:=hc3.hk;have y3:w3.cell? ⟨k,3,none⟩=some (.slice (some ⟨ka,0,none⟩) 2 kc):=cB (o:=3) hkk rfl;have g0:=hc3.c0;obtain⟨a1,a2,a3,a4,hk1⟩:=hc3.h1;obtain⟨b1,b2,b3,b4,b5,b6,ht1⟩:=hc3.t1
 have hrun1:=run_leaf 16 (.inl rfl) r fb k1 ta b1 b2 b4 b5 (s.take i) b3 b6 a1 a2 a4 (Ptr sa) a3 _ w3 hr3 hk1 ht1 hf3 (by rw[List.length_take];omega) (by show(s.take i).length<_;rw[List.length_take];omega) (by show(s.take i).length+(s.take i).length+1≤f.left-2*(s.length+1);rw[List.length_take];omega);have HRun1:=Hy hrun1;have HC3:=Hy hc3;have HK3:=Hy hk3;have HR3:=Hy hr3;have HF3:=Hy hf3
 clear hr3 hk3 hc3 hf3 hkk hk1 ht1 hrun1 HFa hGr;go_wp2_with fail;refine HRun1.out.mono ?_;rintro e w4 ⟨rfl,hr4,hf4,hk4⟩;have hG4:∀x,(x=r∨x=fb)→∃cs t fr,w3.heap[x]?=some (.cells cs t fr)∧t≠131∧t≠62:=fun x e=>by
  rcases e with e|e
  ·rw[e];exact⟨_,_,_,HR3.out,by decide,by decide⟩
  ·rw[e];exact⟨_,_,_,HF3.out.2,by decide,by decide⟩
 have hc4:=HC3.out.keep hk4 hG4 (fun e=>by rcases e with e|e;exact hka.1 e;exact hka.2 e);obtain⟨wv4,cv4,v14,hkk⟩:=hc4.hk;have y34:w4.cell? ⟨k,3,none⟩=some (.slice (some ⟨ka,0,none⟩) 2 kc):=cB (o:=3) hkk rfl;have g14:=hc4.c1;obtain⟨a1,a2,a3,a4,hk1⟩:=hc4.h2;obtain⟨b1,b2,b3,b4,b5,ht1⟩:=hc4.t2
 have hrun2:=run_leaf 17 (.inr rfl) r fb k2 tn b1 b2 text b4 (s.drop i) b3 b5 a1 a2 a4 (Ptr sb) a3 _ w4 hr4 hk1 ht1 hf4 (by rw[List.length_drop];omega) (by show text.length<_;omega) (by show(s.drop i).length+text.length+1≤f.left-2*(s.length+1)-((s.take i).length+(s.take i).length+1);rw[List.length_take,List.length_drop];omega)
 have e16:leafO 16 b4 (s.take i)=s.take i:=rfl;have e17:leafO 17 text (s.drop i)=text:=rfl;rw[e17]at hrun2;have HRun2:=Hy hrun2;have HK4:=Hy hk4;clear hr4 hf4 hk4 hc4 hkk hk1 ht1 hrun2 HRun1 y3 g0 hG4 e16 e17;go_wp2_with fail;refine HRun2.out.mono ?_;rintro e w5 ⟨rfl,hr5,hf5,hk5⟩
 have HFin:Hid (RunAt w5 r fb∧Keep (fun x=>x=r∨x=fb) w w5):=⟨hr5,(((HK2.out.wide fun x e=> .inl (.inr e)).trans (HK3.out.wide fun x e=> .inl (.inl e))).trans HK4.out).trans hk5⟩
 clear hr5 hf5 hk5 HRun2 y34 g14;go_wp2_with fail
 ·rename_i hx;exact absurd hx (by show ¬9223372036854775807<(s.take i).length+text.length;rw[List.length_take];omega)
 ·go_ret;exact⟨rfl,HFin.out⟩
end Go.Proofs.YtamkfdlcdiadlaaGreatDoor
namespace Go.Proofs.YtamkfdlcdiadlaaGreatDoor
open Go.RowKit Go.Maps
variable {H:Nat→Prop}
set_option maxRecDepth 20000 in
theorem made_cat (SA SB SW:Pv.Side)(hSA:SA.Ok)(hSB:SB.Ok)(hSW:SW.Ok)(fb k k1 k2 ka kc tb ta tn sa sb s1:Nat)(text s:List UInt8)(f:Pv.Fuel)(w:World)(hc:CatAt w k k1 k2 ka kc tb ta tn sa sb s1 text)(ha:SideAt H w SA sa)(hb:SideAt H w SB sb)(hw:SideAt H w SW s1)(hf:FuelAt w fb f)(hfb:H fb)(hka:ka≠fb)(hkl:ka<w.heap.size)
  (hs:s.length<1000) (htx:text.length<1000) (i:Nat) (hp:Pv.places SA SB s=[i]) (hac:SW.fore.accepts s=true) (hfl:6*s.length+text.length+20≤f.left):
  Calls Tryz.prog 83 #[Ptr k,Str s,Ptr fb,.bool false] w fun e w'=>e = .returned (.tuple #[Str (s.take i++text),.int .i64 0])∧Keep (· = fb) w w':=by
 have e1:=burn_eq f (s.length+1) (by omega);have hd:∀x,x=fb→∀(cs:Array Value) (fr:Nat × Nat),w.heap[x]?≠some (.cells cs 205 fr):=fun x e cs fr=>by rw[e];exact blk_ty hf.2 (by decide)
 have HE1:=Hy e1;have HDd:=Hy hd;have HC:=Hy hc;have HA:=Hy ha;have HB:=Hy hb;have HW:=Hy hw;have HF:=Hy hf;have HP:=Hy hp;have HAc:=Hy hac;have HSA:=Hy hSA;have HSB:=Hy hSB;have HSW:=Hy hSW;clear hc ha hb hw hf hp hac e1 hSA hSB hSW hd;have hfbw:=blk_lt HF.out.2;go_enter Tryz.func83,Tryz.ntmps83;go_wp2_with fail;obtain⟨r,hr⟩:∃r,w.heap.size=r:=⟨_,rfl⟩
 obtain⟨w1,hw1⟩:∃w1,w.alloc (.cells #[Ptr fb,.bool false,.int .i64 0] 179)=w1:=⟨_,rfl⟩
 have hb1:Below w.heap.size w w1:=by rw[←hw1];exact(Below.refl _ _).alloc (Nat.le_refl _) _
 have hr1:RunAt w1 r fb:=by rw[←hw1];exact blk_new hr
 rw[hw1,hr];clear hw1;have hsd:Pure 120 #[Ptr r,Ptr k] w1 (Ptr s1):=by obtain⟨wv,cv,v1,h2⟩:=(HC.out.later hb1).hk;exact rside_any r fb k tb s1 _ _ _ _ w1 hr1 h2
 have hm:=smatch_any (H:=H) SW HSW.out s1 fb f s w1 (HW.out.later hb1) (HF.out.later hb1) (by omega) hfb;rw[HE1.out,HAc.out]at hm;have HM:=Hy hm;have HSd:=Hy hsd;have HB1:=Hy hb1;have HR1:=Hy hr1;clear hb1 hr1 hm hsd;have hrf:r≠fb:=by omega
 refine HSd.out.mono ?_;rintro e w2 ⟨rfl,e2⟩;subst e2;clear HSd;go_wp2_with fail;refine HM.out.mono ?_;rintro e w2 ⟨rfl,hf2,hk2⟩;simp only[beq_self_eq_true,Bool.and_true]at *;have hc2:CatAt w2 k k1 k2 ka kc tb ta tn sa sb s1 text:=(HC.out.later HB1.out).keep hk2 (fun x e=>by rw[e];exact⟨_,_,_,later_blk HB1.out HF.out.2,by decide,by decide⟩) hka
 have hkw:Keep (· = fb) w w2:=(Keep.of_below HB1.out).trans_ hk2 fun x e=> .inl e
 have hr2:RunAt w2 r fb:=hk2.blk hrf HR1.out;have hrun:=run_cat (H:=H) SA SB HSA.out HSB.out r fb k k1 k2 ka kc tb ta tn sa sb s1 text s _ w2 hr2 hc2 (HA.out.keepT hkw (fun k e=> .inl (by rw[e];exact hfb)) HDd.out) (HB.out.keepT hkw (fun k e=> .inl (by rw[e];exact hfb)) HDd.out) hf2 hfb ⟨by omega,hka⟩ hs htx i HP.out (by simp only;omega);have HRun:=Hy hrun;have HKw:=Hy hkw
 clear hf2 hk2 hc2 hkw hr2 hrun HM;go_wp2_with fail;refine HRun.out.mono ?_;rintro e w3 ⟨rfl,hr3,hk3⟩;have HK3:=Hy (HKw.out.trans_ hk3 fun x e=>by
  rcases e with e|e
  ·exact .inr (by omega)
  ·exact .inl e)
 have x2:w3.cell? ⟨r,2,none⟩=some (.int .i64 0):=cB (o:=2) hr3 rfl;clear hr3 hk3 HRun;go_wp2_with fail;refine bodyPost_ret (v:= .tuple #[Str (s.take i++text),.int .i64 0]) ?_ rfl ⟨rfl,HK3.out⟩;simp[results,Tryz.results83,go_sem]
theorem canonize_cat (SA SB SW:Pv.Side)(hSA:SA.Ok)(hSB:SB.Ok)(hSW:SW.Ok)(fb k k1 k2 ka kc tb ta tn sa sb s1:Nat)(text s:List UInt8)(f:Pv.Fuel)(w:World)(hc:CatAt w k k1 k2 ka kc tb ta tn sa sb s1 text)(ha:SideAt H w SA sa)(hb:SideAt H w SB sb)(hw:SideAt H w SW s1)(hf:FuelAt w fb f)(hfb:H fb)(hka:ka≠fb)(hkl:ka<w.heap.size)
  (hs:s.length<1000) (htx:text.length<1000) (i:Nat) (hp:Pv.places SA SB s=[i]) (hac:SW.fore.accepts s=true) (hfl:6*s.length+text.length+20≤f.left):
  Calls Tryz.prog 45 #[Ptr k,Str s,Ptr fb] w fun e w'=>e = .returned (.tuple #[Str (s.take i++text),.int .i64 0])∧Keep (· = fb) w w':=by
 have hm:=made_cat (H:=H) SA SB SW hSA hSB hSW fb k k1 k2 ka kc tb ta tn sa sb s1 text s f w hc ha hb hw hf hfb hka hkl hs htx i hp hac hfl;have HM:=Hy hm;clear hm hc ha hb hw hf hp;go_enter Tryz.func45,Tryz.ntmps45;go_wp2_with fail;refine HM.out.mono ?_;rintro e w3 ⟨rfl,hk3⟩;have HK3:=Hy hk3;clear hk3;go_wp2_with fail
 refine bodyPost_ret (v:= .tuple #[Str (s.take i++text),.int .i64 0]) ?_ rfl ⟨rfl,HK3.out⟩;simp[results,Tryz.results45,go_sem]
end Go.Proofs.YtamkfdlcdiadlaaGreatDoor
namespace Go.Proofs.YtamkfdlcdiadlaaGreatDoor
open Go.RowKit Go.Maps
variable {H:Nat→Prop}
abbrev F0:Value:= .agg #[.int .i64 0,.int .i64 0,.int .i64 0,.bool false,Str [],.int .i64 0,.int .i64 0]
theorem fl_set {w:World}{r:Nat}(h:w.heap[r]?=some (.cells #[.int .i64 0,.int .i64 0,.int .i64 0,.bool false,Str [],.int .i64 0,.int .i64 0] 38)):
  (((((((w.setCell ⟨r,0,none⟩ (.int .i64 0)).setCell ⟨r,1,none⟩ (.int .i64 0)).setCell ⟨r,2,none⟩ (.int .i64 0)).setCell ⟨r,3,none⟩ (.bool false)).setCell ⟨r,4,none⟩ (Str [])).setCell ⟨r,5,none⟩ (.int .i64 0)).setCell ⟨r,6,none⟩ (.int .i64 0)).heap[r]?=some (.cells #[.int .i64 0,.int .i64 0,.int .i64 0,.bool false,Str [],.int .i64 0,.int .i64 0] 38) ∧
  Keep (· = r) w (((((((w.setCell ⟨r,0,none⟩ (.int .i64 0)).setCell ⟨r,1,none⟩ (.int .i64 0)).setCell ⟨r,2,none⟩ (.int .i64 0)).setCell ⟨r,3,none⟩ (.bool false)).setCell ⟨r,4,none⟩ (Str [])).setCell ⟨r,5,none⟩ (.int .i64 0)).setCell ⟨r,6,none⟩ (.int .i64 0)):=by
 have K:∀(W:World) (o:Nat) (v:Value),Keep (· = r) W (W.setCell ⟨r,o,none⟩ v):=fun W o v=>Keep.set rfl
 refine⟨?_,((((((K _ _ _).trans (K _ _ _)).trans (K _ _ _)).trans (K _ _ _)).trans (K _ _ _)).trans (K _ _ _)).trans (K _ _ _)⟩;rw[blk_set (blk_set (blk_set (blk_set (blk_set (blk_set (blk_set h))))))];rfl
set_option maxRecDepth 20000 in
theorem make_any (tb bb:Nat)(w:World)(Q:Nat→World→Prop)(hQ:∀k w1 w2 (cs:Array Value),Q k w1→w1.heap[w.heap.size]?=some (.cells cs 38)→cs[0]?=some (.int .i64 0)→Keep (· = w.heap.size) w1 w2→Q k w2)
  (hc:∀w1 c,Below w.heap.size w w1→CkAt w1 c bb {}→w.heap.size<c→Calls Tryz.prog 57 #[Ptr c,Ptr tb] w1 fun e w'=>∃k,e = .returned (Ptr k)∧Q k w'∧Keep (· = bb) w1 w') (hb:bb<w.heap.size):
  Calls Tryz.prog 14 #[Ptr tb,Ptr bb] w fun e w'=>∃k,e = .returned (.tuple #[Ptr k,F0])∧Q k w'∧Keep (· = bb) w w':=by
 have HQ:=Hy hQ;have HC:=Hy hc;clear hQ hc;go_enter Tryz.func14,Tryz.ntmps14;go_wp2_with fail;obtain⟨r,hr⟩:∃r,w.heap.size=r:=⟨_,rfl⟩
 obtain⟨w1,hw1⟩:∃w1,(w.alloc (.cells #[.int .i64 0,.int .i64 0,.int .i64 0,.bool false,Str [],.int .i64 0,.int .i64 0] 38)).alloc (.cells #[Ptr bb,.int .i64 0,.int .i64 0,.int .i64 0,.bool false,Str [],.int .i64 0,.int .i64 0] 117)=w1:=⟨_,rfl⟩
 have hb1:Below w.heap.size w w1:=by rw[←hw1];exact((Below.refl _ _).alloc (Nat.le_refl _) _).alloc (by simp) _
 have hr1:w1.heap[r]?=some (.cells #[.int .i64 0,.int .i64 0,.int .i64 0,.bool false,Str [],.int .i64 0,.int .i64 0] 38):=by rw[←hw1];exact blk_old (blk_new hr)
 have hc1:CkAt w1 (r+1) bb {}:=by rw[←hw1];exact blk_new (by simp;omega)
 rw[hw1,hr];clear hw1;have hca:=HC.out w1 (r+1) hb1 hc1 (by omega);have HCa:=Hy hca;have HR1:=Hy hr1;have HB1:=Hy hb1;have HC1:=Hy hc1;clear hca hb1 hr1 hc1 HC;refine HCa.out.mono ?_;rintro e w2 ⟨k,rfl,hq2,hk2⟩;have hr2:=hk2.blk (show ¬r=bb by omega) HR1.out;have hok:=ok_any (r+1) bb {} w2 (HC1.out.keep hk2 (by omega));have HOk:=Hy hok;have HR2:=Hy hr2;have HQ2:=Hy hq2
 have HKw:=Hy ((Keep.of_below HB1.out).trans_ hk2 fun x e=> .inl e);clear hok hr2 hq2 hk2 HCa;go_wp2_with fail;refine HOk.out.mono ?_;rintro e w3 ⟨rfl,e3⟩;subst e3;clear HOk;have x0:w2.cell? ⟨r,0,none⟩=some (.int .i64 0):=cB (o:=0) HR2.out rfl;have x1:w2.cell? ⟨r,1,none⟩=some (.int .i64 0):=cB (o:=1) HR2.out rfl;have x2:w2.cell? ⟨r,2,none⟩=some (.int .i64 0):=cB (o:=2) HR2.out rfl
 have x3:w2.cell? ⟨r,3,none⟩=some (.bool false):=cB (o:=3) HR2.out rfl;have x4:w2.cell? ⟨r,4,none⟩=some (Str []):=cB (o:=4) HR2.out rfl;have x5:w2.cell? ⟨r,5,none⟩=some (.int .i64 0):=cB (o:=5) HR2.out rfl;have x6:w2.cell? ⟨r,6,none⟩=some (.int .i64 0):=cB (o:=6) HR2.out rfl;have fr:∀o,w2.frozen? ⟨r,o,none⟩=false:=fun o=>fob HR2.out
 go_wp2_with fail;clear x0 x1 x2 x3 x4 x5 x6 fr;have hst:=fl_set HR2.out;obtain⟨w4,hw4⟩:∃w4,(((((((w2.setCell ⟨r,0,none⟩ (.int .i64 0)).setCell ⟨r,1,none⟩ (.int .i64 0)).setCell ⟨r,2,none⟩ (.int .i64 0)).setCell ⟨r,3,none⟩ (.bool false)).setCell ⟨r,4,none⟩ (Str [])).setCell ⟨r,5,none⟩ (.int .i64 0)).setCell ⟨r,6,none⟩ (.int .i64 0))=w4:=⟨_,rfl⟩
 rw[hw4]at hst ⊢;clear hw4;have x0:w4.cell? ⟨r,0,none⟩=some (.int .i64 0):=cB (o:=0) hst.1 rfl;have x1:w4.cell? ⟨r,1,none⟩=some (.int .i64 0):=cB (o:=1) hst.1 rfl;have x2:w4.cell? ⟨r,2,none⟩=some (.int .i64 0):=cB (o:=2) hst.1 rfl;have x3:w4.cell? ⟨r,3,none⟩=some (.bool false):=cB (o:=3) hst.1 rfl;have x4:w4.cell? ⟨r,4,none⟩=some (Str []):=cB (o:=4) hst.1 rfl
 have x5:w4.cell? ⟨r,5,none⟩=some (.int .i64 0):=cB (o:=5) hst.1 rfl;have x6:w4.cell? ⟨r,6,none⟩=some (.int .i64 0):=cB (o:=6) hst.1 rfl;refine bodyPost_ret (v:= .tuple #[Ptr k,F0]) ?_ rfl ⟨k,rfl,HQ.out k w2 w4 _ HQ2.out (by rw[hr];exact HR2.out) rfl (by rw[hr];exact hst.2),HKw.out.trans_ hst.2 fun x e=> .inr (by omega)⟩;simp[results,Tryz.results14,go_sem,x0,x1,x2,x3,x4,x5,x6]
end Go.Proofs.YtamkfdlcdiadlaaGreatDoor
namespace Go.Proofs.YtamkfdlcdiadlaaGreatDoor
open Go.RowKit Go.Maps
variable {H:Nat→Prop}
theorem info_tp:(Tryz.prog.info? 26).map (fun i=>(i.zero,i.size,i.bytes))=some (some (.pointer none),1,8):=by kernel_rfl
structure LofP (w w':World)(op tb ta tn:Nat):Prop where
 new:w.heap.size≤tb
 ex:∃ka kc,w.heap.size≤ka∧TermAt w' tb op 0 [] (.pointer none) [] [] (.slice (some ⟨ka,0,none⟩) 2 kc)∧w'.cell? ⟨ka,0,none⟩=some (Ptr ta)∧w'.cell? ⟨ka,1,none⟩=some (Ptr tn)
 bel:Below w.heap.size w w'
set_option maxRecDepth 20000 in
theorem lof_any (op ta tn g c:Nat)(w:World)(hs:Sl w (some ⟨g,0,none⟩) c [Ptr ta,Ptr tn]):
  Calls Tryz.prog 44 #[.int .i64 (op:Int),.slice (some ⟨g,0,none⟩) 2 c] w fun e w'=>∃tb,e = .returned (Ptr tb)∧LofP w w' op tb ta tn:=by
 obtain⟨i0,hi,hz0,hz1,hz2⟩:=info_parts info_tp;have HS:=Hy hs;clear hs;go_enter Tryz.func44,Tryz.ntmps44;go_wp2_with (at_builtin;refine appS 60 26 i0 _ 8 Tryz.underlying60 hi hz0 hz1 hz2 rfl (by omega) rfl _ _ rfl w.heap.size _ [] rfl (Row.nil _ _ _) _ _ _ [Ptr ta,Ptr tn] rfl rfl HS.out ?c1 ?c2 (Nat.le_refl _) ?c3)
 case c1=>
  intro u hu;simp at hu;rcases hu with rfl|rfl<;>rfl
 case c2=>simp
 case c3=>
  intro v1 w1 hr1 hb1 hg1;obtain⟨a1,c1,ev1,hs1,ho1⟩:=hr1.form;simp only[List.nil_append,List.length_cons,List.length_nil,Nat.zero_add]at ev1;obtain⟨ka,rfl,hka1,hka2⟩:=ho1 (by simp);subst ev1;obtain⟨b0,o0,f0,f1⟩:=hs1.cell 0 (by simp);injection f0 with f0
  obtain⟨b2,o2,f2,f3⟩:=hs1.cell 1 (by simp);injection f2 with f2
  injection f0 with f0 f0'
  injection f2 with f2 f2'
  subst f0 f0' f2 f2';simp only[Nat.add_zero,Nat.zero_add,List.nil_append,List.getElem_cons_zero,List.getElem_cons_succ]at f1 f3;have F1:=Hy f1;have F3:=Hy f3;have HB1:=Hy hb1;have hz:=hb1.size;clear f1 f3 hb1 hr1 hs1 ho1 hg1 HS;go_wp2_with fail
  have hb2:Below w1.heap.size w1 (w1.alloc (.cells (termC op 0 [] (.pointer none) [] [] (.slice (some ⟨ka,0,none⟩) 2 c1)) 62)):=(Below.refl _ _).alloc (Nat.le_refl _) _;refine bodyPost_ret (v:=Ptr w1.heap.size) ?_ rfl ⟨w1.heap.size,rfl,hz,⟨ka,c1,hka1,blk_new rfl,later hb2 F1.out,later hb2 F3.out⟩,HB1.out.alloc hz _⟩;simp[results,Tryz.results44,go_sem]
end Go.Proofs.YtamkfdlcdiadlaaGreatDoor
namespace Go.Proofs.YtamkfdlcdiadlaaGreatDoor
open Go.RowKit Go.Maps
variable {H:Nat→Prop}
def CanQ (r bb tb:Nat)(k:Nat)(w:World):Prop:=∃k1 k2 ka kc ta tn sa sb s1 SA SB S1,CatAt w k k1 k2 ka kc tb ta tn sa sb s1 [97]∧SideAt (fun x=>x=bb∨x=r) w SA sa∧SideAt (fun x=>x=bb∨x=r) w SB sb∧SideAt (fun x=>x=bb∨x=r) w S1 s1∧SA.Ok∧SB.Ok∧S1.Ok∧Pv.places SA SB [120,98,98]=[1]∧S1.fore.accepts [120,98,98]=true
theorem cell_lt {w:World}{b o:Nat}{v:Value}(h:w.cell? ⟨b,o,none⟩=some v):b<w.heap.size:=World.block_lt_of_cell? w _ h
set_option maxRecDepth 20000 in
theorem head_make (ta tn tb rb1 rb2 ka0 kc0 bb u:Nat)(w:World)(hT:Tab w)
  (ht1:TermAt w ta 16 0 [] (Ptr rb1) [] [] (.slice none 0 0)) (ht2:TermAt w tn 17 0 [] (Ptr rb2) [97] [] (.slice none 0 0)) (ht3:TermAt w tb 8 0 [] (.pointer none) [] [] (.slice (some ⟨ka0,0,none⟩) 2 kc0)) (hs0:w.cell? ⟨ka0,0,none⟩=some (Ptr ta)) (hs1:w.cell? ⟨ka0,1,none⟩=some (Ptr tn)) (hka:ka0≠bb)
  (hr1:ReAt (· = bb) w Pv.hR1 rb1) (hr2:ReAt (· = bb) w Pv.hR2 rb2) (hbud:BudAt w bb 500 u):
  Calls Tryz.prog 14 #[Ptr tb,Ptr bb] w fun e w'=>∃k,e = .returned (.tuple #[Ptr k,F0])∧CanQ w.heap.size bb tb k w'∧Keep (· = bb) w w':=by
 have hbw:=blk_lt hbud.2;refine make_any tb bb w (CanQ w.heap.size bb tb) ?_ ?_ hbw
 ·intro k w1 w2 cs ⟨k1,k2,ka,kc,ta',tn',sa,sb,s1,SA,SB,S1,hc,ha,hb,h1,o1,o2,o3,o4,o5⟩ hr h0 hk;have hne:ka≠w.heap.size:=by rintro rfl;have h3:=cB hr h0;rw[hc.c0]at h3;cases h3
  have hsd:∀ {S:Pv.Side} {s:Nat},SideAt (fun x=>x=bb∨x=w.heap.size) w1 S s→SideAt (fun x=>x=bb∨x=w.heap.size) w2 S s:=fun h=>h.keepT hk (fun x e=> .inl (.inr e)) (fun x e cs' fr=>by rw[e];exact blk_ty hr (by decide))
  exact⟨k1,k2,ka,kc,ta',tn',sa,sb,s1,SA,SB,S1,hc.keep hk (fun x e=>by rw[e];exact⟨_,_,_,hr,by decide,by decide⟩) (fun h=>hne h),hsd ha,hsd hb,hsd h1,o1,o2,o3,o4,o5⟩
 ·intro w1 c hb1 hc1 hcl;have hwid:∀x,(x=bb∨x=w.heap.size)→(x=bb)∨w.heap.size≤x:=fun x e=>by
   rcases e with e|e
   ·exact .inl e
   ·exact .inr (by omega)
  have hc1l:=blk_lt hc1;obtain⟨SA,eA⟩:=Pv.some_get Pv.h_f1 Pv.h_e1;obtain⟨XA,eXA⟩:=Pv.some_get Pv.h_f2 Pv.h_e2;obtain⟨SB,eB⟩:=Pv.some_get Pv.h_f3 Pv.h_e3;obtain⟨XB,eXB⟩:=Pv.some_get Pv.h_f4 Pv.h_e4;obtain⟨S1,e7⟩:=Pv.some_get Pv.h_f7 Pv.h_e7;obtain⟨S2,e8⟩:=Option.isSome_iff_exists.1 Pv.h_f8;have e5:=Pv.pair_get Pv.h_e5 Pv.h_f5;have e6:=Pv.pair_get Pv.h_e6 Pv.h_f6
  have hca:=canon_head (H:=fun x=>x=bb∨x=w.heap.size) (· ∈ Pv.hL) (fun r c hr=>Pv.closedL_by Pv.hL_closed c hr) Pv.hL_size Pv.hR1 Pv.hR2 (by simp[Pv.hL]) tb ta tn rb1 rb2 ka0 kc0 c bb 500 u 0 0 0 [] [] [] [] [] [97] [] [] [] (.pointer none) w1 (hT.later hb1) (later_blk hb1 ht1) (later_blk hb1 ht2) (later_blk hb1 ht3) (later hb1 hs0) (later hb1 hs1) hka
   ((hr1.widen hwid).later hb1) ((hr2.widen hwid).later hb1) (by simp) Pv.h_match (hbud.later hb1) (.inl rfl) (fun h e=>by rcases e with e|e<;>omega) Pv.h_size (by omega) hc1 SA XA SB XB S1 S2 494 488 484 478 470 461 455 eA eXA eB eXB e5 e6 e7 e8 (by omega) (Pv.headsSum_le Pv.h_d1) (Pv.headsSum_le Pv.h_d2)
  refine hca.mono ?_;rintro e w2 ⟨k,k1,k2,ka,kc,wv,cv,v1,v2,v3,v4,cb2,sa,sb,s1,rfl,hk,hx,hk0,hk1,hx1,⟨v5,v6,hx2⟩,ha,hb,h1,o1,o2,o3,hkp⟩;have hnt:∀ {b:Nat} {cs:Array Value},w1.heap[b]?=some (.cells cs 62)→¬b=bb:=fun h e=>by rw[e,(hbud.later hb1).2]at h;cases h
  refine⟨k,rfl,⟨k1,k2,ka,kc,ta,tn,sa,sb,s1,SA,SB,S1,⟨⟨_,_,_,hx⟩,hk0,hk1,⟨_,_,_,_,hx1⟩,⟨_,_,_,_,hx2⟩,⟨_,_,_,_,_,_,hkp.blk (hnt (later_blk hb1 ht3)) (later_blk hb1 ht3)⟩,⟨_,_,_,_,_,_,hkp.blk (hnt (later_blk hb1 ht1)) (later_blk hb1 ht1)⟩,⟨_,_,_,_,_,hkp.blk (hnt (later_blk hb1 ht2)) (later_blk hb1 ht2)⟩⟩,ha,hb,h1,o1,o2,o3,?_,?_⟩,hkp⟩
  ·have:=Pv.h_places;rw[eA,eB]at this;injection this
  ·have:=Pv.h_accepts;rw[e7]at this;injection this
end Go.Proofs.YtamkfdlcdiadlaaGreatDoor
namespace Go.Proofs.YtamkfdlcdiadlaaGreatDoor
open Go.RowKit Go.Maps
variable {H:Nat→Prop}
theorem ab_any (g:Nat)(w:World)(h:w.heap[g]?=some (.cells #[.int .u8 97,.int .u8 98] 5)):GivesSet 42 #[.slice (some ⟨g,0,none⟩) 2 2] w (Pv.S4.of [97,98]):=
 of_any [97,98] (some ⟨g,0,none⟩) 2 w (Sl.of_blk2 h) (by decide)
set_option maxRecDepth 20000 in
set_option maxHeartbeats 1000000 in
theorem head_any (w:World)(hT:Tab w):Calls Tryz.prog 9 #[] w fun e w'=>e = .returned (.bool true)∧Keep (fun _=>False) w w':=by
 have HT:=Hy hT;clear hT;go_enter Tryz.func9,Tryz.ntmps9;go_wp2_with fail;obtain⟨w1,hw1⟩:∃w1,w.alloc (.cells #[.int .u8 97,.int .u8 98] 5)=w1:=⟨_,rfl⟩
 have hb1:Below w.heap.size w w1:=by rw[←hw1];exact(Below.refl _ _).alloc (Nat.le_refl _) _
 have hg1:w1.heap[w.heap.size]?=some (.cells #[.int .u8 97,.int .u8 98] 5):=by rw[←hw1];exact blk_new rfl
 rw[hw1];clear hw1;refine(ab_any _ w1 hg1).mono ?_;rintro e w2 ⟨rfl,hb2⟩;have h02:=hb1.trans (hb2.mono hb1.size);clear hg1 hb1 hb2;go_wp2_with fail;refine(one_any (H:=fun _=>False) (Pv.S4.of [97,98]) w2 (fun _ h=>h.elim)).mono ?_;rintro e w3 ⟨ro,rfl,hro,hb3⟩;go_wp2_with fail;refine(many_any (H:=fun _=>False) (Pv.one (Pv.S4.of [97,98])) ro w3 hro (fun _ h=>h.elim) (by decide +kernel)).mono ?_
 rintro e w4 ⟨rb2,rfl,hr2,hb4⟩;have h04:=(h02.trans (hb3.mono h02.size)).trans (hb4.mono (Nat.le_trans h02.size hb3.size));have H4:=Hy h04;have HR2:=Hy hr2;clear h04 h02 hb3 hb4 hr2 hro;go_wp2_with fail;obtain⟨tn,htn⟩:∃n,w4.heap.size=n:=⟨_,rfl⟩
 obtain⟨w5,hw5⟩:∃w5,w4.alloc (.cells #[.int .i64 17,.int .i64 0,Str [],Ptr rb2,Str [97],Str [],.slice none 0 0] 62)=w5:=⟨_,rfl⟩
 have hb5:Below w4.heap.size w4 w5:=by rw[←hw5];exact(Below.refl _ _).alloc (Nat.le_refl _) _
 have ht5:TermAt w5 tn 17 0 [] (Ptr rb2) [97] [] (.slice none 0 0):=by rw[←hw5];exact blk_new htn
 rw[hw5,htn];clear hw5;have HT5:=Hy ht5;have HB5:=Hy hb5;have hz5:=hb5.size;have h5:=H4.out.trans (hb5.mono H4.out.size);have H5:=Hy h5;clear ht5 hb5 h5;refine(word_any (H:=fun _=>False) [120] w5 (fun _ h=>h.elim) (by decide)).mono ?_;rintro e w6 ⟨rb1,rfl,hr1,hb6⟩;have HR1:=Hy hr1;have HB6:=Hy hb6;have H6:=Hy (H5.out.trans (hb6.mono H5.out.size));clear hr1 hb6;go_wp2_with fail
 obtain⟨ta,hta⟩:∃n,w6.heap.size=n:=⟨_,rfl⟩
 obtain⟨g,hg⟩:∃n,ta+1=n:=⟨_,rfl⟩
 obtain⟨w7,hw7⟩:∃w7,(w6.alloc (.cells #[.int .i64 16,.int .i64 0,Str [],Ptr rb1,Str [],Str [],.slice none 0 0] 62)).alloc (.cells #[Ptr ta,Ptr tn] 26)=w7:=⟨_,rfl⟩
 have hb7:Below w6.heap.size w6 w7:=by rw[←hw7];exact((Below.refl _ _).alloc (Nat.le_refl _) _).alloc (by simp) _
 have ht7:TermAt w7 ta 16 0 [] (Ptr rb1) [] [] (.slice none 0 0):=by rw[←hw7];exact blk_old (blk_new hta)
 have hg7:w7.heap[g]?=some (.cells #[Ptr ta,Ptr tn] 26):=by rw[←hw7];exact blk_new (by simp;omega)
 rw[hta,hg,hw7];clear hw7;have HB7:=Hy hb7;have HT7:=Hy ht7;have hlof:=lof_any 8 ta tn g 2 w7 (Sl.of_blk2 hg7);have HLof:=Hy hlof;have H7:=Hy (H6.out.trans (hb7.mono H6.out.size));clear hb7 ht7 hg7 hlof;refine HLof.out.mono ?_;rintro e w8 ⟨tb,rfl,hl8⟩;have HL8:=Hy hl8;have H8:=Hy (H7.out.trans (hl8.bel.mono H7.out.size));clear hl8 HLof;go_wp2_with fail;refine(grant_any 500 (by decide) w8).mono ?_
 rintro e w9 ⟨rfl,hbud,hb9,hl9⟩;obtain⟨bb,hbb⟩:∃n,w8.heap.size=n:=⟨_,rfl⟩
 rw[hbb]at hbud ⊢;obtain⟨ka,kc,hka,ht8,hc0,hc1⟩:=HL8.out.ex;have hkal:=cell_lt hc0;have b78:Below w7.heap.size w7 w9:=HL8.out.bel.trans (hb9.mono HL8.out.bel.size);have b68:Below w6.heap.size w6 w8:=HB7.out.trans (HL8.out.bel.mono HB7.out.size);have b48:Below w4.heap.size w4 w8:=(HB5.out.trans (HB6.out.mono HB5.out.size)).trans (b68.mono (by have:=HB5.out.size;have:=HB6.out.size;omega))
 have b59:Below w5.heap.size w5 w9:=(HB6.out.trans (b68.mono HB6.out.size)).trans (hb9.mono (by have:=HB6.out.size;have:=b68.size;omega));have hwd:∀ {r:Pv.R} {b:Nat},ReAt (fun _=>False) w8 r b→ReAt (· = bb) w9 r b:=fun h=>(h.widen fun x e=> .inr (by omega)).later hb9
 have hmk:=head_make ta tn tb rb1 rb2 ka kc bb 0 w9 (HT.out.later (H8.out.trans (hb9.mono H8.out.size))) (later_blk b78 HT7.out) (later_blk b59 HT5.out) (later_blk hb9 ht8) (later hb9 hc0) (later hb9 hc1) (by omega) (hwd (HR1.out.later b68)) (hwd (HR2.out.later b48)) hbud;have HMk:=Hy hmk;have H9:=Hy (H8.out.trans (hb9.mono H8.out.size));have hbbw:w.heap.size≤bb:=by have:=H8.out.size;omega
 clear hbud hb9 ht8 hc0 hc1 b78 b68 b48 b59 hwd hmk hkal hka;go_wp2_with fail;refine HMk.out.mono ?_;rintro e wa ⟨k,rfl,hq,hka⟩;have HQ:=Hy hq;have HKa:Hid (Keep (fun _=>False) w wa):=(Keep.of_below H9.out).trans_ hka fun x e=> .inr (by rw[e];exact hbbw)
 have hbba:bb<wa.heap.size:=by have:=hka.size;omega
 clear hq hka HMk HT5 HB5 HB6 HT7 HB7 HL8 H8 H7 H6 H5 H4 HR1 HR2;go_wp2_with fail;obtain⟨r,hr⟩:∃n,wa.heap.size=n:=⟨_,rfl⟩
 obtain⟨wb,hwb⟩:∃wb,wa.alloc (.cells #[.int .i64 0,.int .i64 0,.int .i64 0,.bool false,Str [],.int .i64 0,.int .i64 0] 38)=wb:=⟨_,rfl⟩
 have hbb1:Below wa.heap.size wa wb:=by rw[←hwb];exact(Below.refl _ _).alloc (Nat.le_refl _) _
 rw[hr,hwb];clear hwb;refine(fill_any 500 (by decide) wb).mono ?_;rintro e wc ⟨rfl,hf,hbc,hlc⟩;obtain⟨fb,hfb⟩:∃n,wb.heap.size=n:=⟨_,rfl⟩
 rw[hfb]at hf ⊢;obtain⟨k1,k2,kb,kc',ta',tn',sa,sb,s1,SA,SB,S1,hc,ha,hb,h1,o1,o2,o3,o4,o5⟩:=HQ.out;have hab:Below wa.heap.size wa wc:=hbb1.trans (hbc.mono hbb1.size);have hwd:∀ {S:Pv.Side} {s:Nat},SideAt (fun x=>x=bb∨x=w9.heap.size) wa S s→SideAt (· = fb) wc S s:=fun h=>(h.widen (H':=(· = fb)) fun x e=> .inr (by have:=hbb1.size;omega)).later hab
 have hkbl:=cell_lt hc.c0;have hcn:=canonize_cat (H:=(· = fb)) SA SB S1 o1 o2 o3 fb k k1 k2 kb kc' tb ta' tn' sa sb s1 [97] [120,98,98] ⟨500,0⟩ wc (hc.later hab) (hwd ha) (hwd hb) (hwd h1) hf rfl (by have:=hbb1.size;omega) (by have:=hab.size;omega) (by decide) (by decide) 1 o4 o5 (by decide);have HCn:=Hy hcn;have HKc:Hid (Keep (fun _=>False) w wc):=HKa.out.trans (Keep.of_below hab)
 have hfw:w.heap.size≤fb:=by have:=HKa.out.size;have:=hbb1.size;omega
 clear hf hbc hab hwd hc ha hb h1 hcn HQ HKa hbb1 o1 o2 o3 o4 o5;go_wp2_with fail;refine HCn.out.mono ?_;rintro e wd ⟨rfl,hkd⟩;have HKd:Hid (Keep (fun _=>False) w wd):=HKc.out.trans_ hkd fun x e=> .inr (by rw[e];exact hfw)
 clear hkd HCn HKc;go_wp2_with fail;go_ret;exact⟨rfl,HKd.out⟩
end Go.Proofs.YtamkfdlcdiadlaaGreatDoor
