/- The walk of dfa.Build's closure: the state of an expression. -/
import Derived.Test.YtamkfdlcdiadlaaGreatDoorKb05
import Derived.Test.YtamkfdlcdiadlaaGreatDoorKb13
import Derived.Test.YtamkfdlcdiadlaaGreatDoorKb15
import Derived.Test.YtamkfdlcdiadlaaGreatDoorKb03
set_option linter.all false
namespace Go.Proofs.YtamkfdlcdiadlaaGreatDoor
open Go.RowKit Go.Maps
variable {H:Nat→Prop}
def dfaList (at_:Nat→Nat)(hv nv yv:Value)(rest:List Value):List Value:=(cellsOf at_).toList++(hv::nv::yv::rest)
abbrev dfaCells (at_:Nat→Nat)(hv nv yv:Value)(rest:List Value):Array Value:=(dfaList at_ hv nv yv rest).toArray
theorem dfa_at (at_:Nat→Nat)(hv nv yv:Value)(rest:List Value)(b:Nat)(hb:b<256):(dfaCells at_ hv nv yv rest)[b]?=some (.int .u8 (at_ b:Int)):=by simp only[dfaList,List.getElem?_toArray];rw[List.getElem?_append_left (by simp[cellsOf];exact hb)];simp[cellsOf,hb]
theorem dfa_get (at_:Nat→Nat)(hv nv yv:Value)(rest:List Value)(i:Nat):(dfaCells at_ hv nv yv rest)[256+i]?=(hv::nv::yv::rest)[i]?:=by simp only[dfaList,List.getElem?_toArray];rw[List.getElem?_append_right (by simp[cellsOf])];simp[cellsOf]
theorem dfa_set (at_:Nat→Nat)(hv nv yv:Value)(rest:List Value)(i:Nat)(v:Value):(dfaCells at_ hv nv yv rest).setIfInBounds (256+i) v=((cellsOf at_).toList++(hv::nv::yv::rest).set i v).toArray:=by simp only[dfaList,List.setIfInBounds_toArray];rw[List.set_append_right _ _ (by simp[cellsOf])];simp[cellsOf]
theorem dfa_heads_ {at_:Nat→Nat}{hv nv yv:Value}{rest:List Value}:(dfaCells at_ hv nv yv rest)[256]?=some hv:=dfa_get _ _ _ _ _ 0
theorem dfa_next_ {at_:Nat→Nat}{hv nv yv:Value}{rest:List Value}:(dfaCells at_ hv nv yv rest)[257]?=some nv:=dfa_get _ _ _ _ _ 1
theorem dfa_yes_ {at_:Nat→Nat}{hv nv yv:Value}{rest:List Value}:(dfaCells at_ hv nv yv rest)[258]?=some yv:=dfa_get _ _ _ _ _ 2
theorem dfa_set_heads {at_:Nat→Nat}{hv nv yv v:Value}{rest:List Value}:(dfaCells at_ hv nv yv rest).setIfInBounds 256 v=dfaCells at_ v nv yv rest:=dfa_set _ _ _ _ _ 0 v
theorem dfa_set_next {at_:Nat→Nat}{hv nv yv v:Value}{rest:List Value}:(dfaCells at_ hv nv yv rest).setIfInBounds 257 v=dfaCells at_ hv v yv rest:=dfa_set _ _ _ _ _ 1 v
theorem dfa_set_yes {at_:Nat→Nat}{hv nv yv v:Value}{rest:List Value}:(dfaCells at_ hv nv yv rest).setIfInBounds 258 v=dfaCells at_ hv nv v rest:=dfa_set _ _ _ _ _ 2 v
abbrev own2 (H:Nat→Prop)(v v':Value):Nat→Prop:=fun k=>H k∨v.ownBlock=some k∨v'.ownBlock=some k
theorem ReAt.appended {G G':Nat→Prop}{w w':World}{v:Value}{r:Pv.R}{b:Nat}(h:ReAt G w r b)(hk:Keep (fun k=>v.ownBlock=some k) w w')(hv:∀k,v.ownBlock=some k→G k)(hG:∀k,G' k→G k∨w.heap.size≤k):ReAt G' w' r b:=by
 have h1:ReAt (fun k=>G k∨G' k) w r b:=h.widen fun k hk=>by
  rcases hk with hk|hk
  ·exact .inl hk
  ·exact hG k hk
 exact(h1.keep (hk.wide fun k e=> .inl (.inl (hv k e)))).widen fun k hk=> .inl (.inr hk)
theorem Moved.fresh {w w0:World}{v v':Value}(h:Moved w v v')(hw:w0.heap.size≤w.heap.size){k:Nat}(hk:v'.ownBlock=some k):v.ownBlock=some k∨w0.heap.size≤k:=by
 rcases h with e|⟨g,e,hg⟩
 ·exact .inl (by rw[←e];exact hk)
 ·rw[e]at hk;injection hk with hk;subst hk;exact .inr (by omega)
structure BSt (H:Nat→Prop)(N0 bb B3 Bk M Ba Bd D:Nat)(at_:Nat→Nat)(hv nv:Value)(rest:List Value)(w:World)(ps:List (Nat × Pv.R))(av yv:Value)(l u:Nat):Prop where
 b3:w.heap[B3]?=some (.cells #[Ptr bb] 31)
 bk:w.heap[Bk]?=some (.cells #[.map (some M)] 208)
 ba:w.heap[Ba]?=some (.cells #[av] 101)
 bd:w.heap[Bd]?=some (.cells #[Ptr D] 152)
 d:w.heap[D]?=some (.cells (dfaCells at_ hv nv yv rest) 205)
 m:MapAt w M (ps.map fun x=>Str (Pv.key x.2)) ((List.range ps.length).map fun(i:Nat)=>Value.int .i64 (i:Int))
 all:Row N0 59 w av (vals ps)
 yes:Row N0 4 w yv (ps.map fun x=> .bool (Pv.null x.2))
 pr:Prs (own2 H av yv) w ps
 bud:BudAt w bb l u
 hb:H bb∧H M∧H Ba∧H D
 st:Pv.States (ps.map (·.2))
theorem BSt.later {N0 bb B3 Bk M Ba Bd D:Nat}{at_:Nat→Nat}{hv nv:Value}{rest:List Value}{w w':World}{ps:List (Nat × Pv.R)}{av yv:Value}{l u:Nat}(h:BSt H N0 bb B3 Bk M Ba Bd D at_ hv nv rest w ps av yv l u)(hb:Below w.heap.size w w'):
  BSt H N0 bb B3 Bk M Ba Bd D at_ hv nv rest w' ps av yv l u:=
 ⟨later_blk hb h.b3,later_blk hb h.bk,later_blk hb h.ba,later_blk hb h.bd,later_blk hb h.d,h.m.later hb,h.all.later hb,h.yes.later hb,fun y hy=>(h.pr y hy).later hb,h.bud.later hb,h.hb,h.st⟩
theorem ty_ne {w:World}{a b:Nat}{c1 c2:Array Value}{t1 t2:TypeId}{f1 f2:Nat × Nat}(h1:w.heap[a]?=some (.cells c1 t1 f1))(h2:w.heap[b]?=some (.cells c2 t2 f2))(ht:t1≠t2):a≠b:=by
 rintro rfl;rw[h1]at h2;injection h2 with h2
 injection h2 with _ h2
 exact ht h2
theorem Row.ty {base e g:Nat}{w:World}{v:Value}{xs:List Value}(h:Row base e w v xs)(hg:v.ownBlock=some g):∃cs,w.heap[g]?=some (.cells cs e):=by
 rcases h.blk with⟨rfl,_⟩|⟨g',cap,cur,rfl,_,h2,_⟩
 ·cases hg
 ·cases hg;exact⟨_,h2⟩
theorem Row.ne {base e b:Nat}{w:World}{v:Value}{xs:List Value}(h:Row base e w v xs){cs:Array Value}{t:TypeId}{fr:Nat × Nat}(hb:w.heap[b]?=some (.cells cs t fr))(ht:e≠t):v.ownBlock≠some b:=fun e1=>by obtain⟨c2,h2⟩:=h.ty e1;exact ty_ne h2 hb ht rfl
theorem Row.ne_map {base e b:Nat}{w:World}{v:Value}{xs:List Value}(h:Row base e w v xs){ks vs:List Value}(hb:MapAt w b ks vs):v.ownBlock≠some b:=fun e1=>by obtain⟨c2,h2⟩:=h.ty e1;exact hb.ne h2 rfl
theorem Row.keepK {base e:Nat}{w w':World}{v:Value}{xs:List Value}(h:Row base e w v xs)(hk:Keep H w w')(hn:∀g,v.ownBlock=some g→¬H g):Row base e w' v xs:=
 RowK.keep h fun g e1 hl=>hk.block g hl (hn g e1)
theorem findKey_at {l:List Pv.R}(hn:(l.map Pv.key).Nodup){i:Nat}(hi:i<l.length):Pv.findKey (Pv.key l[i]) l 0=some i:=by
 obtain⟨q,hq⟩:=Pv.findKey_some (k:=Pv.key l[i]) (l:=l) (i:=0) ⟨_,List.getElem_mem hi,rfl⟩;obtain⟨_,h2,h3⟩:=Pv.findKey_spec hq;rw[hq];congr 1;have e:(l.map Pv.key)[q-0]'(by simpa using h2)=(l.map Pv.key)[i]'(by simpa using hi):=by simpa using h3
 have:=(List.getElem_inj hn).1 e;omega
theorem key_str (r:Pv.R)(h:Pv.size r<549755813888):keyOf Tryz.prog 9 (Str (Pv.key r))=some (.string (Pv.key r)):=by
 have hl:=key_len r;have:=Go.WideMaps.keyOf_string_mk (P:=Tryz.prog) Tryz.underlying9 (s:=⟨(Pv.key r).toArray⟩) (by show(Pv.key r).toArray.size≤maxLen;simp[maxLen];omega)
 simpa using this
abbrev turns (bb M Ba D:Nat)(av yv:Value):Nat→Prop:=fun k=>k=bb∨k=M∨k=Ba∨k=D∨av.ownBlock=some k∨yv.ownBlock=some k
theorem info_bool:(Tryz.prog.info? 4).map (fun i=>(i.zero,i.size,i.bytes))=some (some (.bool false),1,1):=by kernel_rfl
set_option maxRecDepth 20000 in
set_option maxHeartbeats 8000000 in
theorem state_any {N0 bb B3 Bk M Ba Bd D:Nat}{at_:Nat→Nat}{hv nv:Value}{rest:List Value}{w:World}{ps:List (Nat × Pv.R)}{av yv:Value}{l u:Nat}(hB:BSt H N0 bb B3 Bk M Ba Bd D at_ hv nv rest w ps av yv l u)
  (hN:N0≤w.heap.size) (x:Pv.R) (bx:Nat) (hx:ReAt (own2 H av yv) w x bx) (hs:Pv.size x<549755813888) (hps:ps.length<1099511627776):
  Calls Tryz.prog 131 #[Ptr bx,Ptr Bk,Ptr B3,Ptr Ba,Ptr Bd] w fun e w'=>match Pv.stateOf x (ps.map (·.2)) l with
   | none=>e = .returned (.tuple #[.int .i64 0,.int .i64 5])∧BudAt w' bb l u∧Keep (turns bb M Ba D av yv) w w'
   | some (all',l',q)=>e = .returned (.tuple #[.int .i64 (q:Int),.int .i64 0])∧∃ps' av' yv',all'=ps'.map (·.2)∧BSt H N0 bb B3 Bk M Ba Bd D at_ hv nv rest w' ps' av' yv' l' (u+(l-l')) ∧
    (ps'=ps∨ps'=ps++[(bx,x)])∧Moved w av av'∧Moved w yv yv'∧Keep (turns bb M Ba D av yv) w w':=by
 have hkey:=key_any x bx w.drew (hx.later (Below.refl _ _).drew);have k1:=cB (o:=0) hB.bk rfl;have K:Keyed Tryz.prog 9:=string_keyed Tryz.underlying9;have hks:∀y∈ps.map fun x=>Str (Pv.key x.2),∃l,keyOf Tryz.prog 9 y=some l:=fun y hy=>by obtain⟨z,hz,rfl⟩:=List.mem_map.1 hy;have:Pv.size z.2≤20000:=hB.st.size z.2 (List.mem_map_of_mem hz);exact⟨_,key_str z.2 (by omega)⟩
 by_cases hin:Str (Pv.key x)∈ps.map fun x=>Str (Pv.key x.2)
 ·have hlk:=fun W (hb:Below w.heap.size w W)=>(hB.m.later hb).has K Tryz.underlying208 hks (key_str x hs) hin true
  have hfk:∃q,Pv.stateOf x (ps.map (·.2)) l=some (ps.map (·.2),l,q)∧∀W (hb:Below w.heap.size w W),(Instr.lookup 208 (.map (some M)) (Str (Pv.key x)) true).run Tryz.prog W = .ok (.tuple #[.int .i64 (q:Int),.bool true]) W:=by
   obtain⟨y,hy,hyk⟩:=List.mem_map.1 hin;have hyk2:Pv.key y.2=Pv.key x:=by have:=hyk;simp only[Str,Value.string.injEq,ByteArray.mk.injEq]at this;simpa using this
   obtain⟨q,hq⟩:=Pv.findKey_some (k:=Pv.key x) (l:=ps.map (·.2)) (i:=0) ⟨y.2,List.mem_map_of_mem hy,hyk2⟩;refine⟨q,by unfold Pv.stateOf;rw[hq],fun W hb => ?_⟩;obtain⟨i,v,h1,h2,h3⟩:=hlk W hb;have hi:i<ps.length:=by have:=(List.getElem?_eq_some_iff.1 h1).1;simpa using this
   have hki:Pv.key (ps[i]).2=Pv.key x:=by have e:=(List.getElem?_eq_some_iff.1 h1).2;simp only[List.getElem_map,Str,Value.string.injEq,ByteArray.mk.injEq]at e;simpa using e
   have hqi:=findKey_at (l:=ps.map (·.2)) hB.st.nodup (i:=i) (by simpa using hi);simp only[List.getElem_map,hki,hq]at hqi;injection hqi with hqi
   subst hqi;have hv:v = .int .i64 (q:Int):=by rw[List.getElem?_map,List.getElem?_range hi]at h2;simpa using h2.symm
   subst hv;exact h3
  obtain⟨q,hst,hlk2⟩:=hfk;rw[hst];have HB:=Hy hB;have HK:=Hy hlk2;clear hB hlk hks hin hst hlk2 K hx;go_enter Tryz.func131,Tryz.ntmps131;go_wp2_with fail;refine Eag.region (.mov 0 (.mov 1 (.anc 2 (.mov 3 (.mov 4 (.mov 5 (.mov 6 (.mov 7 (.mov 8 Eag.Sch.fin))))))))) [] (by kernel_rfl) (by kernel_rfl) (fun K ops hops hK => ?_);iterate 2
   refine Eag.mov hops rfl rfl (fun w' hb => ?_) ?_
   ·have q0:=later hb k1;clear hb;go_simp
   go_simp
  refine Eag.anc hops rfl rfl ?_;go_wp2_with fail;refine hkey.mono ?_;rintro e W1 ⟨rfl,rfl⟩;refine⟨Below.refl _ _,?_⟩;have q1:=HK.out w.drew (Below.refl _ w).drew;refine Eag.mov hops rfl rfl (fun w' hb => ?_) ?_
  ·have q2:=HK.out w' ((Below.refl _ w).drew.trans hb);clear hb;go_simp
  go_simp;iterate 5
   refine Eag.mov hops rfl rfl (fun w' hb => ?_) ?_
   ·clear hb;go_simp
   go_simp
  refine Eag.fin (hK _ _ ?_);clear hK hops q1;go_simp;go_wp2_with fail;refine bodyPost_ret (v:= .tuple #[.int .i64 (q:Int),.int .i64 0]) ?_ rfl ⟨rfl,ps,av,yv,rfl,?_,.inl rfl,.inl rfl,.inl rfl,(Keep.refl _ _).trans (Keep.drew _)⟩
  ·simp[results,Tryz.results131,go_sem]
  ·rw[show u+(l-l)=u by omega];exact HB.out.later (Below.refl _ _).drew
 ·have hlk:∀W (hb:Below w.heap.size w W),(Instr.lookup 208 (.map (some M)) (Str (Pv.key x)) true).run Tryz.prog W = .ok (.tuple #[.int .i64 0,.bool false]) W:=fun W hb=>(hB.m.later hb).hasnt K Tryz.underlying208 hks (key_str x hs) hin (Tryz.zeroValue3 W)
  have hfk:Pv.findKey (Pv.key x) (ps.map (·.2)) 0=none:=by
   cases hf:Pv.findKey (Pv.key x) (ps.map (·.2)) 0 with
   | none=>rfl
   | some q=>
     obtain⟨_,h2,h3⟩:=Pv.findKey_spec hf;refine absurd (List.mem_map.2 ⟨ps[q-0]'(by simpa using h2),List.getElem_mem _,?_⟩) hin;have h4:Pv.key (ps[q-0]'(by simpa using h2)).2=Pv.key x:=by simpa using h3
     rw[h4]
  have hst:Pv.stateOf x (ps.map (·.2)) l=if Pv.most<Pv.size x then none else if l=0 then none else some (ps.map (·.2)++[x],l-1,(ps.map (·.2)).length):=by unfold Pv.stateOf;rw[hfk]
  rw[hst];have main:∀R:Ending→World→Prop,(Pv.most<Pv.size x→∀w',BudAt w' bb l u→Keep (turns bb M Ba D av yv) w w'→R (.returned (.tuple #[.int .i64 0,.int .i64 5])) w') →
    (¬Pv.most<Pv.size x→l=0→∀w',BudAt w' bb l u→Keep (turns bb M Ba D av yv) w w'→R (.returned (.tuple #[.int .i64 0,.int .i64 5])) w') →
    (¬Pv.most<Pv.size x→l≠0→∀w' av' yv',BSt H N0 bb B3 Bk M Ba Bd D at_ hv nv rest w' (ps++[(bx,x)]) av' yv' (l-1) (u+1)→Moved w av av'→Moved w yv yv'→Keep (turns bb M Ba D av yv) w w'→R (.returned (.tuple #[.int .i64 (ps.length:Int),.int .i64 0])) w') →
    Calls Tryz.prog 131 #[Ptr bx,Ptr Bk,Ptr B3,Ptr Ba,Ptr Bd] w R:=by
   intro R r1 r2 r3;have hsize:=size_any x bx w.drew (hx.later (Below.refl _ _).drew);have HB:=Hy hB;have HK:=Hy hlk;have HX:=Hy hx;have HKS:=Hy hks;have HKK:=Hy K;have HIN:=Hy hin;replace r1:=Hy r1;replace r2:=Hy r2;replace r3:=Hy r3;clear hB hlk hks hin hst hfk K hx;go_enter Tryz.func131,Tryz.ntmps131;go_wp2_with fail
   refine Eag.region (.mov 0 (.mov 1 (.anc 2 (.mov 3 (.mov 4 (.mov 5 (.mov 6 (.mov 7 (.mov 8 Eag.Sch.fin))))))))) [] (by kernel_rfl) (by kernel_rfl) (fun K ops hops hK => ?_);iterate 2
    refine Eag.mov hops rfl rfl (fun w' hb => ?_) ?_
    ·have q0:=later hb k1;clear hb;go_simp
    go_simp
   refine Eag.anc hops rfl rfl ?_;go_wp2_with fail;refine hkey.mono ?_;rintro e W1 ⟨rfl,rfl⟩;refine⟨Below.refl _ _,?_⟩;have q1:=HK.out w.drew (Below.refl _ w).drew;refine Eag.mov hops rfl rfl (fun w' hb => ?_) ?_
   ·have q2:=HK.out w' ((Below.refl _ w).drew.trans hb);clear hb;go_simp
   go_simp;iterate 5
    refine Eag.mov hops rfl rfl (fun w' hb => ?_) ?_
    ·clear hb;go_simp
    go_simp
   refine Eag.fin (hK _ _ ?_);clear hK hops q1;go_simp;go_wp2_with fail;refine hsize.mono ?_;rintro e W1 ⟨rfl,rfl⟩;by_cases hbig:Pv.most<Pv.size x
   ·have r:=r1.out hbig;clear r1 r2 r3;have Rr:=Hy r;clear r;have hbig':(20000:Int)<(Pv.size x:Int):=by simp only[Pv.most]at hbig;omega
    clear hbig;go_wp2_with fail;exact Rr.out _ (HB.out.bud.later (Below.refl _ _).drew) (Keep.drew _)
   have hbig':¬(20000:Int)<(Pv.size x:Int):=by simp only[Pv.most]at hbig;omega
   have R2:=Hy (r2.out hbig);have R3:=Hy (r3.out hbig);clear r1 r2 r3;have HB1:=Hy (HB.out.later (Below.refl _ _).drew);have HX1:Hid (ReAt (own2 H av yv) w.drew x bx):=HX.out.later (Below.refl _ _).drew;have hkd:Keep (turns bb M Ba D av yv) w w.drew:=Keep.drew _;have HKD:=Hy hkd;clear hbig HB HX hkd k1 hkey hsize HK;generalize w.drew=w1 at *;have c3:=cB (o:=0) HB1.out.b3 rfl
   have htake:=take_any bb l u w1 HB1.out.bud;have HT:=Hy htake;clear htake;go_wp2_with fail;refine HT.out.mono ?_;rintro e w2 ⟨rfl,hbud2,hk2⟩;by_cases hl:l=0
   ·subst hl;simp only[if_true]at hbud2 ⊢;go_wp2_with fail;exact R2.out trivial _ hbud2 (HKD.out.trans (hk2.wide fun k e=> .inl (.inl e)))
   have R4:=Hy (R3.out hl);rw[if_neg hl]at hbud2 ⊢;have d3:bb≠B3:=ty_ne HB1.out.bud.2 HB1.out.b3 (by decide);have dk:bb≠Bk:=ty_ne HB1.out.bud.2 HB1.out.bk (by decide);have da:bb≠Ba:=ty_ne HB1.out.bud.2 HB1.out.ba (by decide);have dd:bb≠Bd:=ty_ne HB1.out.bud.2 HB1.out.bd (by decide);have dD:bb≠D:=ty_ne HB1.out.bud.2 HB1.out.d (by decide);have dM:bb≠M:=Ne.symm (HB1.out.m.ne HB1.out.bud.2)
   have e3:=hk2.blk (Ne.symm d3) HB1.out.b3;have ek:=hk2.blk (Ne.symm dk) HB1.out.bk;have ea:=hk2.blk (Ne.symm da) HB1.out.ba;have ed:=hk2.blk (Ne.symm dd) HB1.out.bd;have eD:=hk2.blk (Ne.symm dD) HB1.out.d;have eM:=HB1.out.m.keep hk2 (Ne.symm dM);have eA:=HB1.out.all.keepK hk2 (fun g e=>fun e2=>HB1.out.all.ne HB1.out.bud.2 (by decide) (by rw[e,e2]))
   have eY:=HB1.out.yes.keepK hk2 (fun g e=>fun e2=>HB1.out.yes.ne HB1.out.bud.2 (by decide) (by rw[e,e2]));have hk2':Keep (own2 H av yv) w1 w2:=hk2.wide fun k e=> .inl (.inl (by rw[e];exact HB1.out.hb.1))
   have eP:Prs (own2 H av yv) w2 ps:=fun y hy=>(HB1.out.pr y hy).keep hk2'
   have eX:ReAt (own2 H av yv) w2 x bx:=HX1.out.keep hk2';have HK2:Hid (Keep (turns bb M Ba D av yv) w w2):=HKD.out.trans (hk2.wide fun k e=> .inl (.inl e));have hr1:=cB (o:=0) ek rfl;have hr2:=cB (o:=0) ea rfl;obtain⟨aa,ac,eav,hsla,_⟩:=eA.form;rw[List.length_map]at eav;have EX:=Hy eX;have E3:=Hy e3;have EK:=Hy ek;have EA:=Hy ea;have ED:=Hy ed;have ED2:=Hy eD;have EM:=Hy eM;have EAL:=Hy eA
   have EY:=Hy eY;have EP:=Hy eP;have EB:=Hy hbud2;have hkey2:=key_any x bx w2.drew (eX.later (Below.refl _ _).drew);have HKY:=Hy hkey2;clear hbud2 hk2 hk2' d3 dk da dd dD dM e3 ek ea ed eD eM eA eY eP eX hsla c3 hkey2 HT;have EAV:=Hy eav;subst eav;go_wp2_with fail;have hput:=(EM.out.later (Below.refl _ _).drew).put HKK.out Tryz.underlying208 HKS.out (key_str x hs) HIN.out (.int .i64 (ps.length:Int))
   obtain⟨w3,hrun3,hm3,hk3⟩:=hput;have HK3:=Hy hk3;have HM3:=Hy hm3;clear hk3 hm3;refine Eag.region (.mov 0 (.mov 1 (.mov 3 (.mov 4 (.anc 2 (.anc 5 Eag.Sch.fin)))))) [5] (by kernel_rfl) (by kernel_rfl) (fun K ops hops hK => ?_);iterate 4
    refine Eag.mov hops rfl rfl (fun w' hb => ?_) ?_
    ·have q0:=later hb hr1;have q1:=later hb hr2;clear hb;go_simp
    go_simp
   refine Eag.anc hops rfl rfl ?_;go_wp2_with fail;refine HKY.out.mono ?_;rintro e W1 ⟨rfl,rfl⟩;refine⟨Below.refl _ _,?_⟩;refine Eag.anc hops rfl rfl ?_;go_wp2_with fail;refine Eag.fin (hK _ _ ?_);clear hK hops hrun3 hr1 hr2;have nB3:B3≠M:=Ne.symm (EM.out.ne E3.out);have nBk:Bk≠M:=Ne.symm (EM.out.ne EK.out);have nBa:Ba≠M:=Ne.symm (EM.out.ne EA.out);have nBd:Bd≠M:=Ne.symm (EM.out.ne ED.out)
   have nD:D≠M:=Ne.symm (EM.out.ne ED2.out);have nbb:bb≠M:=Ne.symm (EM.out.ne EB.out.2);have hkm:Keep (· = M) w2 w3:=(Keep.drew w2).trans HK3.out;have HKM:=Hy hkm;have G3:=Hy (hkm.blk nB3 E3.out);have GK:=Hy (hkm.blk nBk EK.out);have ga:=hkm.blk nBa EA.out;have GD:=Hy (hkm.blk nBd ED.out);have GD2:=Hy (hkm.blk nD ED2.out);have GB:Hid (BudAt w3 bb (l-1) (u+1)):=EB.out.keep hkm nbb
   have GAL:=Hy (EAL.out.keepK hkm fun g e=>fun e2=>EAL.out.ne_map EM.out (by rw[e,e2]));have GY:=Hy (EY.out.keepK hkm fun g e=>fun e2=>EY.out.ne_map EM.out (by rw[e,e2]));have hkmw:Keep (own2 H (.slice aa ps.length ac) yv) w2 w3:=hkm.wide fun k e=> .inl (.inl (by rw[e];exact HB1.out.hb.2.1))
   have GP:Hid (Prs (own2 H (.slice aa ps.length ac) yv) w3 ps):=fun y hy=>(EP.out y hy).keep hkmw
   have GX:Hid (ReAt (own2 H (.slice aa ps.length ac) yv) w3 x bx):=EX.out.keep hkmw;have GM:Hid (MapAt w3 M _ _):=HM3.out;have HK3b:Hid (Keep (turns bb M Ba D (.slice aa ps.length ac) yv) w w3):=HK2.out.trans (hkm.wide fun k e=> .inl (.inr (.inl e)));have hz3:N0≤w3.heap.size:=Nat.le_trans hN HK3b.out.size;have hz3w:w.heap.size≤w3.heap.size:=HK3b.out.size;have HBH:=Hy HB1.out.hb
   have HST:=Hy HB1.out.st;clear hkmw hkm nB3 nBk nBa nBd nD nbb EX E3 EK EA ED ED2 EM EAL EY EP EB HKY HK3 HM3 HK2 HB1 HX1 HKD HKM;have ga0:=cB (o:=0) ga rfl;have GA:=Hy ga;clear ga;obtain⟨i0,hi,hz0,hz1,hz2⟩:=info_parts info_re;have hpl:(vals ps).length<1099511627776:=by rw[List.length_map];exact hps
   go_simp;go_wp2_with (at_builtin;refine app1x _ _ i0 _ 8 Tryz.underlying101 hi hz0 hz1 hz2 rfl (by omega) rfl _ _ rfl N0 _ _ rfl (GAL.out.alloc _) w3.heap.size _ rfl (blk_new rfl) rfl hpl (by simp;omega) ?c2)
   case c2=>
    intro v5 w5 hr5 hb5 hg5 hm5;have KA:Keep (fun k=>(Value.slice aa ps.length ac).ownBlock=some k) w3 w5:=(Keep.alloc w3 _).trans (Keep.of_grown hg5 fun x e=>e);have nA3:=GAL.out.ne G3.out (by decide);have nAk:=GAL.out.ne GK.out (by decide);have nAa:=GAL.out.ne GA.out (by decide);have nAd:=GAL.out.ne GD.out (by decide);have nAD:=GAL.out.ne GD2.out (by decide);have nAb:=GAL.out.ne GB.out.2 (by decide)
    have nAM:=GAL.out.ne_map GM.out;have J3:=Hy (KA.blk nA3 G3.out);have JK:=Hy (KA.blk nAk GK.out);have ja:=KA.blk nAa GA.out;have JD:=Hy (KA.blk nAd GD.out);have JD2:=Hy (KA.blk nAD GD2.out);have JM:=Hy (GM.out.keep KA nAM);have JB:Hid (BudAt w5 bb (l-1) (u+1)):=GB.out.keep KA nAb;have JY:=Hy (GY.out.keepK KA fun g e e2=>by
     obtain⟨c1,h1⟩:=GY.out.ty e;obtain⟨c2,h2⟩:=GAL.out.ty e2;exact ty_ne h1 h2 (by decide) rfl)
    have hfr:∀k,own2 H v5 yv k→own2 H (.slice aa ps.length ac) yv k∨w3.heap.size≤k:=fun k hk=>by
     rcases hk with hk|hk|hk
     ·exact .inl (.inl hk)
     ·rcases hm5.fresh (w0:=w3) (by simp) hk with h|h
      ·exact .inl (.inr (.inl h))
      ·exact .inr h
     ·exact .inl (.inr (.inr hk))
    have JP:Hid (Prs (own2 H v5 yv) w5 ps):=fun y hy=>(GP.out y hy).appended KA (fun k e=> .inr (.inl e)) hfr
    have JX:Hid (ReAt (own2 H v5 yv) w5 x bx):=GX.out.appended KA (fun k e=> .inr (.inl e)) hfr;have JAL:Hid (Row N0 59 w5 v5 (vals (ps++[(bx,x)]))):=by rw[vals,List.map_append];exact hr5
    have HK5:Hid (Keep (turns bb M Ba D (.slice aa ps.length ac) yv) w w5):=HK3b.out.trans (KA.wide fun k e=> .inl (.inr (.inr (.inr (.inr (.inl e))))));have HM5:Hid (Moved w3 (.slice aa ps.length ac) v5):=by
     rcases hm5 with e|⟨g,e,hg⟩
     ·exact .inl e
     ·exact .inr ⟨g,e,by simp at hg;omega⟩
    have hz5:N0≤w5.heap.size:=Nat.le_trans hz3 KA.size;have hz35:=KA.size;have ja0:=cB (o:=0) ja rfl;have jf0:=fob (o:=0) ja;have JA:=Hy ja;clear KA nA3 nAk nAa nAd nAD nAb nAM hr5 hb5 hg5 hm5 ja hfr ga0 G3 GK GA GD GD2 GM GB GY GP GX GAL HK3b;obtain⟨a5,c5,e5,_,_⟩:=JAL.out.form;rw[List.length_map,List.length_append,List.length_singleton]at e5;subst e5;go_wp2_with fail
    have L3:=Hy (keep_set (w:=w5) (o:=0) (v:= .slice a5 (ps.length+1) c5) J3.out (ty_ne J3.out JA.out (by decide)));have LK:=Hy (keep_set (w:=w5) (o:=0) (v:= .slice a5 (ps.length+1) c5) JK.out (ty_ne JK.out JA.out (by decide)));have la:=blk_set (w:=w5) (o:=0) (v:= .slice a5 (ps.length+1) c5) JA.out
    have ld:=keep_set (w:=w5) (o:=0) (v:= .slice a5 (ps.length+1) c5) JD.out (ty_ne JD.out JA.out (by decide));have lD:=keep_set (w:=w5) (o:=0) (v:= .slice a5 (ps.length+1) c5) JD2.out (ty_ne JD2.out JA.out (by decide));have hks:Keep (· = Ba) w5 (w5.setCell ⟨Ba,0,none⟩ (.slice a5 (ps.length+1) c5)):=Keep.set rfl;have LM:=Hy (JM.out.keep hks (JM.out.ne JA.out))
    have LB:Hid (BudAt (w5.setCell ⟨Ba,0,none⟩ (.slice a5 (ps.length+1) c5)) bb (l-1) (u+1)):=JB.out.keep hks (ty_ne JB.out.2 JA.out (by decide));have LY:=Hy (JY.out.keepK hks fun g e e2=>JY.out.ne JA.out (by decide) (by rw[e,e2]));have LAL:=Hy (JAL.out.keepK hks fun g e e2=>JAL.out.ne JA.out (by decide) (by rw[e,e2]))
    have hksw:Keep (own2 H (.slice a5 (ps.length+1) c5) yv) w5 (w5.setCell ⟨Ba,0,none⟩ (.slice a5 (ps.length+1) c5)):=hks.wide fun k e=> .inl (.inl (by rw[e];exact HBH.out.2.2.1))
    have LP:Hid (Prs (own2 H (.slice a5 (ps.length+1) c5) yv) (w5.setCell ⟨Ba,0,none⟩ (.slice a5 (ps.length+1) c5)) ps):=fun y hy=>(JP.out y hy).keep hksw
    have LX:Hid (ReAt (own2 H (.slice a5 (ps.length+1) c5) yv) (w5.setCell ⟨Ba,0,none⟩ (.slice a5 (ps.length+1) c5)) x bx):=JX.out.keep hksw;have HK6:Hid (Keep (turns bb M Ba D (.slice aa ps.length ac) yv) w (w5.setCell ⟨Ba,0,none⟩ (.slice a5 (ps.length+1) c5))):=HK5.out.trans (hks.wide fun k e=> .inl (.inr (.inr (.inl e))))
    have hz6:N0≤(w5.setCell ⟨Ba,0,none⟩ (.slice a5 (ps.length+1) c5)).heap.size:=Nat.le_trans hz5 hks.size;have hz36:w3.heap.size≤(w5.setCell ⟨Ba,0,none⟩ (.slice a5 (ps.length+1) c5)).heap.size:=Nat.le_trans hz35 hks.size;clear hks hksw J3 JK JA JD JD2 JM JB JY JAL JP JX HK5 hz5 hz35 ja0 jf0;generalize w5.setCell ⟨Ba,0,none⟩ (.slice a5 (ps.length+1) c5)=w6 at *
    have la2:w6.heap[Ba]?=some (.cells #[.slice a5 (ps.length+1) c5] 101):=by simpa using la
    have LA:=Hy la2;have c0:=cB (o:=0) ld rfl;have c1:=cB (o:=258) lD dfa_yes_;have n0:=LY.out.ne ld (by decide);have n1:=LY.out.ne lD (by decide);have hnull:=null_any x bx w6.drew (LX.out.later (Below.refl _ _).drew);have HN:=Hy hnull;have LD:=Hy ld;have LD2:=Hy lD;obtain⟨i1,hi1,hy0,hy1,hy2⟩:=info_parts info_bool
    have hyl:(ps.map fun x=>Value.bool (Pv.null x.2)).length<1099511627776:=by rw[List.length_map];exact hps
    clear la la2 hnull ld lD hi hz0 hz1 hz2;refine Eak.region (Keep fun k=>yv.ownBlock=some k) (.mov 0 (.mov 1 (.mov 2 (.mov 3 (.mov 4 (.mov 5 (.anc 6 (.anc 7 (.anc 8 (.mov 9 (.mov 10 (.anc 11 Eag.Sch.fin)))))))))))) [11] (by kernel_rfl) (by kernel_rfl) (fun K ops hops hK => ?_);iterate 6
     refine Eak.mov hops rfl rfl (fun w' hb => ?_) ?_
     ·have q0:=Keep.cell hb n0 c0;have q1:=Keep.cell hb n1 c1;clear hb;go_simp
     go_simp
    refine Eak.anc hops rfl rfl ?_;go_wp2_with fail;refine HN.out.mono ?_;rintro e W1 ⟨rfl,rfl⟩;refine⟨Keep.refl _ _,?_⟩;refine Eak.anc hops rfl rfl ?_;go_wp2_with fail;refine⟨(Keep.alloc _ _).trans (Keep.refl _ _),?_⟩;refine Eak.anc hops rfl rfl ?_
    refine app1K_op 193 4 i1 _ 1 1 Tryz.underlying193 hi1 hy0 hy1 hy2 rfl (by omega) (by omega) _ _ rfl N0 _ yv _ rfl (RowK.later LY.out ((Below.refl _ w6).alloc (Nat.le_refl _) _).drew) w6.heap.size [.bool (Pv.null x)] rfl rfl (blk_new rfl)
     (fun u hu=>by rw[List.mem_singleton.1 hu];rfl) hyl (by simp;omega) ?_
    intro v7 w7 hr7 hb7 hg7 hm7;refine⟨.inr (Keep.of_grown hg7 fun x e=>e),?_⟩;have KY:Keep (fun k=>yv.ownBlock=some k) w6 w7:=((Keep.alloc w6 _).trans (Keep.drew _)).trans (Keep.of_grown hg7 fun x e=>e);have hr8:Row N0 4 w7 v7 ((ps++[(bx,x)]).map fun x=> .bool (Pv.null x.2)):=by unfold Row;rw[List.map_append,List.length_append];exact hr7
    obtain⟨a7,c7,e7,_,_⟩:=hr8.form;rw[List.length_map,List.length_append,List.length_singleton]at e7;have P3:=Hy (KY.blk (LY.out.ne L3.out (by decide)) L3.out);have PK:=Hy (KY.blk (LY.out.ne LK.out (by decide)) LK.out);have pa:=KY.blk (LY.out.ne LA.out (by decide)) LA.out;have PD:=Hy (KY.blk n0 LD.out);have pD:=KY.blk n1 LD2.out;have PM:=Hy (LM.out.keep KY (LY.out.ne_map LM.out))
    have PB:Hid (BudAt w7 bb (l-1) (u+1)):=LB.out.keep KY (LY.out.ne LB.out.2 (by decide));have PAL:=Hy (LAL.out.keepK KY fun g e e2=>by obtain⟨c1,h1⟩:=LAL.out.ty e;obtain⟨c2,h2⟩:=LY.out.ty e2;exact ty_ne h1 h2 (by decide) rfl)
    have hfr:∀k,own2 H (.slice a5 (ps.length+1) c5) v7 k→own2 H (.slice a5 (ps.length+1) c5) yv k∨w6.heap.size≤k:=fun k hk=>by
     rcases hk with hk|hk|hk
     ·exact .inl (.inl hk)
     ·exact .inl (.inr (.inl hk))
     ·rcases hm7.fresh (w0:=w6) (by simp) hk with h|h
      ·exact .inl (.inr (.inr h))
      ·exact .inr h
    have PP:Hid (Prs (own2 H (.slice a5 (ps.length+1) c5) v7) w7 (ps++[(bx,x)])):=fun y hy=>by
     rcases List.mem_append.1 hy with hy|hy
     ·exact(LP.out y hy).appended KY (fun k e=> .inr (.inr e)) hfr
     ·rw[List.mem_singleton.1 hy];exact LX.out.appended KY (fun k e=> .inr (.inr e)) hfr
    have HK7:Hid (Keep (turns bb M Ba D (.slice aa ps.length ac) yv) w w7):=HK6.out.trans (KY.wide fun k e=> .inl (.inr (.inr (.inr (.inr (.inr e))))));have HM7:Hid (Moved w yv v7):=by
     rcases hm7 with e|⟨g,e,hg⟩
     ·exact .inl e
     ·exact .inr ⟨g,e,by have:=HK6.out.size;simp at hg;omega⟩
    have HM5b:Hid (Moved w (.slice aa ps.length ac) (.slice a5 (ps.length+1) c5)):=by
     rcases HM5.out with e|⟨g,e,hg⟩
     ·exact .inl e
     ·exact .inr ⟨g,e,by omega⟩
    have HR8:=Hy hr8;have E7:=Hy e7;subst e7;have p0:=cB (o:=258) pD dfa_yes_;have f0:=fob (o:=258) pD;have pa0:=cB (o:=0) pa rfl;have PA:=Hy pa;have PD2:=Hy pD;clear KY hr7 hb7 hg7 hm7 hr8 hfr pa pD L3 LK LA LD LD2 LM LB LY LAL LP LX HK6 n0 n1;go_simp;iterate 2
     refine Eak.mov hops rfl rfl (fun w' hb => ?_) ?_
     ·clear hb;go_simp
     go_simp
    refine Eak.anc hops rfl rfl ?_;go_wp2_with fail;refine Eak.fin (hK _ _ ?_);clear hK hops;have hks:Keep (· = D) w7 (w7.setCell ⟨D,258,none⟩ (.slice a7 (ps.length+1) c7)):=Keep.set rfl;have hksw:Keep (own2 H (.slice a5 (ps.length+1) c5) (.slice a7 (ps.length+1) c7)) w7 (w7.setCell ⟨D,258,none⟩ (.slice a7 (ps.length+1) c7)):=hks.wide fun k e=> .inl (.inl (by rw[e];exact HBH.out.2.2.2))
    have hfin:BSt H N0 bb B3 Bk M Ba Bd D at_ hv nv rest (w7.setCell ⟨D,258,none⟩ (.slice a7 (ps.length+1) c7)) (ps++[(bx,x)]) (.slice a5 (ps.length+1) c5) (.slice a7 (ps.length+1) c7) (l-1) (u+1):={
     b3:=hks.blk (ty_ne P3.out PD2.out (by decide)) P3.out
     bk:=hks.blk (ty_ne PK.out PD2.out (by decide)) PK.out
     ba:=hks.blk (ty_ne PA.out PD2.out (by decide)) PA.out
     bd:=hks.blk (ty_ne PD.out PD2.out (by decide)) PD.out
     d:=by rw[blk_set PD2.out,dfa_set_yes]
     m:=by have:=PM.out.keep hks (PM.out.ne PD2.out);rw[List.map_append,List.length_append,List.length_singleton,List.range_succ,List.map_append];exact this
     all:=PAL.out.keepK hks fun g e e2=>PAL.out.ne PD2.out (by decide) (by rw[e,e2])
     yes:=HR8.out.keepK hks fun g e e2=>HR8.out.ne PD2.out (by decide) (by rw[e,e2])
     pr:=fun y hy=>(PP.out y hy).keep hksw
     bud:=PB.out.keep hks (ty_ne PB.out.2 PD2.out (by decide))
     hb:=HBH.out
     st:=⟨fun y hy=>by
      rw[List.map_append]at hy;rcases List.mem_append.1 hy with hy|hy
      ·exact HST.out.size y hy
      ·simp at hy;subst hy;simp only[Pv.most];omega,by
      rw[List.map_append,List.map_append,List.nodup_append];refine⟨HST.out.nodup,by simp,fun a ha b hb => ?_⟩;simp at hb;subst hb;rintro rfl;obtain⟨y,hy,hye⟩:=List.mem_map.1 ha;obtain⟨z,hz,rfl⟩:=List.mem_map.1 hy;exact HIN.out (List.mem_map.2 ⟨z,hz,by rw[hye]⟩)⟩ }
    have HF:=Hy hfin;have HKF:Hid (Keep (turns bb M Ba D (.slice aa ps.length ac) yv) w (w7.setCell ⟨D,258,none⟩ (.slice a7 (ps.length+1) c7))):=HK7.out.trans (hks.wide fun k e=> .inl (.inr (.inr (.inr (.inl e)))));have hba:=cB (o:=0) hfin.ba rfl;clear hks hksw hfin P3 PK PA PD PD2 PM PAL HR8 PP PB HST HIN p0 f0 pa0 HK7;generalize w7.setCell ⟨D,258,none⟩ (.slice a7 (ps.length+1) c7)=w8 at *;go_simp
    go_wp2_with fail;exact R4.out _ _ _ HF.out HM5b.out HM7.out HKF.out
  by_cases hbig:Pv.most<Pv.size x
  ·rw[if_pos hbig];exact main _ (fun _ w' h1 h2=>⟨rfl,h1,h2⟩) (fun h=>absurd hbig h) (fun h=>absurd hbig h)
  ·rw[if_neg hbig];by_cases hl:l=0
   ·rw[if_pos hl];exact main _ (fun h=>absurd h hbig) (fun _ _ w' h1 h2=>⟨rfl,h1,h2⟩) (fun _ h=>absurd hl h)
   ·rw[if_neg hl];refine main _ (fun h=>absurd h hbig) (fun _ h=>absurd h hl) (fun _ _ w' av' yv' h1 h2 h3 h4=>⟨by simp,_,av',yv',?_,?_,.inr rfl,h2,h3,h4⟩)
    ·simp
    ·rw[show u+(l-(l-1))=u+1 by omega];exact h1
end Go.Proofs.YtamkfdlcdiadlaaGreatDoor
