/- For every plan of a term and every number the law CanonBudget of package periscopelaw17 returns true and leaves what it was given; no condition beyond the card's own (the plan is a tree, without a ring; three laid tables start as the program's text lays them). -/
import Derived.Test.YtamkfdlcdiadlaaGreatDoorKb05
import Derived.ChangeArms
import Derived.DataReads
import Derived.Test.YtamkfdlcdiadlaaGreatDoorKb17
import Derived.Test.YtamkfdlcdiadlaaGreatDoorRows
import Derived.ProofKit
import Derived.LaidMore
import Derived.ChangeMaps5
import Derived.OpenShut
import Derived.Stop.Joined
import Derived.Test.YtamkfdlcdiadlaaGreatDoorKb46
import Derived.Carry
import Derived.Test.YtamkfdlcdiadlaaGreatDoorCards
import Derived.Test.YtamkfdlcdiadlaaGreatDoorTie
import Derived.SevenTiedAt
set_option linter.all false
namespace Go.Proofs.YtamkfdlcdiadlaaGreatDoor
open Go.RowKit
open _root_.Pv (P10)
theorem cell_spotK {w:World}{a:Addr}{v:Value}(h:w.cell? a=some v):a=⟨a.block,a.off,none⟩:=by
 obtain⟨b,o,s⟩:=a;cases s with
 | none=>rfl
 | some s=>
   exfalso;unfold World.cell? at h;split at h
   ·simp at h
   ·cases h
theorem pls_buildK {W:World}{blk:Nat}:∀(len off:Nat),(∀i,i<len→∃p,PlAt W p blk (off+i*4))→∃ps:List P10,ps.length=len∧PlsAt W ps blk off
 | 0,off,_=>⟨[],rfl,by unfold PlsAt;trivial⟩
 | len+1,off,h=>by
   obtain⟨p,hp⟩:=h 0 (by omega);obtain⟨ps,hl,hps⟩:=pls_buildK len (off+4) (fun i hi=>by obtain⟨q,hq⟩:=h (i+1) (by omega);exact⟨q,by rw[show off+4+i*4=off+(i+1)*4 by omega];exact hq⟩)
   refine⟨p::ps,by simp[hl],?_⟩;unfold PlsAt;exact⟨by simpa using hp,hps⟩
theorem add_offK (b o i:Nat):(⟨b,o,none⟩:Addr).add i=⟨b,o+i,none⟩:=by
 unfold Addr.add;split
 ·subst_vars;rfl
 ·rfl
theorem pl_c74K:Tryz.prog.cellsOf 24=4:=by kernel_rfl
theorem pl_c72K:Tryz.prog.cellsOf 22=1:=by kernel_rfl
theorem pl_c3K:Tryz.prog.cellsOf 3=1:=by kernel_rfl
def PlCellsK (W:World)(cs:List Value):Prop:=∃(p:P10) (a:Option Addr) (c b' o':Nat),cs=[.int .i64 p.op,.int .i64 p.w,.int .i64 p.n,.slice a p.kids.length c]∧(p.kids≠[]→a=some ⟨b',o',none⟩)∧p.kids.length<9223372036854775808∧PlsAt W p.kids b' o'
set_option maxRecDepth 20000 in
theorem plan_openK {Hh:Type}{enc:TypeId × Value→Hh}{W:World}{b0:Nat}{sp:Nat→Bool}{held:Bool}(fuel:Nat):∀(cs:List Value) (x:DataW Hh × List MemPlace),DataW.trod enc Tryz.prog W b0 sp held fuel 24 cs=some x→PlCellsK W cs:=by
 induction fuel using Nat.strongRecOn with
 | _ fuel ih=>
 intro cs x h;obtain⟨xs,n,rfl,_,hcl,hxl,hf⟩:=DataW.trod_struct Tryz.underlying24 h;rw[pl_c74K]at hcl
 match cs,hcl with
 | [c0,c1,c2,c3],_=>
 have hxs:xs.length=4:=hxl;have f0:=hf 0 { name := "Op",type:=3,offset:=0,embedded:=false,tag := "",pkgPath := "",byteOffset:=0 } rfl;have f1:=hf 1 { name := "W",type:=3,offset:=1,embedded:=false,tag := "",pkgPath := "",byteOffset:=8 } rfl;have f2:=hf 2 { name := "N",type:=3,offset:=2,embedded:=false,tag := "",pkgPath := "",byteOffset:=16 } rfl
 have f3:=hf 3 { name := "Kids",type:=22,offset:=3,embedded:=false,tag := "",pkgPath := "",byteOffset:=24 } rfl;simp only[pl_c3K,pl_c72K,List.drop_zero,List.drop_succ_cons,List.take_succ_cons,List.take_zero]at f0 f1 f2 f3;rw[List.getElem?_eq_getElem (by omega)]at f0 f1 f2 f3;obtain⟨n0,e0,_⟩:=DataW.trod_int Tryz.underlying3 f0;obtain⟨n1,e1,_⟩:=DataW.trod_int Tryz.underlying3 f1
 obtain⟨n2,e2,_⟩:=DataW.trod_int Tryz.underlying3 f2;injection e0 with e0
 injection e1 with e1
 injection e2 with e2
 subst e0 e1 e2;rcases DataW.trod_slice Tryz.underlying22 f3 with⟨e3,_⟩|⟨a,len,cap,elems,rest,m,rfl,e3,_,_,hlc,hcm,hel,hE,_⟩
 ·injection e3 with e3
  subst e3;exact⟨.mk n0 n1 n2 [],none,0,0,0,rfl,fun h=>absurd rfl h,by simp[P10.kids],by unfold PlsAt P10.kids;trivial⟩
 ·injection e3 with e3
  subst e3;rw[pl_c74K]at hE;by_cases h0:len=0
  ·subst h0;exact⟨.mk n0 n1 n2 [],some a,cap,0,0,rfl,fun h=>absurd rfl h,by simp[P10.kids],by unfold PlsAt P10.kids;trivial⟩
  ·have hcell:∀i,i<len→∃cs1,W.cells? b0 (a.add (i*4)) 4=some cs1∧PlCellsK W cs1:=fun i hi=>by have h1:=hE i hi;rw[List.getElem?_eq_getElem (by omega)]at h1;obtain⟨cs1,hc1,hy1⟩:=Option.bind_eq_some_iff.1 h1;exact⟨cs1,hc1,ih m (by omega) cs1 _ hy1⟩
   have hspot:a=⟨a.block,a.off,none⟩:=by obtain⟨cs1,hc1,_⟩:=hcell 0 (by omega);obtain⟨_,hl,hc⟩:=World.cells?_some hc1;have h1:=hc 0 (by omega);rw[List.getElem?_eq_getElem (by omega)]at h1;have h2:=cell_spotK h1;simpa [Addr.add] using h2
   obtain⟨ps,hpl,hps⟩:=pls_buildK (W:=W) (blk:=a.block) len a.off (fun i hi=>by
    obtain⟨cs1,hc1,p,a1,c1,b1,o1,rfl,ha1,hk1,hp1⟩:=hcell i hi;obtain⟨_,_,hc⟩:=World.cells?_some hc1;rw[hspot,add_offK]at hc;have g0:=hc 0 (by omega);have g1:=hc 1 (by omega);have g2:=hc 2 (by omega);have g3:=hc 3 (by omega);rw[add_offK]at g0 g1 g2 g3;refine⟨p,?_⟩;obtain⟨po,pw,pn,pk⟩:=p;unfold PlAt;exact⟨a1,c1,b1,o1,g0,g1,g2,g3,ha1,hk1,hp1⟩)
   refine⟨.mk n0 n1 n2 ps,some a,cap,a.block,a.off,by rw[P10.kids,hpl];rfl,fun _=>by rw[←hspot],?_,hps⟩;unfold maxLen at hcm;rw[P10.kids,hpl];omega
theorem plan_valueK {W:World}{cs:List Value}(h:PlCellsK W cs):∃p:P10,PlV W p (.agg cs.toArray):=by obtain⟨p,a,c,b',o',rfl,h1,h2,h3⟩:=h;exact⟨p,a,c,b',o',rfl,h1,h2,h3⟩
end Go.Proofs.YtamkfdlcdiadlaaGreatDoor
namespace Go.Proofs.YtamkfdlcdiadlaaGreatDoor
open Go.ChangeShapes Go.ChangeMaps Go.WideShapes Go.ChangeAt Go.WideMaps Go.WideElems Go.RowKit
abbrev laid3:List (String × DataW Unit):=[("math/bits.deBruijn32tab",Rows.laid_math_bits_deBruijn32tab),("math/bits.deBruijn64tab",Rows.laid_math_bits_deBruijn64tab),("internal/strconv.uint64pow10",Rows.laid_internal_strconv_uint64pow10)]
theorem ownK:ownKnob Tryz.prog.godebug=none:=by kernel_rfl
theorem g64:Tryz.prog.globalNamed "math/bits.deBruijn64tab" = some 0:=by kernel_rfl
theorem t64:(Tryz.prog.globals[0]?).map (·.type)=some 290:=by kernel_rfl
theorem door_met (os:Os)(args:Array Value):laidMetH Tryz.prog laid3 ((World.doorLaid Tryz.prog 400 os).forCall (fun _ _=>0) ⟨#[],args,[]⟩).memory:=
 laidMetH_of_parts3 (fuel:=8) (laidMet_of_run' 8 (by kernel_rfl) (by kernel_rfl)) (by kernel_rfl) (by kernel_rfl)
theorem laid64_eq:(Rows.laid_math_bits_deBruijn64tab:DataW Unit) = .agg (Lib.deBruijn64tab.map fun(k:Nat)=>DataW.lit (.int .u8 (k:Int))):=rfl
theorem arr_cells {P:Program}{W:World}{b0:Nat}{sp:Nat→Bool}{held:Bool}{fuel:Nat}{T e:TypeId}{n:Nat}{cs:List Value}{l:List Nat}{q:List MemPlace}{enc:TypeId × Value→Unit}(hT:P.underlying T=some (.array n e))(he:P.underlying e=some (.int .u8))(hc:P.cellsOf e=1)
  (hd:DataW.trod enc P W b0 sp held fuel T cs=some (.agg (l.map fun(k:Nat)=>DataW.lit (.int .u8 (k:Int))),q)) (hl:l.length=n):∀j,j<n→cs[j]?=some (.int .u8 (l.getD j 0)):=by
 intro j hj;obtain⟨xs,m,_,hx,_,hn,hel⟩:=DataW.trod_array hT hd;simp only[Prod.mk.injEq,DataW.agg.injEq]at hx;have h1:=hel j hj;rw[hc,Nat.mul_one]at h1;have hjx:j<xs.length:=by omega
 rw[List.getElem?_eq_getElem hjx]at h1;obtain⟨k,e1,e2,_⟩:=DataW.trod_int he h1;have h2:(l.map fun(k:Nat)=>(DataW.lit (.int .u8 (k:Int)):DataW Unit))[j]?=(xs.map (·.1))[j]?:=by rw[hx.1]
 rw[List.getElem?_map,List.getElem?_map,List.getElem?_eq_getElem hjx,List.getElem?_eq_getElem (by omega),e2]at h2;simp only[Option.map_some,Option.some.injEq,DataW.lit.injEq,Lit.int.injEq,true_and]at h2;have h3:(cs.drop j)[0]?=some (.int .u8 k):=by
  have:((cs.drop j).take 1)[0]?=some (.int .u8 k):=by rw[e1];rfl
  simpa using this
 rw[List.getElem?_drop,Nat.add_zero]at h3;rw[h3,List.getD_eq_getElem?_getD,List.getElem?_eq_getElem (by omega),←h2];rfl
theorem tab_of_laid {W:World}(h:laidMetH Tryz.prog laid3 W):Tab W:=by
 rw[MakeChecks.laidMetH_plain _ _ _ (by kernel_rfl)]at h;obtain⟨ps,⟨g0,t0,cs0,f0,p0,q0,_,_,_,_,⟨g1,t1,cs1,f1,p1,q1,hg1,ht1,hv1,hd1,_⟩,_⟩,_,_⟩:=h;obtain rfl:=Option.some.inj (g64.symm.trans hg1);obtain rfl:=Option.some.inj (t64.symm.trans ht1);rw[laid64_eq]at hd1;have h64:=arr_cells Tryz.underlying290 Tryz.underlying5 (by kernel_rfl) (l:=Lib.deBruijn64tab) hd1 (by decide);intro j hj
 have:=World.var?_cell hg1 hv1 j;rw[this,←Array.getElem?_toList];exact h64 j hj
end Go.Proofs.YtamkfdlcdiadlaaGreatDoor
namespace Go.Proofs.YtamkfdlcdiadlaaGreatDoor
open Go.ChangeShapes Go.ChangeMaps Go.WideShapes Go.ChangeAt Go.WideMaps Go.WideElems Go.RowKit
open _root_.Pv (P10)
theorem bdg_laid:laidOutB Tryz.prog=true:=by kernel_rfl
set_option maxRecDepth 100000 in
theorem bdg_lifted (os:Os)(started:os.Started)(H:Type)(enc:TypeId × Value→H):
  ReturnsInHanded {} Tryz.checked os 3 .any (fun w args=>(Rows.canonBudgetSpec.pre enc Tryz.prog Tryz.f3 [] false w args∧laidMetH Tryz.prog laid3 w)∧sizedMet enc Tryz.prog Tryz.f3 (OpenSpec.ofChange Rows.canonBudgetSpec) false w args)
   (Rows.canonBudgetSpec.post enc Tryz.prog Tryz.f3 false true false false):=by
 refine returnsInHanded_of_change_and (C:=Tryz.checked) (X:=fun w _=>laidMetH Tryz.prog laid3 w) (fun _ _ _ hh h=>h.of_heap hh) ownK started (by kernel_rfl) Tryz.func3
  (ChangeSpec.witness_shaped (enc:=enc) (C:=Tryz.checked) (os:=os) (X:=fun w _=>laidMetH Tryz.prog laid3 w) false (World.doorLaid Tryz.prog 400 os) #[.agg #[.int .i64 0,.int .i64 0,.int .i64 0,.slice none 0 0],.int .i64 0] 8 rfl (World.shaped_of_RefB (by kernel_rfl) (by kernel_rfl)) (by kernel_rfl) (by kernel_rfl) (by kernel_rfl) (door_met os _)) ?_
 intro W base args ds gs before hval0 hW _ _ hL _;have hval:∀(j:Nat) t v,Tryz.f3.params[j]?=some t→args[j]?=some v→Value.okWide Tryz.prog W .any base t v:=hval0;have hW':=hW;obtain⟨p0,q,hA0,hV,rfl,hfz,hnd⟩:=hW;have hA:DataW.TrodAll enc Tryz.prog W 0 (fun _=>true) true Tryz.f3.params.toList args.toList ds p0:=hA0;rw[Tryz.params3]at hA hval;obtain⟨v0,v1,d0,d1,q0,q1,rfl,rfl,rfl,h0,h1⟩:=trodAll_two hA
 obtain⟨rfl,rfl⟩:=trodVars_none hV;have h0k:=h0;obtain⟨cs,rfl,_⟩:=okWide_struct Tryz.underlying24 (hval 0 24 v0 rfl rfl);obtain⟨fuel,hfu⟩:=h0;obtain⟨p,hp⟩:=plan_valueK (plan_openK fuel _ _ hfu);have hpv:PlV W p (.agg cs):=hp;obtain⟨n,rfl,rfl,rfl,hn⟩:=open_int Tryz.underlying3 (hval 1 3 v1 rfl rfl) h1;have hT:=tab_of_laid hL;clear hA0 hval0 hL;simp only[List.append_nil]at hW'
 have hlt:∀x∈q0,x.block<W.heap.size:=fun x hx=>by simpa using hW'.lt x hx
 refine(budget_law p _ n W hT hpv).mono ?_;rintro e W' ⟨rfl,hbel⟩;refine⟨_,rfl,_,_,_,[],q0++[],[],hW',?_,?_,rfl,Below.frame hbel _,fun h=>by cases h⟩
 ·exact trodAll_mk1 (shut_bool Tryz.underlying4 _)
 ·exact trodAll_mk2 (Below.trod bdg_laid (by kernel_rfl) (of_decide_eq_true (by kernel_rfl)) h0k hbel hlt) (shut_int Tryz.underlying3 hn)
end Go.Proofs.YtamkfdlcdiadlaaGreatDoor
namespace Go.Proofs.YtamkfdlcdiadlaaGreatDoor
open Go.ChangeShapes Go.ChangeMaps Go.WideShapes Go.ChangeAt Go.WideMaps Go.WideElems Go.RowKit
set_option maxHeartbeats 4000000 in
theorem bdg_closed:joinedFacts Tryz.pinned.checked.prog 3 Tryz.f3 Rows.canonBudgetSpec Rows.canonBudgetRow=true:=by
 unfold joinedFacts;simp only[Bool.and_eq_true]
 repeat' apply And.intro
 all_goals (as_aux_lemma=>kernel_rfl)
theorem canonBudget_said:Rows.CanonBudgetSaid:=
 OpenClaim.holds_of_wide 3 Tryz.f3 rfl rfl rfl rfl rfl rfl rfl ⟨rfl,rfl,rfl,rfl,rfl⟩ rfl rfl rfl rfl rfl (by kernel_rfl) Tryz.func3 bdg_closed
  (of_decide_eq_true (by kernel_rfl)) (by unfold Func.isWrapper;first|(rw[if_pos (by decide +kernel)];kernel_rfl)|(rw[if_neg (by decide +kernel)];exact⟨rfl,rfl⟩))
  (fun os started H enc _=>bdg_lifted os started H enc)
end Go.Proofs.YtamkfdlcdiadlaaGreatDoor
namespace Go.Proofs.YtamkfdlcdiadlaaGreatDoor
open Go
theorem canonBudget_holds:Rows.CanonBudgetCardSaid:=
 Claim7.holds_tied_plain_at .later [] [.data,.data,.data] true (true, "1e5667a4044e28ff7013b76a25fcb3d9fb46c36e2133bc975ced4fd0a20129a1") false
  canonBudget_said (fun _ h=>by cases h) (by kernel_rfl) (fun _ h=>by cases h) canonBudget_row_tie rfl ⟨rfl,rfl⟩ (by kernel_rfl) rfl
  (fun f fn hf hfn=>by
   obtain rfl:f=3:=Option.some.inj ((show Tryz.prog.funcNamed "periscope/periscopelaw17.CanonBudget" = some 3 by kernel_rfl).symm.trans hf) |>.symm;obtain rfl:fn=Tryz.f3:=(Option.some.inj (Tryz.func3.symm.trans hfn)).symm;exact⟨by kernel_rfl,fun j t ht=>by
    rw[Tryz.params3]at ht;have hm:t∈[24,3]:=by simpa using Array.mem_of_getElem? ht
    have hall:([24,3].all fun u => !Tryz.prog.wantsStandIn u)=true:=by kernel_rfl
    exact(show Tryz.prog.wantsStandIn t=false by simpa using List.all_eq_true.1 hall t hm)⟩)
  (by kernel_rfl)
end Go.Proofs.YtamkfdlcdiadlaaGreatDoor
