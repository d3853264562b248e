/- For every plan of a term the law CanonMakes of package periscopelaw17 returns true and leaves what it was given; no condition beyond the card's own (the plan is a tree, without a ring; three laid tables start as the program's text lays them). -/
import Derived.Test.YtinpjfnnfkjbmaaGreatDoorKm52
import Derived.Carry
import Derived.Test.YtinpjfnnfkjbmaaGreatDoorCards
import Derived.Test.YtinpjfnnfkjbmaaGreatDoorTie
import Derived.SevenTiedAt
set_option linter.all false
namespace Go.Proofs.YtinpjfnnfkjbmaaGreatDoor
open Go.ChangeShapes Go.ChangeMaps Go.WideShapes Go.ChangeAt Go.WideMaps Go.WideElems Go.RowKit
open _root_.Pv (P10)
theorem makes_laid:laidOutB Tryz.prog=true:=by kernel_rfl
set_option maxRecDepth 100000 in
theorem makes_lifted (os:Os)(started:os.Started)(H:Type)(enc:TypeId × Value→H):
  ReturnsInHanded {} Tryz.checked os 7 .any (fun w args=>(Rows.canonMakesSpec.pre enc Tryz.prog Tryz.f7 [] false w args∧laidMetH Tryz.prog laid3 w)∧sizedMet enc Tryz.prog Tryz.f7 (OpenSpec.ofChange Rows.canonMakesSpec) false w args)
   (Rows.canonMakesSpec.post enc Tryz.prog Tryz.f7 false true false false):=by
 refine returnsInHanded_of_change_and (C:=Tryz.checked) (X:=fun w _=>laidMetH Tryz.prog laid3 w) (fun _ _ _ hh h=>h.of_heap hh) ownK started (by kernel_rfl) Tryz.func7
  (ChangeSpec.witness_shaped (enc:=enc) (C:=Tryz.checked) (os:=os) (X:=fun w _=>laidMetH Tryz.prog laid3 w) false (World.doorLaid Tryz.prog 400 os) #[.agg #[.int .i64 0,.int .i64 0,.int .i64 0,.slice none 0 0]] 8 rfl (World.shaped_of_RefB (by kernel_rfl) (by kernel_rfl)) (by kernel_rfl) (by kernel_rfl) (by kernel_rfl) (door_met os _)) ?_
 intro W base args ds gs before hval0 hW _ _ hL _;have hval:∀(j:Nat) t v,Tryz.f7.params[j]?=some t→args[j]?=some v→Value.okWide Tryz.prog W .any base t v:=hval0;have hW':=hW;obtain⟨p0,q,hA0,hV,rfl,hfz,hnd⟩:=hW;have hA:DataW.TrodAll enc Tryz.prog W 0 (fun _=>true) true Tryz.f7.params.toList args.toList ds p0:=hA0;rw[Tryz.params7]at hA hval;obtain⟨v0,d0,rfl,rfl,h0⟩:=trodAll_one hA
 obtain⟨rfl,rfl⟩:=trodVars_none hV;have h0k:=h0;obtain⟨cs,rfl,_⟩:=okWide_struct Tryz.underlying24 (hval 0 24 v0 rfl rfl);obtain⟨fuel,hfu⟩:=h0;obtain⟨p,hp⟩:=plan_valueK (plan_openK fuel _ _ hfu);have hpv:PlV W p (.agg cs):=hp;have hT:=tab_of_laid hL;clear hA0 hval0 hL;simp only[List.append_nil]at hW';have hlt:∀x∈p0,x.block<W.heap.size:=fun x hx=>by simpa using hW'.lt x hx
 refine(makes_law p _ W hT hpv).mono ?_;rintro e W' ⟨rfl,hbel⟩;refine⟨_,rfl,_,_,_,[],p0,[],hW',?_,?_,rfl,Below.frame hbel _,fun h=>by cases h⟩
 ·exact trodAll_mk1 (shut_bool Tryz.underlying4 _)
 ·exact trodAll_mk1 (Below.trod makes_laid (by kernel_rfl) (of_decide_eq_true (by kernel_rfl)) h0k hbel hlt)
theorem canonMakes_said:Rows.CanonMakesSaid:=
 OpenClaim.holds_of_wide 7 Tryz.f7 rfl rfl rfl rfl rfl rfl rfl ⟨rfl,rfl,rfl,rfl,rfl⟩ rfl rfl rfl rfl rfl (by kernel_rfl) Tryz.func7 (by kernel_rfl)
  (of_decide_eq_true (by kernel_rfl)) (by unfold Func.isWrapper;first|(rw[if_pos (by decide +kernel)];kernel_rfl)|(rw[if_neg (by decide +kernel)];exact⟨rfl,rfl⟩))
  (fun os started H enc _=>makes_lifted os started H enc)
end Go.Proofs.YtinpjfnnfkjbmaaGreatDoor
namespace Go.Proofs.YtinpjfnnfkjbmaaGreatDoor
open Go
theorem canonMakes_holds:Rows.CanonMakesCardSaid:=
 Claim7.holds_tied_plain_at .later [] [.data,.data,.data] true (true, "c4645d7fc4642ca9d1aa4623ee19def1402c022022974ba51cba099f0c719e40") false
  canonMakes_said (fun _ h=>by cases h) (by kernel_rfl) (fun _ h=>by cases h) canonMakes_row_tie rfl ⟨rfl,rfl⟩ (by kernel_rfl) rfl
  (fun f fn hf hfn=>by
   obtain rfl:f=7:=Option.some.inj ((show Tryz.prog.funcNamed "periscope/periscopelaw17.CanonMakes" = some 7 by kernel_rfl).symm.trans hf) |>.symm;obtain rfl:fn=Tryz.f7:=(Option.some.inj (Tryz.func7.symm.trans hfn)).symm;exact⟨by kernel_rfl,fun j t ht=>by
    rw[Tryz.params7]at ht;have hm:t∈[24]:=by simpa using Array.mem_of_getElem? ht
    have hall:([24].all fun u => !Tryz.prog.wantsStandIn u)=true:=by kernel_rfl
    exact(show Tryz.prog.wantsStandIn t=false by simpa using List.all_eq_true.1 hall t hm)⟩)
  (by kernel_rfl)
end Go.Proofs.YtinpjfnnfkjbmaaGreatDoor
