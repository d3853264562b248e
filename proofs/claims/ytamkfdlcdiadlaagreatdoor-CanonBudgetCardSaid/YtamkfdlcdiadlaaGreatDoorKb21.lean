/- sync.Once's slow road with dfa.alive; dfa.Live. -/
import Derived.Test.YtamkfdlcdiadlaaGreatDoorKb05
import Derived.Test.YtamkfdlcdiadlaaGreatDoorKb20
import Derived.Test.YtamkfdlcdiadlaaGreatDoorKb13
import Derived.DeepKeys4
import Derived.Maps.Keyed
import Derived.BigQuiet
import Derived.Deep.QuietTactic
set_option linter.all false
namespace Pv
theorem alivePass_ok {n F:Nat}:∀(rows:List (List Nat)) (q:Nat) {st:List Bool × Bool},LvOk n F st→q+rows.length≤n→LvOk n F (alivePass rows q st)
 | [],_,_,h,_=>h
 | row::rows,q,st,h,hq=>by simp only[List.length_cons]at hq;exact alivePass_ok rows (q+1) (aliveFold_ok row h (by omega)) (by omega)
theorem aliveGo_len {n:Nat}(next:List (List Nat))(hn:next.length≤n):∀(f:Nat) (L:List Bool),L.length=n→(aliveGo next f L).length=n
 | 0,_,h=>h
 | f+1,L,h=>by
   have ho:LvOk n (falses L) (alivePass next 0 (L,false)):=alivePass_ok next 0 (st:=(L,false)) ⟨h,Nat.le_refl _,fun e=>by cases e⟩ (by omega)
   rw[aliveGo];split
   ·exact aliveGo_len next hn f _ ho.1
   ·exact ho.1
theorem live_len (D:Dfa)(hD:D.Ok):D.live.length=D.yes.length:=aliveGo_len _ (by rw[hD.len];exact Nat.le_refl _) _ _ rfl
end Pv
namespace Go.Proofs.YtamkfdlcdiadlaaGreatDoor
open Go.RowKit
variable {H:Nat→Prop}
theorem dfa_set_done {at_:Nat→Nat}{hv nv yv a b c l v:Value}:(dfaCells at_ hv nv yv [a,b,c,l]).setIfInBounds 259 v=dfaCells at_ hv nv yv [v,b,c,l]:=dfa_set _ _ _ _ _ 3 v
theorem dfa_set_lock {at_:Nat→Nat}{hv nv yv a b c l v:Value}:(dfaCells at_ hv nv yv [a,b,c,l]).setIfInBounds 260 v=dfaCells at_ hv nv yv [a,v,c,l]:=dfa_set _ _ _ _ _ 4 v
theorem dfa_done_ {at_:Nat→Nat}{hv nv yv a b c l:Value}:(dfaCells at_ hv nv yv [a,b,c,l])[259]?=some a:=dfa_get _ _ _ _ _ 3
theorem dfa_lock_ {at_:Nat→Nat}{hv nv yv a b c l:Value}:(dfaCells at_ hv nv yv [a,b,c,l])[260]?=some b:=dfa_get _ _ _ _ _ 4
theorem dfa_live_ {at_:Nat→Nat}{hv nv yv a b c l:Value}:(dfaCells at_ hv nv yv [a,b,c,l])[262]?=some l:=dfa_get _ _ _ _ _ 6
theorem LvAt.done {w0 w:World}{n d g cap:Nat}{at_:Nat→Nat}{hv nv yv a b c v:Value}{L:List Bool}(h:LvAt H w0 n at_ d g cap hv nv yv a b c w L)(hd:d<w0.heap.size):LvAt H w0 n at_ d g cap hv nv yv v b c (w.setCell ⟨d,259,none⟩ v) L:=by
 obtain⟨cur,h1,h2,h3,h4,h5⟩:=h.row;have hge:=h.ge;have hb:=blk_set (o:=259) (v:=v) h.d;rw[dfa_set_done]at hb;exact⟨h.keep.trans (Keep.set rfl),hb,hge,h.len,cur,keep_set h1 (by omega),h2,h3,h4,h5⟩
theorem LvAt.unlock {w0 w:World}{n d g cap:Nat}{at_:Nat→Nat}{hv nv yv a b c v:Value}{L:List Bool}(h:LvAt H w0 n at_ d g cap hv nv yv a b c w L)(hd:d<w0.heap.size):LvAt H w0 n at_ d g cap hv nv yv a v c (w.setCell ⟨d,260,none⟩ v) L:=by
 obtain⟨cur,h1,h2,h3,h4,h5⟩:=h.row;have hge:=h.ge;have hb:=blk_set (o:=260) (v:=v) h.d;rw[dfa_set_lock]at hb;exact⟨h.keep.trans (Keep.set rfl),hb,hge,h.len,cur,keep_set h1 (by omega),h2,h3,h4,h5⟩
theorem LvAt.from_ {w0 w1 w:World}{n d g cap:Nat}{at_:Nat→Nat}{hv nv yv a b c:Value}{L:List Bool}(h:LvAt H w1 n at_ d g cap hv nv yv a b c w L)(hk:Keep (· = d) w0 w1):LvAt H w0 n at_ d g cap hv nv yv a b c w L:=
 ⟨hk.trans h.keep,h.d,Nat.le_trans hk.size h.ge,h.len,h.row⟩
set_option maxRecDepth 100000 in
set_option maxHeartbeats 1600000 in
theorem slow_any (D:Pv.Dfa)(hD:D.Ok)(d:Nat)(hv nv yv lv0:Value)(rs:List Value)(w:World)(hd:H d)
  (h1:w.heap[d]?=some (.cells (dfaCells (Pv.indexOf D.parts) hv nv yv [.int .u32 0,.int .i32 0,.int .u32 0,lv0]) 205)) (h2:SlH H w nv rs) (h3:RowsAt H w rs D.next) (h4:SlH H w yv (D.yes.map .bool)) (hn:D.yes.length<549755813888):
  Calls Tryz.prog 246 #[.pointer (some ⟨d,259,none⟩),.func (.func 234) #[Ptr d] #[]] w fun e w'=>e = .returned (.tuple #[]) ∧
   ∃g cap,LvAt H w D.yes.length (Pv.indexOf D.parts) d g cap hv nv yv (.int .u32 1) (.int .i32 0) (.int .u32 0) w' D.live:=by
 have hlk:=lock_free d 260 w (cB h1 dfa_lock_) (fob h1);have hb1:=blk_set (o:=260) (v:= .int .i32 1) h1;rw[dfa_set_lock]at hb1;have hK1:Keep (· = d) w (w.setCell ⟨d,260,none⟩ (.int .i32 1)):=Keep.set rfl;have hHd:∀k,k=d→H k∨w.heap.size≤k:=fun k e=> .inl (by rw[e];exact hd)
 have hrows:RowsAt H (w.setCell ⟨d,260,none⟩ (.int .i32 1)) rs D.next:=⟨h3.1,fun q row hq=>let ⟨rv,e,hr⟩:=h3.2 q row hq;⟨rv,e,hr.keep hK1 hHd⟩⟩
 have hal:=alive_any D hD d hv nv yv (.int .u32 0) (.int .i32 1) (.int .u32 0) lv0 rs _ hd hb1 (h2.keep hK1 hHd) hrows (h4.keep hK1 hHd) hn;have hld:=bload_any d 259 0 (w.setCell ⟨d,260,none⟩ (.int .i32 1)) (cB hb1 dfa_done_);have hnot:∀(x:Bool) (w:World),(Op.unary .not (.bool x)).run Tryz.prog w = .ok (.bool (!x)) w:=fun _ _=>rfl
 have eg:Hid (Enters Tryz.prog 234):=enters_of Tryz.func234 (by kernel_rfl) rfl;have hlt:=blk_lt h1;have HAl:=Hy hal;have HLd:=Hy hld;have HK1:=Hy hK1;clear h2 h3 h4 hrows hal hld hHd hK1 hb1 h1;go_enter_defers Tryz.func246,Tryz.ntmps246;go_wp2_with fail;refine hlk.mono ?_;rintro e w' ⟨rfl,rfl⟩;go_wp2_with fail;refine HLd.out.mono ?_;rintro e w' ⟨rfl,rfl⟩;go_wp2_with fail;refine HAl.out.mono ?_
 rintro e w' ⟨rfl,g,cap,hL⟩;have HL:=Hy (hL.from_ HK1.out);clear hL HAl HK1;go_wp2_with fail;refine leaves_cons (f:=252) (args:=#[.pointer (some ⟨d,259,none⟩),.bool true]) (by simp) (by simp[go_sem]) ?_;refine(store_deferred d 259 (.int .u32 0) .returning _ (cB HL.out.d dfa_done_) (fob HL.out.d)).mono ?_;rintro e u' w'' ⟨rfl,rfl,rfl⟩;have HL2:=Hy (HL.out.drew.done (v:= .int .u32 1) hlt)
 refine leaves_cons (f:=251) (args:=#[.pointer (some ⟨d,260,none⟩)]) (by simp[settle]) (by simp[go_sem]) ?_;refine(unlock_deferred d 260 _ _ (cB HL2.out.d dfa_lock_) (fob HL2.out.d)).mono ?_;rintro e u' w'' ⟨rfl,rfl,rfl⟩;simp[Leaves,settle,results,Tryz.results246];exact⟨g,cap,HL2.out.unlock hlt⟩
set_option maxRecDepth 20000 in
theorem do_first (D:Pv.Dfa)(hD:D.Ok)(d:Nat)(hv nv yv lv0:Value)(rs:List Value)(w:World)(hd:H d)
  (h1:w.heap[d]?=some (.cells (dfaCells (Pv.indexOf D.parts) hv nv yv [.int .u32 0,.int .i32 0,.int .u32 0,lv0]) 205)) (h2:SlH H w nv rs) (h3:RowsAt H w rs D.next) (h4:SlH H w yv (D.yes.map .bool)) (hn:D.yes.length<549755813888):
  Calls Tryz.prog 233 #[.pointer (some ⟨d,259,none⟩),.func (.func 234) #[Ptr d] #[]] w fun e w'=>e = .returned (.tuple #[]) ∧
   ∃g cap,LvAt H w D.yes.length (Pv.indexOf D.parts) d g cap hv nv yv (.int .u32 1) (.int .i32 0) (.int .u32 0) w' D.live:=by
 have hld:=bload_any d 259 0 w (cB h1 dfa_done_);have hsl:=slow_any D hD d hv nv yv lv0 rs w hd h1 h2 h3 h4 hn;have x0:=cB h1 dfa_done_;have hnot:∀(x:Bool) (w:World),(Op.unary .not (.bool x)).run Tryz.prog w = .ok (.bool (!x)) w:=fun _ _=>rfl
 have HSl:=Hy hsl;clear h1 h2 h3 h4 hsl;go_enter Tryz.func233,Tryz.ntmps233;go_wp2_with fail;refine hld.mono ?_;rintro e w' ⟨rfl,rfl⟩;go_wp2_with fail;refine HSl.out.mono ?_;rintro e w' ⟨rfl,g,cap,hL⟩;have HL:=Hy hL;clear hL HSl;go_wp2_with fail;go_end0;exact⟨rfl,g,cap,HL.out⟩
theorem do_done (d:Nat)(fv:Value)(w:World)(h0:w.cell? ⟨d,259,none⟩=some (.int .u32 1)):
  Calls Tryz.prog 233 #[.pointer (some ⟨d,259,none⟩),fv] w fun e w'=>e = .returned (.tuple #[])∧w=w':=by
 have hld:=bload_any d 259 1 w h0;have hnot:∀(x:Bool) (w:World),(Op.unary .not (.bool x)).run Tryz.prog w = .ok (.bool (!x)) w:=fun _ _=>rfl
 go_enter Tryz.func233,Tryz.ntmps233;go_wp2_with fail;refine hld.mono ?_;rintro e w' ⟨rfl,rfl⟩;go_wp2_with fail;go_end0;exact⟨rfl,rfl⟩
theorem LvAt.dfa {w0 w:World}{D:Pv.Dfa}{d g cap:Nat}{hv nv yv:Value}{rs:List Value}(h:LvAt H w0 D.yes.length (Pv.indexOf D.parts) d g cap hv nv yv (.int .u32 1) (.int .i32 0) (.int .u32 0) w D.live)(hd:H d)(hH:∀k,H k→k<w0.heap.size)
  (h2:SlH H w0 hv (D.heads.map byteV)) (h3:SlH H w0 nv rs) (h4:RowsAt H w0 rs D.next) (h5:SlH H w0 yv (D.yes.map .bool)):DfaAt H w D d:=by
 have hh:∀k,k=d→H k∨w0.heap.size≤k:=fun k e=> .inl (by rw[e];exact hd)
 refine⟨hv,nv,yv,_,rs,h.d,h2.keep h.keep hh,h3.keep h.keep hh,⟨h4.1,fun q row hq=>let ⟨rv,e,hr⟩:=h4.2 q row hq;⟨rv,e,hr.keep h.keep hh⟩⟩,h5.keep h.keep hh,.inr ⟨_,rfl,?_⟩⟩;obtain⟨cur,r1,r2,r3,r4,r5⟩:=h.row;have hl:=h.len
 refine⟨_,_,by rw[List.length_map,hl],⟨by rw[List.length_map,hl];exact r3,fun e=>(by cases e),fun i hi=>⟨g,0,rfl,?_⟩⟩,fun blk off e=>by cases e;exact⟨fun hg=>by have:=hH _ hg;have:=h.ge;omega,blk_lt r1⟩⟩;rw[List.length_map,hl]at hi;rw[Nat.zero_add,(h.cell hi).1,List.getElem_map,List.getD_eq_getElem?_getD,List.getElem?_eq_getElem (by omega)];rfl
set_option maxRecDepth 20000 in
theorem live_any (D:Pv.Dfa)(hD:D.Ok)(d q:Nat)(w:World)(h:DfaAt H w D d)(hd:H d)(hH:∀k,H k→k<w.heap.size)(hn:D.yes.length<549755813888)(hq:q<D.yes.length):
  Calls Tryz.prog 205 #[Ptr d,.int .i64 (q:Int)] w fun e w'=>e = .returned (.bool (D.isLive q))∧DfaAt H w' D d∧Keep (· = d) w w':=by
 have hhas:=dhas_any D d q w h;rw[decide_eq_true hq]at hhas;have hq':(q:Int)<D.yes.length:=by omega
 have hmf:∀(fn:Fn) (first cap:Array Value) (w:World),(Instr.makeFunc fn first cap).run Tryz.prog w = .ok (.func fn first cap) w:=fun _ _ _ _=>rfl
 have hnot:∀(x:Bool) (w:World),(Op.unary .not (.bool x)).run Tryz.prog w = .ok (.bool (!x)) w:=fun _ _=>rfl
 have HA:=Hy h;obtain⟨hv,nv,yv,rest,rs,h1,h2,h3,h4,h5,h6⟩:=h;rcases h6 with rfl|⟨lv,rfl,h7⟩
 ·have hdo:=do_first D hD d hv nv yv _ rs w hd h1 h3 h4 h5 hn;have HDo:=Hy hdo;have H2:=Hy h2;have H3:=Hy h3;have H4:=Hy h4;have H5:=Hy h5;have x0:=cB h1 dfa_done_;clear h1 h2 h3 h4 h5 hdo;go_enter Tryz.func205,Tryz.ntmps205;go_wp2_with fail;refine hhas.mono ?_;rintro e w' ⟨rfl,rfl⟩;go_wp2_with fail;refine HDo.out.mono ?_;rintro e w' ⟨rfl,g,cap,hL⟩;have HL:=Hy hL;have x1:=hL.live
  have x2:=(hL.cell hq).1;rw[show D.live.getD q false=D.isLive q from rfl]at x2;clear hL HDo x0;go_wp2_with fail;go_ret;exact⟨rfl,HL.out.dfa hd hH H2.out H3.out H4.out H5.out,HL.out.keep⟩
 ·have hdo:=do_done d (.func (.func 234) #[Ptr d] #[]) w (cB h1 dfa_done_);have x1:=cB h1 dfa_live_;obtain⟨la,lc,rfl,h7,_⟩:=h7;have hlen:D.live.length=D.yes.length:=Pv.live_len D hD;obtain⟨blk,off,rfl,x2⟩:=h7.cell q (by simp;omega);have e:(D.live.map Value.bool)[q]'(by simp;omega) = .bool (D.isLive q):=by
   rw[List.getElem_map];unfold Pv.Dfa.isLive;rw[List.getD_eq_getElem?_getD,List.getElem?_eq_getElem (by omega)];rfl
  rw[e]at x2;rw[List.length_map,hlen]at x1;have x0:=cB h1 dfa_done_;have HDo:=Hy hdo;clear h1 h2 h3 h4 h5 hdo h7 e;go_enter Tryz.func205,Tryz.ntmps205;go_wp2_with fail;refine hhas.mono ?_;rintro e w' ⟨rfl,rfl⟩;go_wp2_with fail;refine HDo.out.mono ?_;rintro e w' ⟨rfl,rfl⟩;clear HDo x0;go_wp2_with fail;go_ret;exact⟨rfl,HA.out,Keep.refl _ _⟩
end Go.Proofs.YtamkfdlcdiadlaaGreatDoor
namespace Go.Proofs.YtamkfdlcdiadlaaGreatDoor
open Go.RowKit Go.Maps
variable {H:Nat→Prop}
abbrev spotC (x:Pv.Spot):List Value:=[.int .i64 (x.phase:Int),.int .i64 (x.p:Int),.int .i64 (x.q:Int),.bool x.moved]
abbrev spotV (x:Pv.Spot):Value:= .agg #[.int .i64 (x.phase:Int),.int .i64 (x.p:Int),.int .i64 (x.q:Int),.bool x.moved]
abbrev stepC (x:Pv.Step):List Value:=[.int .i64 x.from_,byteV x.by_,.bool x.free]
abbrev stepV (x:Pv.Step):Value:= .agg #[.int .i64 x.from_,byteV x.by_,.bool x.free]
theorem laidOut:laidOutB Tryz.prog=true:=by kernel_rfl
theorem spot_law:WideMaps.KeyLaw Tryz.prog 271:=deep_law_laid laidOut (m:=2) (by omega) (of_decide_eq_true (by kernel_rfl)) (by kernel_rfl) (by rw[Tryz.underlying271])
theorem spot_keyed:Keyed Tryz.prog 271:=Keyed.of_law spot_law
theorem spot_cells:Tryz.prog.cellsOf 271=4:=by kernel_rfl
theorem types_size:∃m,Tryz.prog.types.size=m+1:=⟨Tryz.prog.types.size-1,(Nat.sub_add_cancel (of_decide_eq_true (by kernel_rfl))).symm⟩
theorem spot_keyType:Tryz.prog.keyType 271=true:=by kernel_rfl
theorem spot_key (x:Pv.Spot)(h1:x.phase<4611686018427387904)(h2:x.p<4611686018427387904)(h3:x.q<4611686018427387904):∃l,keyOf Tryz.prog 271 (spotV x)=some l:=by
 obtain⟨m,hm⟩:=types_size;have u1:=Tryz.underlying271;have u2:=Tryz.underlying269;have u3:=Tryz.underlying3;have u4:=Tryz.underlying4;have c0:=spot_cells;have c1:Tryz.prog.cellsOf 269=1:=by kernel_rfl
 have c2:Tryz.prog.cellsOf 3=1:=by kernel_rfl
 have c3:Tryz.prog.cellsOf 4=1:=by kernel_rfl
 have w1:∀n:Nat,n<4611686018427387904→(Lit.int .i64 (n:Int)).wf=true:=fun n hn=>by
  have e1:IntKind.i64.min = -9223372036854775808:=by decide
  have e2:IntKind.i64.max=9223372036854775807:=by decide
  simp[Lit.wf,e1,e2];omega
 unfold keyOf;rw[u1];simp only;rw[if_pos (by simp[spot_keyType,Value.formed,u1,c0]),hm];simp[Program.keyLits,u1,u2,u3,u4,c0,c1,c2,c3,w1,h1,h2,h3,Value.cells]
theorem info_spot:(Tryz.prog.info? 271).map (fun i=>(i.zero,i.size,i.bytes))=some (some (.agg #[.int .i64 0,.int .i64 0,.int .i64 0,.bool false]),4,32):=by kernel_rfl
theorem info_step:(Tryz.prog.info? 273).map (fun i=>(i.zero,i.size,i.bytes))=some (some (.agg #[.int .i64 0,.int .u8 0,.bool false]),3,16):=by kernel_rfl
structure SrAt (H:Nat→Prop)(N0:Nat)(w:World)(s a b M bb:Nat)(A B:Pv.Dfa)(lv sv:Value)(tr:Pv.Trail)(l u:Nat):Prop where
 sr:w.heap[s]?=some (.cells #[Ptr a,Ptr b,.map (some M),lv,sv,Ptr bb] 264)
 da:DfaAt (own2 H lv sv) w A a
 db:DfaAt (own2 H lv sv) w B b
 m:MapAt w M (tr.map fun x=>spotV x.1) ((List.range tr.length).map intV)
 list:RowK N0 271 4 w lv tr.length (tr.flatMap fun x=>spotC x.1)
 steps:RowK N0 273 3 w sv tr.length (tr.flatMap fun x=>stepC x.2)
 bud:BudAt w bb l u
 hh:H s∧H a∧H b∧H M∧H bb
 ab:a≠b
 hlt:∀k,H k→k<w.heap.size
def Others (w w':World):Prop:=∀(k:Nat) (cs:Array Value) (t:TypeId) (fr:Nat × Nat),w.heap[k]?=some (.cells cs t fr)→t≠264→t≠113→t≠205→t≠271→t≠273→w'.heap[k]?=some (.cells cs t fr)
theorem RowK.ty {base e k n:Nat}{w:World}{v:Value}{xs:List Value}(h:RowK base e k w v n xs){g:Nat}(hg:v.ownBlock=some g):∃cs,w.heap[g]?=some (.cells cs e):=by
 rcases RowK.blk h with⟨rfl,_⟩|⟨g',cap,cur,rfl,h1,h2,_⟩
 ·cases hg
 ·cases hg;exact⟨_,h2⟩
theorem RowK.ne {base e k n:Nat}{w:World}{v:Value}{xs:List Value}(h:RowK base e k w v n xs){b:Nat}{cs:Array Value}{t:TypeId}{fr:Nat × Nat}(hb:w.heap[b]?=some (.cells cs t fr))(ht:e≠t):v.ownBlock≠some b:=fun hg=>by
 obtain⟨cs',h'⟩:=h.ty hg;rw[hb]at h';injection h' with h'
 injection h' with _ h' _
 exact ht h'.symm
theorem RowK.ne_map {base e k n:Nat}{w:World}{v:Value}{xs:List Value}(h:RowK base e k w v n xs){b:Nat}{ks vs:List Value}(hb:MapAt w b ks vs):v.ownBlock≠some b:=fun hg=>by obtain⟨cs',h'⟩:=h.ty hg;exact hb.ne h' rfl
end Go.Proofs.YtamkfdlcdiadlaaGreatDoor
namespace Go.Proofs.YtamkfdlcdiadlaaGreatDoor
open Go.RowKit Go.Maps
variable {H:Nat→Prop}
theorem below_drewN {B:Nat}{w w':World}(h:Below B w w')(n:Nat):Below B w (w'.drewN n):=⟨h.os,h.tape,h.output,h.size,h.block⟩
theorem below_set4 {B:Nat}{w W:World}(h:Below B w W){b:Nat}(hb:B≤b)(v0 v1 v2 v3:Value):Below B w ((((W.setCell ⟨b,0,none⟩ v0).setCell ⟨b,1,none⟩ v1).setCell ⟨b,2,none⟩ v2).setCell ⟨b,3,none⟩ v3):=
 (((h.setCell hb v0).setCell hb v1).setCell hb v2).setCell hb v3
def freeV (A:Pv.Dfa)(x:Pv.Spot):Pv.Spot × Bool:=match Pv.freeOf A x with|some y=>(y,true)|none=>(⟨0,0,0,false⟩,false)
theorem free_body (A:Pv.Dfa)(x:Pv.Spot)(s a b M bb:Nat)(lv sv:Value)(w:World)(y:Pv.Spot)(ok:Bool)(hy:freeV A x=(y,ok))
  (hs:w.heap[s]?=some (.cells #[Ptr a,Ptr b,.map (some M),lv,sv,Ptr bb] 264)) (hd:DfaAt H w A a):
  Calls Tryz.prog 180 #[Ptr s,spotV x] w fun e w'=>e = .returned (.tuple #[spotV y,.bool ok])∧Below w.heap.size w w':=by
 have hyes:∀W,Below w.heap.size w W→Pure 181 #[Ptr a,.int .i64 (x.p:Int)] W (.bool (A.isYes x.p)):=fun W hb=>yes_any A a x.p W (hd.later hb)
 have hx0:∀W,Below w.heap.size w W→W.cell? ⟨s,0,none⟩=some (Ptr a):=fun W hb=>cB (o:=0) (later_blk hb hs) rfl
 have HY:=Hy hyes;have HX0:=Hy hx0;have hlt:=blk_lt hs;clear hyes hd hx0 hs;obtain⟨ph,p,q,mv⟩:=x;unfold freeV Pv.freeOf at hy;simp only at hy HY;generalize A.isYes p=yp at *;go_enter Tryz.func180,Tryz.ntmps180;go_wp2_with fail
 obtain⟨w2,hw2⟩:∃w2,(w.alloc (.cells #[.int .i64 (ph:Int),.int .i64 (p:Int),.int .i64 (q:Int),.bool mv] 271)).alloc (.cells #[.int .i64 0,.int .i64 0,.int .i64 0,.bool false] 271)=w2:=⟨_,rfl⟩
 have hB:Below w.heap.size w w2:=by rw[←hw2];exact((Below.refl _ _).alloc (Nat.le_refl _) _).alloc (by simp) _
 have hx:w2.heap[w.heap.size]?=some (.cells #[.int .i64 (ph:Int),.int .i64 (p:Int),.int .i64 (q:Int),.bool mv] 271):=by rw[←hw2];exact blk_old (blk_new rfl)
 have hr:w2.heap[w.heap.size+1]?=some (.cells #[.int .i64 0,.int .i64 0,.int .i64 0,.bool false] 271):=by rw[←hw2];exact blk_new (by simp)
 rw[hw2];clear hw2;have x0:=HX0.out _ hB;have y0:w2.cell? ⟨w.heap.size,0,none⟩=some (.int .i64 (ph:Int)):=cB hx rfl;have y1:w2.cell? ⟨w.heap.size,1,none⟩=some (.int .i64 (p:Int)):=cB hx rfl;have y2:w2.cell? ⟨w.heap.size,2,none⟩=some (.int .i64 (q:Int)):=cB hx rfl;have y3:w2.cell? ⟨w.heap.size,3,none⟩=some (.bool mv):=cB hx rfl;have r0:w2.cell? ⟨w.heap.size+1,0,none⟩=some (.int .i64 0):=cB hr rfl
 have r1:w2.cell? ⟨w.heap.size+1,1,none⟩=some (.int .i64 0):=cB hr rfl;have r2:w2.cell? ⟨w.heap.size+1,2,none⟩=some (.int .i64 0):=cB hr rfl;have r3:w2.cell? ⟨w.heap.size+1,3,none⟩=some (.bool false):=cB hr rfl;have fr:∀o,w2.frozen? ⟨w.heap.size+1,o,none⟩=false:=fun o=>fob hr
 have HR:=Hy hr;have HB:=Hy hB;clear hx hr hB
 match ph with
 | 0=>
   replace y0:w2.cell? ⟨w.heap.size,0,none⟩=some (.int .i64 0):=y0;cases yp with
   | true=>
     simp only[and_self,if_true,Prod.mk.injEq]at hy;obtain⟨rfl,rfl⟩:=hy;go_quiet ((go_at_call 181;refine Calls.quiet_of_same ((HY.out _ (below_drewN HB.out _)).mono fun _ _ h=>⟨h.1,h.2.symm⟩)));go_wp2_with fail;refine bodyPost_ret (v:= .tuple #[spotV ⟨1,p,0,false⟩,.bool true]) ?_ rfl ⟨rfl,below_set4 (below_drewN HB.out _) (by omega) _ _ _ _⟩;simp[results,Tryz.results180,go_sem,r0,r1,r2,r3]
   | false=>
     simp at hy;obtain⟨rfl,rfl⟩:=hy;go_quiet ((go_at_call 181;refine Calls.quiet_of_same ((HY.out _ (below_drewN HB.out _)).mono fun _ _ h=>⟨h.1,h.2.symm⟩)));go_wp2_with fail;go_quiet (fail);go_wp2_with fail;refine bodyPost_ret (v:= .tuple #[spotV ⟨0,0,0,false⟩,.bool false]) ?_ rfl ⟨rfl,below_set4 (below_drewN HB.out _) (by omega) _ _ _ _⟩;simp[results,Tryz.results180,go_sem,r0,r1,r2,r3]
 | 1=>
   replace y0:w2.cell? ⟨w.heap.size,0,none⟩=some (.int .i64 1):=y0;cases mv with
   | false=>
     simp at hy;obtain⟨rfl,rfl⟩:=hy;go_quiet (fail);go_wp2_with fail;go_quiet (fail);go_wp2_with fail;refine bodyPost_ret (v:= .tuple #[spotV ⟨0,0,0,false⟩,.bool false]) ?_ rfl ⟨rfl,below_set4 (below_drewN HB.out _) (by omega) _ _ _ _⟩;simp[results,Tryz.results180,go_sem,r0,r1,r2,r3]
   | true=>
     cases yp with
     | false=>
       simp at hy;obtain⟨rfl,rfl⟩:=hy;go_quiet (fail);go_wp2_with fail;replace x0:(w2.drewN nq).cell? ⟨s,0,none⟩=_:=x0;replace y0:(w2.drewN nq).cell? ⟨w.heap.size,0,none⟩=_:=y0;replace y1:(w2.drewN nq).cell? ⟨w.heap.size,1,none⟩=_:=y1;replace y2:(w2.drewN nq).cell? ⟨w.heap.size,2,none⟩=_:=y2;replace y3:(w2.drewN nq).cell? ⟨w.heap.size,3,none⟩=_:=y3
       replace r0:(w2.drewN nq).cell? ⟨w.heap.size+1,0,none⟩=_:=r0;replace r1:(w2.drewN nq).cell? ⟨w.heap.size+1,1,none⟩=_:=r1;replace r2:(w2.drewN nq).cell? ⟨w.heap.size+1,2,none⟩=_:=r2;replace r3:(w2.drewN nq).cell? ⟨w.heap.size+1,3,none⟩=_:=r3;replace fr:∀o,(w2.drewN nq).frozen? ⟨w.heap.size+1,o,none⟩=false:=fr;replace HB:=Hy (below_drewN HB.out nq);generalize w2.drewN nq=w3 at *
       go_quiet ((go_at_call 181;refine Calls.quiet_of_same ((HY.out _ (below_drewN HB.out _)).mono fun _ _ h=>⟨h.1,h.2.symm⟩)));go_wp2_with fail;refine bodyPost_ret (v:= .tuple #[spotV ⟨0,0,0,false⟩,.bool false]) ?_ rfl ⟨rfl,below_set4 (below_drewN HB.out _) (by omega) _ _ _ _⟩;simp[results,Tryz.results180,go_sem,r0,r1,r2,r3]
     | true=>
       simp at hy;obtain⟨rfl,rfl⟩:=hy;go_quiet (fail);go_wp2_with fail;replace x0:(w2.drewN nq).cell? ⟨s,0,none⟩=_:=x0;replace y0:(w2.drewN nq).cell? ⟨w.heap.size,0,none⟩=_:=y0;replace y1:(w2.drewN nq).cell? ⟨w.heap.size,1,none⟩=_:=y1;replace y2:(w2.drewN nq).cell? ⟨w.heap.size,2,none⟩=_:=y2;replace y3:(w2.drewN nq).cell? ⟨w.heap.size,3,none⟩=_:=y3
       replace r0:(w2.drewN nq).cell? ⟨w.heap.size+1,0,none⟩=_:=r0;replace r1:(w2.drewN nq).cell? ⟨w.heap.size+1,1,none⟩=_:=r1;replace r2:(w2.drewN nq).cell? ⟨w.heap.size+1,2,none⟩=_:=r2;replace r3:(w2.drewN nq).cell? ⟨w.heap.size+1,3,none⟩=_:=r3;replace fr:∀o,(w2.drewN nq).frozen? ⟨w.heap.size+1,o,none⟩=false:=fr;replace HB:=Hy (below_drewN HB.out nq);generalize w2.drewN nq=w3 at *
       go_quiet ((go_at_call 181;refine Calls.quiet_of_same ((HY.out _ (below_drewN HB.out _)).mono fun _ _ h=>⟨h.1,h.2.symm⟩)));go_wp2_with fail;refine bodyPost_ret (v:= .tuple #[spotV ⟨2,q,0,false⟩,.bool true]) ?_ rfl ⟨rfl,below_set4 (below_drewN HB.out _) (by omega) _ _ _ _⟩;simp[results,Tryz.results180,go_sem,r0,r1,r2,r3]
 | n+2=>
   have hz0:(((n+2:Nat):Int)==0)=false:=by simp;omega
   have hz1:(((n+2:Nat):Int)==1)=false:=by simp;omega
   simp at hy;obtain⟨rfl,rfl⟩:=hy;generalize ((n+2:Nat):Int)=z at *;go_quiet (fail);go_wp2_with fail;go_quiet (fail);go_wp2_with fail;refine bodyPost_ret (v:= .tuple #[spotV ⟨0,0,0,false⟩,.bool false]) ?_ rfl ⟨rfl,below_set4 (below_drewN HB.out _) (by omega) _ _ _ _⟩;simp[results,Tryz.results180,go_sem,r0,r1,r2,r3]
end Go.Proofs.YtamkfdlcdiadlaaGreatDoor
