/- The walk of auto.Shortest. -/
import Derived.Test.YtamkfdlcdiadlaaGreatDoorKb05
import Derived.Test.YtamkfdlcdiadlaaGreatDoorKb20
import Derived.Test.YtamkfdlcdiadlaaGreatDoorKb23
import Derived.Test.YtamkfdlcdiadlaaGreatDoorKb03
import Derived.Laws.IdiomStrings
import Derived.Maps.Keyed
import Derived.BigQuiet
import Derived.Deep.QuietTactic
import Derived.Test.YtamkfdlcdiadlaaGreatDoorKb21
import Derived.Test.YtamkfdlcdiadlaaGreatDoorKb11
set_option linter.all false
namespace Go.Proofs.YtamkfdlcdiadlaaGreatDoor
open Go.RowKit Go.Maps
variable {H:Nat→Prop}
theorem field_from0 (a b:Int)(W:World):(Instr.field 295 (.agg #[.int .i64 a,.int .u8 b]) 0).run Tryz.prog W = .ok (.int .i64 a) W:=by simp[Instr.field,run_underlying Tryz.underlying295,go_sem,asAgg,part]
theorem field_from1 (a b:Int)(W:World):(Instr.field 295 (.agg #[.int .i64 a,.int .u8 b]) 1).run Tryz.prog W = .ok (.int .u8 b) W:=by simp[Instr.field,run_underlying Tryz.underlying295,go_sem,asAgg,part]
abbrev fromV (x:Int × UInt8):Value:= .agg #[.int .i64 x.1,byteV x.2]
theorem intk:Keyed Tryz.prog 3:=int_keyed Tryz.underlying3
theorem int_key (n:Nat)(h:n<4611686018427387904):∃l,keyOf Tryz.prog 3 (intV n)=some l:=by
 have e1:IntKind.i64.min = -9223372036854775808:=by decide
 have e2:IntKind.i64.max=9223372036854775807:=by decide
 exact⟨_,keyOf_int_mk Tryz.underlying3 (by simp[Lit.wf,e1,e2];omega)⟩
theorem info_int':(Tryz.prog.info? 3).map (fun i=>(i.zero,i.size,i.bytes))=some (some (.int .i64 0),1,8):=by kernel_rfl
abbrev CameAt (w:World)(M:Nat)(c:Pv.Came):Prop:=MapAt w M (c.map fun x=>intV x.1) (c.map fun x=>fromV x.2)
theorem intV_inj {a b:Nat}(h:intV a=intV b):a=b:=by simp at h;omega
theorem came_keys {D:Pv.Dfa}{c:Pv.Came}(h:Pv.CameOk D c)(hn:D.yes.length<549755813888):∀y∈c.map (fun x=>intV x.1),∃l,keyOf Tryz.prog 3 y=some l:=fun y hy=>by obtain⟨x,hx,rfl⟩:=List.mem_map.1 hy;exact int_key _ (by have:=h.lt x hx;omega)
theorem came_has {D:Pv.Dfa}{c:Pv.Came}(h:Pv.CameOk D c)(hn:D.yes.length<549755813888){w:World}{M:Nat}(hm:CameAt w M c){j:Nat}{x:Nat × Int × UInt8}(hj:c[j]?=some x)(b:Bool):
  (Instr.lookup 296 (.map (some M)) (intV x.1) b).run Tryz.prog w = .ok (if b then .tuple #[fromV x.2,.bool true] else fromV x.2) w:=by
 have hx:x∈c:=List.mem_of_getElem? hj;obtain⟨kl,hkl⟩:=int_key x.1 (by have:=h.lt x hx;omega);obtain⟨i,v,h1,h2,h3⟩:=hm.has intk Tryz.underlying296 (came_keys h hn) hkl (List.mem_map_of_mem hx) b;rw[h3];have hv:v=fromV x.2:=by
  rw[List.getElem?_map]at h1 h2;cases hc:c[i]? with
  | none=>rw[hc]at h1;cases h1
  | some y=>
    rw[hc]at h1 h2;simp only[Option.map_some,Option.some.injEq]at h1 h2;have hi:=Pv.nodup_idx h.nd hc hj (intV_inj h1);rw[hi,hj]at hc;have hxy:x=y:=Option.some.inj hc;rw[←h2,hxy]
 rw[hv]
theorem came_hasnt {D:Pv.Dfa}{c:Pv.Came}(h:Pv.CameOk D c)(hn:D.yes.length<549755813888){w:World}{M:Nat}(hm:CameAt w M c){q:Nat}(hq:q<D.yes.length)(ha:c.any (fun x=>x.1==q)=false):
  (Instr.lookup 296 (.map (some M)) (intV q) true).run Tryz.prog w = .ok (.tuple #[.agg #[.int .i64 0,.int .u8 0],.bool false]) w:=by
 obtain⟨kl,hkl⟩:=int_key q (by omega);refine hm.hasnt intk Tryz.underlying296 (came_keys h hn) hkl (fun hi => ?_) (Tryz.zeroValue295 w);obtain⟨x,hx,e⟩:=List.mem_map.1 hi;rw[List.any_eq_false]at ha;exact ha x hx (by simp[intV_inj e])
theorem came_put {D:Pv.Dfa}{c:Pv.Came}(h:Pv.CameOk D c)(hn:D.yes.length<549755813888){w:World}{M:Nat}(hm:CameAt w M c){q:Nat}(hq:q<D.yes.length)(ha:c.any (fun x=>x.1==q)=false)(v:Int × UInt8):
  ∃w',(Instr.mapUpdate 296 (.map (some M)) (intV q) (fromV v)).run Tryz.prog w = .ok () w'∧CameAt w' M (c++[(q,v)])∧Keep (· = M) w w':=by
 obtain⟨kl,hkl⟩:=int_key q (by omega);obtain⟨w',h1,h2,h3⟩:=hm.put intk Tryz.underlying296 (came_keys h hn) hkl (fun hi=>by obtain⟨x,hx,e⟩:=List.mem_map.1 hi;rw[List.any_eq_false]at ha;exact ha x hx (by simp[intV_inj e])) (fromV v)
 exact⟨w',h1,by unfold CameAt;rw[List.map_append,List.map_append];exact h2,h3⟩
def cIdx (c:Pv.Came)(q:Nat):Nat:=(c.map (·.1)).idxOf q
theorem cIdx_at {c:Pv.Came}(hn:(c.map (·.1)).Nodup){j:Nat}{x:Nat × Int × UInt8}(hj:c[j]?=some x):cIdx c x.1=j:=by
 have hjl:=(List.getElem?_eq_some_iff.1 hj).1;have h1:x.1∈c.map (·.1):=List.mem_map_of_mem (List.mem_of_getElem? hj);have h2:cIdx c x.1<(c.map (·.1)).length:=List.idxOf_lt_length_of_mem h1;have h3:(c.map (·.1))[cIdx c x.1]?=some x.1:=by rw[List.getElem?_eq_getElem h2];exact congrArg some (List.getElem_idxOf h2)
 have h4:(c.map (·.1))[j]?=some x.1:=by rw[List.getElem?_map,hj];rfl
 exact(List.getElem?_inj h2 hn).1 (h3.trans h4.symm)
theorem Row.get {base e:Nat}{w:World}{v:Value}{xs:List Value}(h:Row base e w v xs){i:Nat}{u:Value}(hi:xs[i]?=some u):∃g c,v = .slice (some ⟨g,0,none⟩) xs.length c∧w.cell? ⟨g,i,none⟩=some u:=by
 have hil:=(List.getElem?_eq_some_iff.1 hi).1;obtain⟨a,c,e1,hs,hne⟩:=h.form;obtain⟨g,rfl,_⟩:=hne (by intro e;rw[e]at hil;simp at hil);obtain⟨blk,off,e2,hc⟩:=hs.cell i hil;cases e2;refine⟨g,c,e1,?_⟩;rw[Nat.zero_add]at hc;rw[hc,←hi,List.getElem?_eq_getElem hil]
set_option maxRecDepth 20000 in
theorem conv_row {base:Nat}{w:World}{a:Option Addr}{l:List UInt8}{n c:Nat}(h:Row base 5 w (.slice a n c) (l.map byteV)):(convert 135 9 (.slice a n c)).run Tryz.prog w = .ok (Str l) w:=by
 rcases RowK.blk h with⟨e,e1,e2⟩|⟨g,cap,cur,e,_,h1,h2,_,_,h3⟩
 ·cases e;rw[List.length_map]at e1;have:l=[]:=List.length_eq_zero_iff.1 e1;subst this;rw[run_convert_bytes_string w 135 9 5 none _ _ Tryz.underlying135 Tryz.underlying5 Tryz.underlying9];rfl
 ·cases e;rw[List.length_map];refine run_convert_bytes_back w 135 9 5 ⟨g,0,none⟩ c l Tryz.underlying135 Tryz.underlying5 Tryz.underlying9 fun j hj => ?_
  rw[add_none,Nat.zero_add];refine cB h1 ?_;have h4:(cur.toList.take ((l.map byteV).length*1))[j]?=some (byteV l[j]):=by rw[h3,List.getElem?_map,List.getElem?_eq_getElem hj];rfl
  rw[List.getElem?_take,if_pos (by simp;omega)]at h4;simpa using h4
set_option maxRecDepth 20000 in
set_option maxHeartbeats 4000000 in
theorem shortest_any (D:Pv.Dfa)(hD:D.Ok)(d:Nat)(w:World)(h:DfaAt H w D d)(hn:D.yes.length<549755813888)(t:List UInt8)(ok:Bool)(hs:(match Pv.shortest D with|some t=>(t,true)|none=>([],false))=(t,ok)):
  Calls Tryz.prog 175 #[Ptr d] w fun e w'=>e = .returned (.tuple #[Str t,.bool ok])∧Below w.heap.size w w':=by
 have HA:=Hy h;have HD:=Hy hD;have HS:=Hy hs;have hlen:=len_any D d w h;have hpos:=hD.pos;have hp256:=hD.p256;have hne:((D.yes.length:Int)==0)=false:=by simp;intro e;rw[e]at hpos;simp at hpos
 have HLen:=Hy hlen;clear h hD hs hlen;obtain⟨w1,hput,hm1,hk1⟩:∃w1,(Instr.mapUpdate 296 (.map (some w.heap.size)) (.int .i64 0) (.agg #[.int .i64 (-1),.int .u8 0])).run Tryz.prog (w.alloc (.map #[] 0)) = .ok () w1∧CameAt w1 w.heap.size [(0,-1,0)]∧Keep (· = w.heap.size) (w.alloc (.map #[] 0)) w1:=by
  obtain⟨kl,hkl⟩:=int_key 0 (by omega);obtain⟨w1,h1,h2,h3⟩:=(MapAt.new (w:=w.alloc (.map #[] 0)) (b:=w.heap.size) (blk_new rfl)).put intk Tryz.underlying296 (fun x hx=>by cases hx) hkl (by simp) (fromV (-1,0));exact⟨w1,h1,h2,h3⟩
 have hB1:Below w.heap.size w w1:=((Below.refl _ _).alloc (Nat.le_refl _) _).trans (hk1.below (by simp) fun x e=>by omega);have HM1:=Hy hm1;have HB1:=Hy hB1;have hsz1:=hk1.size;clear hm1 hk1 hB1;simp at hsz1;go_enter Tryz.func175,Tryz.ntmps175;go_wp2_with fail;refine HLen.out.mono ?_;rintro e w' ⟨rfl,rfl⟩;have hmm:=@run_makeMap Tryz.prog;go_wp2_with fail;clear hmm hput
 have hhd:=heads_any D d (w1.alloc (.cells #[.int .i64 0] 3)) (HA.out.later (HB1.out.alloc (by omega) _)) hp256;have HHd:=Hy hhd;clear hhd;refine HHd.out.mono ?_;rintro e w2 ⟨hv,rfl,hrh,hb2⟩;have hrl:Row w1.heap.size 3 w2 (.slice (some ⟨w1.heap.size,0,none⟩) 1 1) [intV 0]:=
  (Row.of_blk (xs:=[intV 0]) (Nat.le_refl _) (blk_new rfl) (by unfold maxLen;simp)).later hb2
 have hB2:Below w.heap.size w w2:=(HB1.out.alloc (by omega) _).trans (hb2.mono (by simp;omega));have HRh:=Hy hrh;have HRl:=Hy hrl;have HB2:=Hy hB2;have HM2:=Hy ((HM1.out.later ((Below.refl _ _).alloc (Nat.le_refl _) _)).later hb2);have hhl:(D.heads.map byteV).length=D.parts.length:=by simp[Pv.Dfa.heads]
 have hsz12:=hb2.size;clear hrh hb2 hrl hB2 HM1 HHd;go_wp2_with fail;obtain⟨N1,hN1⟩:∃N1,w1.heap.size=N1:=⟨_,rfl⟩
 obtain⟨N2,hN2⟩:∃N2,(w1.alloc (.cells #[.int .i64 0] 3)).heap.size=N2:=⟨_,rfl⟩
 have hN21:N2=N1+1:=by rw[←hN2,←hN1];simp
 rw[hN1]at HRl hsz1 ⊢;rw[hN2]at HRh;have hsz2:=HB2.out.size;have hN2w:N2≤w2.heap.size:=by rw[←hN2];exact hsz12
 have hwM:w.heap.size<N1:=by omega
 obtain⟨i0,hi0,hz0,hz1,hz2⟩:=info_parts info_int';obtain⟨i1,hi1,hy0,hy1,hy2⟩:=info_parts info_u8';clear hN1 hN2 hsz12
 go_loopw [5,7] (fun lv i wr=>∃(k:Nat) (c:Pv.Came),i = .int .i64 k∧k≤c.length∧Hid (Pv.CameOk D c)∧Hid (CameAt wr w.heap.size c)∧Hid (Row N1 3 wr lv (c.map fun x=>intV x.1))∧Hid (Row N2 5 wr hv (D.heads.map byteV))∧Hid (Below w.heap.size w wr)∧Hid (N2≤wr.heap.size)∧Hid (Pv.shortGo D (D.yes.length+1-k) k c=Pv.shortest D)) (fun _ i _=>(D.yes.length-intOf i).toNat)
 case atStart=>exact⟨0,[(0,-1,0)],rfl,by simp,Pv.CameOk.start HD.out,HM2.out,HRl.out,HRh.out,HB2.out,hN2w,rfl⟩
 case round=>
  clear HRh HRl HB2 HM2 hN2w hsz2;obtain⟨k,c,rfl,hk,HCo,HM,HRl,HRh,HB,HN,HG⟩:=hrel;have hcl:=HCo.out.len;obtain⟨la,lc,elv,_,_⟩:=HRl.out.form;rw[List.length_map]at elv;subst elv;by_cases hkc:k<c.length
  ·obtain⟨x,hx⟩:∃x,c[k]?=some x:=⟨c[k],List.getElem?_eq_getElem hkc⟩
   have hkc':(k:Int)<c.length:=by omega
   obtain⟨gl,cl,e2,hcell⟩:=HRl.out.get (i:=k) (u:=intV x.1) (by rw[List.getElem?_map,hx];rfl);rw[List.length_map]at e2;cases e2;have hxl:=HCo.out.lt x (List.mem_of_getElem? hx);have hyes:=yes_any D d x.1 wr (HA.out.later HB.out);have HYes:=Hy hyes;have HX:=Hy hx;clear hyes hx;have hG:=HG.out;rw[show D.yes.length+1-k=(D.yes.length-k)+1 by omega]at hG;have hk40:(k:Int)<1099511627776:=by omega
   cases hy:D.isYes x.1 with
   | true=>
     rw[Pv.shortGo_yes HX.out hy]at hG;have hs:=HS.out;rw[←hG]at hs;simp only[Prod.mk.injEq]at hs;have HT:=Hy hs.1;obtain⟨_,rfl⟩:=hs;rw[hy]at HYes;clear hG HG HS;go_wp2_with fail;refine HYes.out.mono ?_;rintro e w' ⟨rfl,rfl⟩;clear HYes hcell;go_wp2_with fail
     go_loopw [8,9] (fun q v wr=>∃(j:Nat) (y:Nat × Int × UInt8) (out:List UInt8) (f:Nat),c[j]?=some y∧q = .int .i64 (y.1:Int)∧j<f∧Hid (Row w.heap.size 5 wr v (out.map byteV))∧out.length≤k-j∧j≤k∧Hid (CameAt wr w.heap.size c)∧Hid (Below w.heap.size w wr)∧Hid (Pv.textTo c f y.1 out=t)) (fun q _ _=>cIdx c (intOf q).toNat)
     case atStart=>exact⟨k,x,[],D.yes.length+1,HX.out,rfl,by omega,Row.nil _ _ _,by simp,by omega,HM.out,HB.out,HT.out⟩
     case round=>
      clear HM HRl HRh HB HN HT;obtain⟨j,⟨y1,yf,yb⟩,out,f,hj,rfl,hjf,HR,hol,hjk,HM,HB,HT⟩:=hrel;simp only at HT ⊢;obtain⟨av,cv,ev,hslv,_⟩:=HR.out.form;rw[List.length_map]at ev;subst ev;obtain⟨f',rfl⟩:∃f',f=f'+1:=⟨f-1,by omega⟩
      by_cases hy0z:y1=0
      ·subst hy0z;have hT:=HT.out;rw[Pv.textTo_zero]at hT;subst hT;have hcv:=conv_row HR.out;clear hj hslv HT HX HCo;go_wp2_with fail;refine bodyPost_ret (v:= .tuple #[Str out,.bool true]) ?_ rfl ⟨rfl,HB.out⟩;simp[results,Tryz.results175,go_sem]
      ·have hT:=HT.out;rw[Pv.textTo_step hy0z,Pv.cameOf_at HCo.out.nd hj]at hT;simp only at hT;obtain⟨i,rfl⟩:∃i,j=i+1:=by
        cases j with
        | zero=>
          have:=HCo.out.first;rw[hj]at this;injection this with this
          injection this with this
          exact absurd this hy0z
        | succ i=>exact⟨i,rfl⟩
       obtain⟨j',y',hj1,hj2,hj3⟩:=HCo.out.pre i _ hj;simp only at hj3;subst hj3;rw[Int.toNat_natCast]at hT;have hidx1:=cIdx_at HCo.out.nd hj;have hidx2:=cIdx_at HCo.out.nd hj2;have hlk:=came_has HCo.out hn HM.out hj false
       have hlk2:∀W,Below wr.heap.size wr W→(Instr.lookup 296 (.map (some w.heap.size)) (intV y1) false).run Tryz.prog W = .ok (fromV ((y'.1:Int),yb)) W:=fun W hb=>came_has HCo.out hn (HM.out.later hb) hj false
       have hne:((y1:Int)!=0)=true:=by simp;omega
       have HLk2:=Hy hlk2;have HT2:=Hy hT;have HI1:=Hy hidx1;have HI2:=Hy hidx2;have HJ2:=Hy hj2;have HSlv:=Hy hslv;replace hlk:(Instr.lookup 296 (.map (some w.heap.size)) (.int .i64 (y1:Int)) false).run Tryz.prog wr = .ok (.agg #[.int .i64 (y'.1:Int),.int .u8 (yb.toNat:Int)]) wr:=hlk;have hMlt:=HM.out.lt;have hff0:=field_from0;have hff1:=field_from1;have hszB:=HB.out.size
       have hw1:w.heap.size≤wr.heap.size:=by omega
       clear hj hT HT hidx1 hidx2 hj2 hlk2 hslv;go_wp2_with (at_builtin;refine appS 135 5 i1 _ 1 Tryz.underlying135 hi1 hy0 hy1 hy2 rfl (by omega) rfl _ _ rfl w.heap.size _ [byteV yb] rfl (Row.of_blk (xs:=[byteV yb]) hw1 (blk_new rfl) (by unfold maxLen;simp)) _ _ _ (out.map byteV) (by simp) rfl (HSlv.out.later ((Below.refl _ _).alloc (Nat.le_refl _) _)) ?c1 ?c2 (by simp;omega) ?c3)
       case c1=>intro u hu;rfl
       case c2=>first|omega|(simp;omega)
       case c3=>
        intro v4 w4 hr4 hb4 hg4;have hB4:Below wr.heap.size wr w4:=((Keep.alloc (H:=(· = wr.heap.size)) wr _).trans (Keep.of_grown hg4 fun x e=>by cases e;rfl)).below (Nat.le_refl _) fun x e=>by omega
        have hlk4:=HLk2.out w4 hB4;replace hlk4:(Instr.lookup 296 (.map (some w.heap.size)) (.int .i64 (y1:Int)) false).run Tryz.prog w4 = .ok (.agg #[.int .i64 (y'.1:Int),.int .u8 (yb.toNat:Int)]) w4:=hlk4;have HR4:Hid (Row w.heap.size 5 w4 v4 ((yb::out).map byteV)):=hr4;have HB4:=Hy hB4;clear hr4 hb4 hg4 hB4 hlk;go_wp2_with fail;go_roundw
        case rel=>exact⟨j',y',yb::out,f',HJ2.out,rfl,by omega,HR4.out,by simp;omega,by omega,HM.out.later HB4.out,HB.out.trans (HB4.out.mono hszB),HT2.out⟩
        case measure=>
         have h1:=HI1.out;have h2:=HI2.out;simp[intOf,h1,h2];omega
   | false=>
     rw[Pv.shortGo_no HX.out hy]at hG;have HG2:=Hy hG;rw[hy]at HYes;clear hG HG;go_wp2_with fail;refine HYes.out.mono ?_;rintro e w' ⟨rfl,rfl⟩;clear HYes hcell;obtain⟨ha,hc0,ehv,_,_⟩:=HRh.out.form;rw[hhl]at ehv;subst ehv;go_wp2_with fail
     go_loopw [5,54] (fun lv i wr=>∃(m:Nat) (c:Pv.Came),i = .int .i64 m∧m≤D.parts.length∧Hid (Pv.CameOk D c)∧Hid (c[k]?=some x)∧Hid (CameAt wr w.heap.size c)∧Hid (Row N1 3 wr lv (c.map fun x=>intV x.1))∧Hid (Row N2 5 wr (.slice ha D.parts.length hc0) (D.heads.map byteV))∧Hid (Below w.heap.size w wr)∧Hid (N2≤wr.heap.size)∧Hid (Pv.shortGo D (D.yes.length-k) (k+1) ((D.heads.drop m).foldl (Pv.shortStep D x.1) c)=Pv.shortest D)) (fun _ i _=>(D.parts.length-intOf i).toNat)
     case atStart=>exact⟨0,c,rfl,by omega,HCo.out,HX.out,HM.out,HRl.out,HRh.out,HB.out,HN.out,HG2.out⟩
     case round=>
      clear HCo HX HM HRl HRh HB HN HG2 hcl hkc hkc' hk;obtain⟨m,c,rfl,hm,HCo,HX,HM,HRl,HRh,HB,HN,HG⟩:=hrel;have hcl:=HCo.out.len;have hkl:=(List.getElem?_eq_some_iff.1 HX.out).1;obtain⟨la2,lc2,elv,_,_⟩:=HRl.out.form;rw[List.length_map]at elv;subst elv;by_cases hmh:m<D.parts.length
      ·have hmh':(m:Int)<D.parts.length:=by omega
       have hdl:D.heads.length=D.parts.length:=by simp[Pv.Dfa.heads]
       obtain⟨hb,hhb⟩:∃hb,D.heads[m]?=some hb:=⟨D.heads[m]'(by omega),List.getElem?_eq_getElem (by omega)⟩
       obtain⟨gh,ch,e2,hcell⟩:=HRh.out.get (i:=m) (u:=byteV hb) (by rw[List.getElem?_map,hhb];rfl);rw[List.length_map,hdl]at e2;cases e2;have hdrop:D.heads.drop m=hb::D.heads.drop (m+1):=by have:=List.drop_eq_getElem_cons (l:=D.heads) (i:=m) (by omega);rw[this];rw[List.getElem?_eq_getElem (by omega)]at hhb;rw[Option.some.inj hhb]
       have hG:=HG.out;rw[hdrop,List.foldl_cons]at hG;have hstep:=step_any D HD.out d x.1 hb.toNat wr (HA.out.later HB.out) hxl hb.toNat_lt;have hq2:=HD.out.step_lt hxl hb.toNat;obtain⟨q2,eq2⟩:∃q2,D.step x.1 hb.toNat=q2:=⟨_,rfl⟩
       rw[eq2]at hstep hq2;have HStep:=Hy hstep;have hm40:(m:Int)<1099511627776:=by omega
       clear hstep hdrop hhb HG;cases hany:c.any (fun y=>y.1==q2) with
       | true=>
         rw[Pv.shortStep_old (by rw[eq2];exact hany)]at hG;have HG2:=Hy hG;obtain⟨y,hy,ey⟩:=List.any_eq_true.1 hany;have ey2:y.1=q2:=by simpa using ey
         obtain⟨jy,hjy,ejy⟩:=List.getElem_of_mem hy;have hjy2:c[jy]?=some y:=by rw[List.getElem?_eq_getElem hjy,ejy]
         have hlk:=came_has HCo.out hn (HM.out.later (Below.refl _ _).drew) hjy2 true;rw[ey2]at hlk;replace hlk:(Instr.lookup 296 (.map (some w.heap.size)) (.int .i64 (q2:Int)) true).run Tryz.prog wr.drew = .ok (.tuple #[.agg #[.int .i64 y.2.1,.int .u8 (y.2.2.toNat:Int)],.bool true]) wr.drew:=hlk;clear hG hany hy ey ey2 hjy ejy hjy2 eq2;go_wp2_with fail;refine HStep.out.mono ?_;rintro e w' ⟨rfl,rfl⟩
         clear HStep hcell;go_wp2_with fail;have hBl:Below wr.heap.size wr (wr.drew.alloc (.cells #[.int .i64 y.2.1,.int .u8 (y.2.2.toNat:Int)] 295)):=(Below.refl _ _).drew.alloc (Nat.le_refl _) _;have hBs:=HB.out.size;have HBl:=Hy hBl;clear hBl hlk;go_roundw
         case rel=>exact⟨m+1,c,by go_num,by omega,HCo.out,HX.out,HM.out.later HBl.out,HRl.out.later HBl.out,HRh.out.later HBl.out,HB.out.trans (HBl.out.mono hBs),Nat.le_trans HN.out HBl.out.size,HG2.out⟩
         case measure=>simp[intOf];omega
       | false=>
         rw[Pv.shortStep_new (by rw[eq2];exact hany),eq2]at hG;have HG2:=Hy hG;have hlk:=came_hasnt HCo.out hn (HM.out.later (Below.refl _ _).drew) hq2 hany;replace hlk:(Instr.lookup 296 (.map (some w.heap.size)) (.int .i64 (q2:Int)) true).run Tryz.prog wr.drew = .ok (.tuple #[.agg #[.int .i64 0,.int .u8 0],.bool false]) wr.drew:=hlk
         have hBl:Below wr.heap.size wr (wr.drew.alloc (.cells #[.int .i64 0,.int .u8 0] 295)):=(Below.refl _ _).drew.alloc (Nat.le_refl _) _;obtain⟨w5,hput,hm5,hk5⟩:=came_put HCo.out hn (HM.out.later hBl) hq2 hany ((x.1:Int),hb)
         replace hput:(Instr.mapUpdate 296 (.map (some w.heap.size)) (.int .i64 (q2:Int)) (.agg #[intV x.1,byteV hb])).run Tryz.prog (wr.alloc (.cells #[.int .i64 0,.int .u8 0] 295)).drew = .ok () w5:=hput;have hco2:=HCo.out.add HX.out hq2 hb (by rw[hany];simp);have hx2:(c++[(q2,((x.1:Nat):Int),hb)])[k]?=some x:=by rw[List.getElem?_append_left hkl];exact HX.out
         have hMlt:=HM.out.lt;have hrl5:Row N1 3 w5 _ (c.map fun x=>intV x.1):=(HRl.out.later hBl).keep fun g hg hl=>hk5.block g hl (by omega)
         have hrh5:Row N2 5 w5 _ (D.heads.map byteV):=(HRh.out.later hBl).keep fun g hg hl=>hk5.block g hl (by omega)
         have hb5:Below w.heap.size w w5:=(HB.out.trans (hBl.mono HB.out.size)).trans (hk5.below (by have:=HB.out.size;simp;omega) fun x e=>by omega);have hs5:N2≤w5.heap.size:=Nat.le_trans HN.out (Nat.le_trans hBl.size hk5.size);have HM5:=Hy hm5;have HCo2:=Hy hco2;have HX2:=Hy hx2;have HRl5:=Hy hrl5;have HRh5:=Hy hrh5;have HB5:=Hy hb5;have HS5:=Hy hs5
         clear hG hany eq2 hm5 hk5 hco2 hx2 hrl5 hrh5 hb5 hs5 hBl;go_wp2_with fail;refine HStep.out.mono ?_;rintro e w' ⟨rfl,rfl⟩;clear HStep hcell;have hsN:N1≤w5.heap.size:=by have:=HS5.out;omega
         have hsN2:N2≤(w5.alloc (.cells #[.int .i64 (q2:Int)] 3)).heap.size:=by have:=HS5.out;simp;omega
         go_wp2_with (at_builtin;refine app1 212 3 i0 _ 8 Tryz.underlying212 hi0 hz0 hz1 hz2 rfl (by omega) rfl _ _ rfl N1 _ _ rfl (HRl5.out.alloc _) w5.heap.size _ rfl (blk_new rfl) rfl ?c1 (by simp;omega) ?c2)
         case c1=>rw[List.length_map];omega
         case c2=>
          intro v6 w6 hr6 hb6 hg6;have hrl6:Row N1 3 w6 v6 ((c++[(q2,((x.1:Nat):Int),hb)]).map fun x=>intV x.1):=by rw[List.map_append];exact hr6
          have hal:Below w5.heap.size w5 (w5.alloc (.cells #[.int .i64 (q2:Int)] 3)):=(Below.refl _ _).alloc (Nat.le_refl _) _;have hgk:=Keep.of_grown (H:=fun k=>(Value.slice la2 c.length lc2).ownBlock=some k) hg6 (fun x e=>e);have hm6:CameAt w6 w.heap.size (c++[(q2,((x.1:Nat):Int),hb)]):=(HM5.out.later hal).keep hgk (RowK.ne_map (HRl5.out.later hal) (HM5.out.later hal))
          have hrh6:Row N2 5 w6 (.slice (some ⟨gh,0,none⟩) D.parts.length hc0) (D.heads.map byteV):=by have h1:=HRh5.out.later hal;have h2:=HRl5.out.later hal;exact RowK.other h1 h2 (by decide) hg6
          have hb6':Below w.heap.size w w6:=(HB5.out.trans (hal.mono HB5.out.size)).trans (hb6.mono (by omega));have hs6:N2≤w6.heap.size:=Nat.le_trans hsN2 hgk.size;have HRl6:=Hy hrl6;have HM6:=Hy hm6;have HRh6:=Hy hrh6;have HB6:=Hy hb6';have HS6:=Hy hs6;clear hr6 hb6 hg6 hrl6 hal hgk hm6 hrh6 hb6' hs6 hlk hput;go_wp2_with fail;go_roundw
          case rel=>exact⟨m+1,_,by go_num,by omega,HCo2.out,HX2.out,HM6.out,HRl6.out,HRh6.out,HB6.out,HS6.out,HG2.out⟩
          case measure=>simp[intOf];omega
      ·have e:m=D.parts.length:=by omega
       have hdl:D.heads.length=D.parts.length:=by simp[Pv.Dfa.heads]
       have hG:=HG.out;rw[e,←hdl,List.drop_length,List.foldl_nil]at hG;have hG2:Hid (Pv.shortGo D (D.yes.length+1-(k+1)) (k+1) c=Pv.shortest D):=by show _=_;rw[show D.yes.length+1-(k+1)=D.yes.length-k by omega];exact hG
       clear hG HG;subst e;go_wp2_with fail;go_roundw
       case rel=>exact⟨k+1,c,by go_num,by omega,HCo.out,HM.out,HRl.out,HRh.out,HB.out,HN.out,hG2⟩
       case measure=>simp[intOf];omega
  ·have e:k=c.length:=by omega
   have hG:=HG.out;rw[Pv.shortGo_end (by omega)]at hG;have hs:=HS.out;rw[←hG]at hs;simp only[Prod.mk.injEq]at hs;obtain⟨rfl,rfl⟩:=hs;clear hG HG HS;subst e;go_wp2_with fail;refine bodyPost_ret (v:= .tuple #[Str [],.bool false]) ?_ rfl ⟨rfl,HB.out⟩;simp[results,Tryz.results175,go_sem]
end Go.Proofs.YtamkfdlcdiadlaaGreatDoor
namespace Pv
theorem stateOf_left {x:R}{all:List R}{l:Nat}{t:List R × Nat × Nat}(h:stateOf x all l=some t):t.2.1≤l:=by
 unfold stateOf at h;split at h
 ·injection h with h;subst h;exact Nat.le_refl _
 ·split at h
  ·cases h
  ·split at h
   ·cases h
   ·injection h with h;subst h;exact Nat.sub_le _ _
theorem buildGo_left {heads:List UInt8}:∀ {f q:Nat} {all:List R} {l:Nat} {next:List (List Nat)},(buildGo heads f q all l next).1≤l
 | 0,_,_,l,_=>Nat.le_refl l
 | f+1,q,all,l,next=>by
   rw[buildGo];split
   ·exact Nat.le_refl _
   ·rename_i x _;have h1:=buildRow_left (x:=x) (hs:=heads) (all:=all) (l:=l) (row:=[]);split
    ·rename_i e;rw[e]at h1;exact h1
    ·rename_i e;rw[e]at h1;exact Nat.le_trans buildGo_left h1
theorem build_left (r:R)(l:Nat):(build r l).1≤l:=by
 unfold build;simp only;split
 ·exact Nat.le_refl _
 ·rename_i hs;have h1:=stateOf_left hs;simp only at h1;split
  ·rename_i e;have h2:=congrArg Prod.fst e;simp only at h2;exact Nat.le_trans (h2▸buildGo_left) h1
  ·rename_i e;have h2:=congrArg Prod.fst e;simp only at h2;exact Nat.le_trans (h2▸buildGo_left) h1
end Pv
namespace Go.Proofs.YtamkfdlcdiadlaaGreatDoor
open Go.RowKit
variable {H:Nat→Prop}
def FuelAt (w:World)(b:Nat)(f:Pv.Fuel):Prop:=f.left+f.used<4611686018427387904∧w.heap[b]?=some (.cells #[.int .i64 (f.left:Int),.int .i64 (f.used:Int)] 146)
theorem FuelAt.later {w w':World}{b:Nat}{f:Pv.Fuel}(h:FuelAt w b f)(hb:Below w.heap.size w w'):FuelAt w' b f:=⟨h.1,later_blk hb h.2⟩
theorem FuelAt.keep {w w':World}{b:Nat}{f:Pv.Fuel}(h:FuelAt w b f)(hb:Keep H w w')(hn:¬H b):FuelAt w' b f:=⟨h.1,hb.blk hn h.2⟩
theorem fill_any (n:Nat)(hn:n<4611686018427387904)(w:World):Calls Tryz.prog 46 #[.int .i64 (n:Int)] w fun e w'=>
  e = .returned (Ptr w.heap.size)∧FuelAt w' w.heap.size ⟨n,0⟩∧Below w.heap.size w w'∧w.heap.size<w'.heap.size:=by
 have hmax:max (n:Int) 0=n:=by omega
 go_enter Tryz.func46,Tryz.ntmps46;go_wp2_with fail;go_ret;exact⟨rfl,⟨by simp only;omega,blk_new rfl⟩,(Below.refl _ _).alloc (Nat.le_refl _) _,by simp⟩
set_option maxRecDepth 20000 in
theorem burn_any (b n:Nat)(f:Pv.Fuel)(w:World)(h:FuelAt w b f)(hn:n<4611686018427387904):Calls Tryz.prog 156 #[Ptr b,.int .i64 (n:Int)] w fun e w'=>
  e = .returned (.int .i64 ((f.burn n).2:Int))∧FuelAt w' b (f.burn n).1∧Keep (· = b) w w':=by
 obtain⟨l,u⟩:=f;obtain⟨hlu,h2⟩:=h;simp only at hlu h2;have h0:=cB (o:=0) h2 rfl;have h1:=cB (o:=1) h2 rfl;have f0:=fob (o:=0) h2;have f1:=fob (o:=1) h2;have hn0:(0:Int)≤n:=by omega
 have H2:=Hy h2;clear h2;unfold Pv.Fuel.burn;simp only;by_cases hl:l<n
 ·have hl':(l:Int)<n:=by omega
  rw[if_pos hl];go_enter Tryz.func156,Tryz.ntmps156;go_wp2_with fail;go_ret;refine⟨rfl,⟨by simp only;omega,?_⟩,Keep.set rfl⟩;exact blk_set H2.out
 ·have hl':(n:Int)≤l:=by omega
  rw[if_neg hl];have hw1:IntKind.i64.wrap ((l:Int)-n)=((l-n:Nat):Int):=by rw[IntKind.wrap_i64]<;>omega
  have hw2:IntKind.i64.wrap ((u:Int)+n)=((u+n:Nat):Int):=by rw[IntKind.wrap_i64]<;>omega
  go_enter Tryz.func156,Tryz.ntmps156;go_wp2_with fail;go_ret;refine⟨rfl,⟨by simp only;omega,?_⟩,Keep.trans (H:=(· = b)) (Keep.set rfl) (Keep.set rfl)⟩;have:=blk_set (o:=1) (v:= .int .i64 ((u:Int)+n)) (blk_set (o:=0) (v:= .int .i64 ((l-n:Nat):Int)) H2.out);simpa using this
def SideAt (H:Nat→Prop)(w:World)(S:Pv.Side)(s:Nat):Prop:=¬H s∧∃f b,w.heap[s]?=some (.cells #[Ptr f,Ptr b] 237)∧DfaAt H w S.fore f∧DfaAt H w S.back b
theorem SideAt.keep {w w':World}{S:Pv.Side}{s:Nat}(h:SideAt H w S s){H':Nat→Prop}(hk:Keep H' w w')(hH:∀k,H' k→H k∨w.heap.size≤k)(hd:∀(k:Nat) (cs:Array Value) (fr:Nat × Nat),w.heap[k]?=some (.cells cs 205 fr)→¬H' k):SideAt H w' S s:=by
 obtain⟨h0,f,b,h1,⟨hv,nv,yv,rest,rs,h2⟩,⟨hv',nv',yv',rest',rs',h3⟩⟩:=h;refine⟨h0,f,b,hk.blk (fun hs => ?_) h1,DfaAt.keep ⟨hv,nv,yv,rest,rs,h2⟩ hk hH (hd _ _ _ h2.1),DfaAt.keep ⟨hv',nv',yv',rest',rs',h3⟩ hk hH (hd _ _ _ h3.1)⟩;rcases hH _ hs with h|h
 ·exact h0 h
 ·have:=blk_lt h1;omega
theorem SideAt.later {w w':World}{S:Pv.Side}{s:Nat}(h:SideAt H w S s)(hb:Below w.heap.size w w'):SideAt H w' S s:=
 h.keep (H':=fun _=>False) (Keep.of_below hb) (fun _ h=>h.elim) (fun _ _ _ _ h=>h)
def _root_.Pv.Side.Ok (S:Pv.Side):Prop:=S.fore.Ok∧S.back.Ok
theorem smatch_any (S:Pv.Side)(hS:S.Ok)(s b:Nat)(f:Pv.Fuel)(t:List UInt8)(w:World)(h:SideAt H w S s)(hf:FuelAt w b f)(ht:t.length<1099511627776)(hb:H b):
  Calls Tryz.prog 121 #[Ptr s,Str t,Ptr b] w fun e w'=>
   e = .returned (.tuple #[.bool ((f.burn (t.length+1)).2==0&&S.fore.accepts t),.int .i64 ((f.burn (t.length+1)).2:Int)])∧FuelAt w' b (f.burn (t.length+1)).1∧Keep (· = b) w w':=by
 have hbu:=burn_any b (t.length+1) f w hf (by omega);rw[show((t.length+1:Nat):Int)=(t.length:Int)+1 by omega]at hbu;have hwr:IntKind.i64.wrap ((t.length:Int)+1)=(t.length:Int)+1:=by rw[IntKind.wrap_i64]<;>omega
 have HA:=Hy h;have HF:=Hy hf.2;have he:(f.burn (t.length+1)).2=0∨(f.burn (t.length+1)).2=31:=by unfold Pv.Fuel.burn;split<;>simp
 generalize (f.burn (t.length+1)).2=e1 at *;generalize (f.burn (t.length+1)).1=f1 at *;clear h hf;go_enter Tryz.func121,Tryz.ntmps121;go_wp2_with fail;refine hbu.mono ?_;rintro e w' ⟨rfl,hf1,hk⟩;have HS:=Hy (HA.out.keep hk (fun k e=> .inl (by rw[e];exact hb)) (fun k cs fr e hk=>by have h2:=HF.out;rw[hk]at e;rw[e]at h2;cases h2))
 have HF1:=Hy hf1;have HK:=Hy hk;clear hf1 hk HA HF hbu;rcases he with rfl|rfl
 ·obtain⟨hns,fo,ba,x0,hd1,_⟩:=HS.out;have x1:=cB (o:=0) x0 rfl;have hm:=match_any S.fore hS.1 fo t w' hd1 ht;have HM:=Hy hm;clear x0 hd1 hm;go_wp2_with fail;refine HM.out.mono ?_;rintro e w2 ⟨rfl,hb2⟩;have HB2:=Hy hb2;clear hb2 HM x1;go_wp2_with fail;refine bodyPost_ret (v:= .tuple #[.bool (S.fore.accepts t),.int .i64 0]) ?_ rfl ⟨?_,HF1.out.later HB2.out,HK.out.trans (Keep.of_below HB2.out)⟩
  ·simp[results,Tryz.results121,go_sem]
  ·simp
 ·go_wp2_with fail;refine bodyPost_ret (v:= .tuple #[.bool false,.int .i64 31]) ?_ rfl ⟨?_,HF1.out,HK.out⟩
  ·simp[results,Tryz.results121,go_sem]
  ·simp
set_option maxRecDepth 20000 in
set_option maxHeartbeats 1000000 in
theorem sbuild_any (R:Ending→World→Prop)(r:Pv.R)(b bb l u:Nat)(w:World)(hT:Tab w)(hat:ReAt H w r b)(hbud:BudAt w bb l u)(hbb:H bb)(hH:∀h,H h→h<w.heap.size)(hsz:Pv.size r<137438953472)(hl:l<274877906944)
  (r1:∀w',(Pv.side r l).2=none→BudAt w' bb (Pv.side r l).1 (u+(l-(Pv.side r l).1))→Keep (· = bb) w w'→R (.returned (.tuple #[.pointer none,.int .i64 5])) w')
  (r2:∀w' S s,(Pv.side r l).2=some S→SideAt H w' S s→S.Ok→w.heap.size≤s→BudAt w' bb (Pv.side r l).1 (u+(l-(Pv.side r l).1))→Keep (· = bb) w w'→R (.returned (.tuple #[Ptr s,.int .i64 0])) w'):
  Calls Tryz.prog 138 #[Ptr b,Ptr bb] w R:=by
 have HAt:=Hy hat;have HT:=Hy hT;have HBud:=Hy hbud;have R1:=Hy r1;have R2:=Hy r2;clear hat hT hbud r1 r2;go_enter Tryz.func138,Tryz.ntmps138;go_wp2_with fail;refine build_main (H:=H) _ r b bb l u w HT.out HAt.out HBud.out hbb hH (by omega) hl ?_ ?_
 ·intro w1 hb1 hbd hk;have hs:Pv.side r l=((Pv.build r l).1,none):=by unfold Pv.side;rw[show Pv.build r l=((Pv.build r l).1,(Pv.build r l).2) from rfl,hb1]
  have h:=R1.out w1;rw[hs]at h;have HR:=Hy (h rfl hbd hk);clear h hs hb1 hbd hk;go_wp2_with fail;exact HR.out
 ·intro w1 D d hb1 hd0 hdz hbd hk;have hd:DfaAt H w1 D d:=hd0.widen fun k h=> .inl (.inl h)
  clear hd0;obtain⟨l1,hl1⟩:∃l1,(Pv.build r l).1=l1:=⟨_,rfl⟩
  have hl1l:l1≤l:=by rw[←hl1];exact Pv.build_left r l
  rw[hl1]at hbd;have hbe:Pv.build r l=(l1,some D):=by rw[←hl1,←hb1]
  have hDok:=(Pv.build_ok hbe).1;have hszw:=hk.size;have hbbw:=hH _ hbb;have hat1:=HAt.out.keep (hk.wide fun x e=> .inl (by rw[e];exact hbb));have hback:=back_any _ H r b w1 (Nat.le_refl _) hat1 (fun h hh=>by have:=hH h hh;omega) (by omega);have HBack:=Hy hback;have Hd:=Hy hd;have Hbd:=Hy hbd;have HK:=Hy hk;have HT1:=Hy (HT.out.keep hk (fun e=>HT.out.bud HBud.out e.symm))
  have hl1n:(0:Int)≤5:=by decide
  clear hat1 hback hd hbd hk hb1;go_wp2_with fail;refine HBack.out.mono ?_;rintro e w2 ⟨b2,rfl,hat2,hbl2⟩;have HA2:=Hy hat2;have HB2:=Hy hbl2;have hsz2:=hbl2.size;clear hat2 hbl2 HBack;go_wp2_with fail;have hsb:=size_back r
  refine build_main (H:=H) _ (Pv.back r) b2 bb l1 (u+(l-l1)) w2 (HT1.out.later HB2.out) HA2.out (Hbd.out.later HB2.out) hbb (fun h hh=>by have:=hH h hh;omega) (by omega) (by omega) ?_ ?_
  ·intro w3 hb3 hbd3 hk3;have hl2:(Pv.build (Pv.back r) l1).1≤l1:=Pv.build_left _ _;have hs:Pv.side r l=((Pv.build (Pv.back r) l1).1,none):=by unfold Pv.side;rw[hbe];simp only;rw[show Pv.build (Pv.back r) l1=((Pv.build (Pv.back r) l1).1,(Pv.build (Pv.back r) l1).2) from rfl,hb3]
   have h:=R1.out w3;rw[hs]at h;have HR:=Hy (h rfl (by simp only;rw[show u+(l-(Pv.build (Pv.back r) l1).1)=u+(l-l1)+(l1-(Pv.build (Pv.back r) l1).1) by omega];exact hbd3) ((HK.out.trans (Keep.of_below HB2.out)).trans hk3));clear h hs hb3 hbd3 hk3;go_wp2_with fail;exact HR.out
  ·intro w3 D3 d3 hb3 hd30 hdz3 hbd3 hk3;have hd3:DfaAt H w3 D3 d3:=hd30.widen fun k h=> .inl (.inl h)
   clear hd30;have hl2:(Pv.build (Pv.back r) l1).1≤l1:=Pv.build_left _ _;have hbe3:Pv.build (Pv.back r) l1=((Pv.build (Pv.back r) l1).1,some D3):=by rw[←hb3]
   have hs:Pv.side r l=((Pv.build (Pv.back r) l1).1,some ⟨D,D3⟩):=by unfold Pv.side;rw[hbe];simp only;rw[hbe3]
   have hDok3:=(Pv.build_ok hbe3).1;have hd1:DfaAt H w3 D d:=(Hd.out.later HB2.out).keep hk3 (fun k e=> .inl (by rw[e];exact hbb)) (fun e=>by omega);have hsz3:=hk3.size;have hsa:SideAt H (w3.alloc (.cells #[Ptr d,Ptr d3] 237)) ⟨D,D3⟩ w3.heap.size:=by
    have hB:Below w3.heap.size w3 (w3.alloc (.cells #[Ptr d,Ptr d3] 237)):=(Below.refl _ _).alloc (Nat.le_refl _) _;exact⟨fun hh=>by have:=hH _ hh;omega,d,d3,blk_new rfl,hd1.later hB,hd3.later hB⟩
   have h:=R2.out (w3.alloc (.cells #[Ptr d,Ptr d3] 237)) ⟨D,D3⟩ w3.heap.size;rw[hs]at h;have HR:=Hy (h rfl hsa ⟨hDok,hDok3⟩ (by omega) (by simp only;rw[show u+(l-(Pv.build (Pv.back r) l1).1)=u+(l-l1)+(l1-(Pv.build (Pv.back r) l1).1) by omega];exact hbd3.later ((Below.refl _ _).alloc (Nat.le_refl _) _)) (((HK.out.trans (Keep.of_below HB2.out)).trans hk3).trans (Keep.alloc _ _)))
   clear h hs hb3 hbd3 hk3 hsa hd1 hd3 hbe3;go_wp2_with fail;exact HR.out
end Go.Proofs.YtamkfdlcdiadlaaGreatDoor
namespace Go.Proofs.YtamkfdlcdiadlaaGreatDoor
open Go.RowKit Go.Maps
variable {H:Nat→Prop}
def witV (r:Option (Option (List UInt8))):Value:=match r with
 | none=> .tuple #[Str [],.bool false,.int .i64 5]
 | some none=> .tuple #[Str [],.bool false,.int .i64 0]
 | some (some t)=> .tuple #[Str t,.bool true,.int .i64 0]
set_option maxRecDepth 20000 in
theorem witness_any (r:Pv.R)(b bb l u:Nat)(w:World)(hT:Tab w)(hat:ReAt H w r b)(hbud:BudAt w bb l u)(hbb:H bb)(hH:∀h,H h→h<w.heap.size)(hsz:Pv.size r<549755813888)(hl:l<274877906944):
  Calls Tryz.prog 145 #[Ptr b,Ptr bb] w fun e w'=>e = .returned (witV (Pv.witness r l).2)∧BudAt w' bb (Pv.witness r l).1 (u+(l-(Pv.witness r l).1))∧Keep (· = bb) w w':=by
 have HT:=Hy hT;have HA:=Hy hat;have HBud:=Hy hbud;have HH:=Hy hH;clear hT hat hbud hH;go_enter Tryz.func145,Tryz.ntmps145;go_wp2_with fail;refine build_main (H:=H) _ r b bb l u w HT.out HA.out HBud.out hbb HH.out hsz hl ?_ ?_
 ·intro w1 hn hb1 hk1;have hs:Pv.witness r l=((Pv.build r l).1,none):=by unfold Pv.witness;rw[show Pv.build r l=((Pv.build r l).1,(Pv.build r l).2) from rfl,hn]
  have HF:Hid (witV (Pv.witness r l).2 = .tuple #[Str [],.bool false,.int .i64 5]∧BudAt w1 bb (Pv.witness r l).1 (u+(l-(Pv.witness r l).1))∧Keep (· = bb) w w1):=by show _∧_;rw[hs];exact⟨rfl,hb1,hk1⟩
  clear hs hn hb1 hk1;go_wp2_with fail;refine bodyPost_ret (v:= .tuple #[Str [],.bool false,.int .i64 5]) ?_ rfl ⟨by rw[HF.out.1],HF.out.2⟩;simp[results,Tryz.results145,go_sem]
 ·intro w1 D d hbD hd hdz hb1 hk1;have hbe:Pv.build r l=((Pv.build r l).1,some D):=by rw[←hbD]
  have hok:=Pv.build_ok hbe;have hs:Pv.witness r l=((Pv.build r l).1,some (Pv.shortest D)):=by unfold Pv.witness;rw[hbe]
  obtain⟨t,ok,hto⟩:∃t ok,(match Pv.shortest D with|some t=>(t,true)|none=>([],false))=(t,ok):=⟨_,_,rfl⟩
  have hsh:=shortest_any D hok.1 d w1 hd (by omega) t ok hto;have HF:Hid (∀w2,Below w1.heap.size w1 w2→witV (Pv.witness r l).2 = .tuple #[Str t,.bool ok,.int .i64 0]∧BudAt w2 bb (Pv.witness r l).1 (u+(l-(Pv.witness r l).1))∧Keep (· = bb) w w2):=fun w2 hb2=>by
   rw[hs];refine⟨?_,hb1.later hb2,hk1.trans (Keep.of_below hb2)⟩;cases hq:Pv.shortest D with
   | none=>rw[hq]at hto;injection hto with e1 e2;subst e1;subst e2;rfl
   | some q=>rw[hq]at hto;injection hto with e1 e2;subst e1;subst e2;rfl
  have HSh:=Hy hsh;clear hs hbe hok hto hsh hd hb1 hk1 hbD;go_wp2_with fail;refine HSh.out.mono ?_;rintro e w2 ⟨rfl,hb2⟩;have HF2:=Hy (HF.out w2 hb2);clear hb2 HSh HF;go_wp2_with fail;refine bodyPost_ret (v:= .tuple #[Str t,.bool ok,.int .i64 0]) ?_ rfl ⟨by rw[HF2.out.1],HF2.out.2⟩;simp[results,Tryz.results145,go_sem]
end Go.Proofs.YtamkfdlcdiadlaaGreatDoor
