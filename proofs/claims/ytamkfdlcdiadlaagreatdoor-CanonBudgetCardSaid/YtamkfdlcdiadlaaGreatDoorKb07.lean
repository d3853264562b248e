/- The walk of re.made. -/
import Derived.Test.YtamkfdlcdiadlaaGreatDoorKb05
import Derived.Test.YtamkfdlcdiadlaaGreatDoorKb06
import Derived.Deep.DeepCutAuto
set_option linter.all false
namespace Go.Proofs.YtamkfdlcdiadlaaGreatDoor
open Go.RowKit
variable {H:Nat→Prop}
theorem info_str:(Tryz.prog.info? 9).map (fun i=>(i.zero,i.size,i.bytes))=some (some (.string ⟨#[]⟩),1,16):=by kernel_rfl
theorem dec_op (op:Nat)(h:op≤7):Lib.decDigits op=[UInt8.ofNat (48+op)]:=by
 have:∀k:Fin 8,Lib.decDigits k.val=[UInt8.ofNat (48+k.val)]:=by decide +kernel
 exact this ⟨op,by omega⟩
theorem idx4_0 (s:Pv.S4)(w:World):(Instr.index 87 (.agg #[W64 s.a,W64 s.b,W64 s.c,W64 s.d]) (.int .i64 0)).run Tryz.prog w = .ok (W64 s.a) w:=by kernel_rfl
theorem idx4_1 (s:Pv.S4)(w:World):(Instr.index 87 (.agg #[W64 s.a,W64 s.b,W64 s.c,W64 s.d]) (.int .i64 1)).run Tryz.prog w = .ok (W64 s.b) w:=by kernel_rfl
theorem idx4_2 (s:Pv.S4)(w:World):(Instr.index 87 (.agg #[W64 s.a,W64 s.b,W64 s.c,W64 s.d]) (.int .i64 2)).run Tryz.prog w = .ok (W64 s.c) w:=by kernel_rfl
theorem idx4_3 (s:Pv.S4)(w:World):(Instr.index 87 (.agg #[W64 s.a,W64 s.b,W64 s.c,W64 s.d]) (.int .i64 3)).run Tryz.prog w = .ok (W64 s.d) w:=by kernel_rfl
theorem idx4 (s:Pv.S4)(k:Nat)(h:k<4)(w:World):(Instr.index 87 (.agg #[W64 s.a,W64 s.b,W64 s.c,W64 s.d]) (.int .i64 (k:Int))).run Tryz.prog w = .ok (W64 (s.word k)) w:=by
 match k,h with
 | 0,_=>exact idx4_0 s w
 | 1,_=>exact idx4_1 s w
 | 2,_=>exact idx4_2 s w
 | 3,_=>exact idx4_3 s w
theorem word_part (s:Pv.S4)(k:Nat)(h:k<4):((Pv.wordParts 2 s).take (k+1))=(Pv.wordParts 2 s).take k++[Pv.digits36 (s.word k).toNat]:=by
 match k,h with
 | 0,_=>rfl
 | 1,_=>rfl
 | 2,_=>rfl
 | 3,_=>rfl
theorem sizes_take (ks:List Pv.R)(k:Nat)(h:k<ks.length):Pv.sizes (ks.take (k+1))=Pv.sizes (ks.take k)+Pv.size ks[k]:=by rw[List.take_succ_eq_append_getElem h];simp only[Pv.sizes_sum,List.map_append,List.sum_append,List.map_cons,List.map_nil,List.sum_cons,List.sum_nil];omega
theorem sizes_take_le (ks:List Pv.R)(k:Nat):Pv.sizes (ks.take k)≤Pv.sizes ks:=by
 conv=>rhs;rw[←List.take_append_drop k ks]
 simp only[Pv.sizes_sum,List.map_append,List.sum_append];omega
theorem size_pos (r:Pv.R):1≤Pv.size r:=by cases r;unfold Pv.size;omega
theorem sizes_len:∀ks:List Pv.R,ks.length≤Pv.sizes ks
 | []=>Nat.le_refl _
 | r::ks=>by have:=sizes_len ks;have:=size_pos r;unfold Pv.sizes;simp;omega
theorem joined_eq (x:List UInt8)(r:List (List UInt8)):Lib.join (x::r) [32]=Pv.joined (x::r):=by rw[Lib.join_cons];rfl
theorem key_joined (op:Nat)(s:Pv.S4)(ks:List Pv.R):Pv.key (.mk op s ks)=[40]++(Lib.join ([UInt8.ofNat (48+op)]::(Pv.wordParts op s++Pv.keys ks)) [32]++[41]):=by rw[joined_eq];unfold Pv.key;rfl
theorem join_any (ps:List (List UInt8))(g c:Nat)(w:World)(hs:Sl w (some ⟨g,0,none⟩) c (ps.map Str))(hN:ps.length<1099511627776)(hl:(Lib.join ps [32]).length≤140737488355328)(h0:ps≠[]):
  Calls Tryz.prog 119 #[.slice (some ⟨g,0,none⟩) ps.length c,.string ⟨#[32]⟩] w fun e w'=>e = .returned (Str (Lib.join ps [32]))∧Below w.heap.size w w':=by
 have e:(ps.map fun l=>(⟨l.toArray⟩:ByteArray)).length=ps.length:=by simp
 have e2:(ps.map fun l=>(⟨l.toArray⟩:ByteArray)).map (·.data.toList)=ps:=by rw[List.map_map];exact(List.map_congr_left (fun l _=>by simp)).trans (List.map_id ps)
 obtain⟨b,o,e3,hbl,hcs⟩:=hs.at_ (by rw[List.length_map];exact List.length_pos_iff.2 h0);cases e3;have h:=Tryz.strings_Join g 0 c (ps.map fun l=>(⟨l.toArray⟩:ByteArray)) ⟨#[32]⟩ w (fun j x hj=>by
  rw[List.getElem?_map]at hj;cases hp:ps[j]? with
  | none=>rw[hp]at hj;cases hj
  | some l=>
    rw[hp]at hj;simp at hj;subst hj;obtain⟨hlt,hp⟩:=List.getElem?_eq_some_iff.1 hp;rw[hcs j (by simpa using hlt)];simp[hp]) hbl (by omega) (by have:=hs.le;simp at this ⊢;exact this) (by rw[e2];exact hl)
 rw[e,e2]at h;exact h
set_option maxRecDepth 20000 in
set_option maxHeartbeats 2000000 in
theorem made_any (op:Nat)(hop:op≤7)(s:Pv.S4)(hset:op≠2→s=Pv.S4.zero)(ks:List Pv.R)(hkk:op=3∨op=5→ks≠[])(a:Option Addr)(c:Nat)(bs:List Nat)(w:World)
  (hs:Sl w a c (bs.map Ptr)) (hk:ResAt H w ks bs) (hH:∀h,H h→h<w.heap.size) (ha:∀blk off,a=some ⟨blk,off,none⟩→¬H blk∧blk<w.heap.size) (hsz:Pv.size (.mk op s ks)≤549755813888):
  Calls Tryz.prog 75 #[.int .i64 (op:Int),S4V s,.bool (Pv.null (.mk op s ks)),.slice a bs.length c] w fun e w'=>
   ∃b,e = .returned (Ptr b)∧ReAt H w' (.mk op s ks) b∧Below w.heap.size w w':=by
 obtain⟨i0,hi,hz0,hz1,hz2⟩:=info_parts info_str;generalize hnul:Pv.null (.mk op s ks)=nul;have Hset:=Hy hset;have HH:=Hy hH;have HKK:=Hy hkk;have HA:=Hy ha;clear hset hH ha hkk;have Hnul:=Hy hnul;clear hnul;have Hsz:=Hy hsz;clear hsz;have Hhs:=Hy hs;clear hs;have Hhk:=Hy hk;clear hk;go_enter Tryz.func75,Tryz.ntmps75;go_wp2_with fail;refine(Tryz.strconv_Itoa_small op (by omega) _).mono ?_
 rintro e w' ⟨rfl,rfl⟩;go_upto_if 25 with fail
 go_cut [10] (fun v wx=>Row (w.heap.size+1+1) 9 wx v (([UInt8.ofNat (48+op)]::Pv.wordParts op s).map Str)∧Below w.heap.size w wx ∧
  wx.heap[w.heap.size+1]?=some (.cells (reCells op s (.slice a bs.length c) nul [] 1) 139)∧w.heap.size+1+1≤wx.heap.size)
 case first=>
  by_cases h2:op=2
  ·subst h2;have e22:((2:Int)==2)=true:=rfl;rw[show((2:Nat):Int)=2 from rfl];simp only[e22];go_wp2_with fail;go_loopw [10,27] (fun v i wr=>∃k:Nat,k≤4∧i = .int .i64 k∧Row (w.heap.size+1+1) 9 wr v (([UInt8.ofNat (48+2)]::(Pv.wordParts 2 s).take k).map Str)∧Below w.heap.size w wr ∧
    wr.heap[w.heap.size+1]?=some (.cells (reCells 2 s (.slice a bs.length c) nul [] 1) 139)∧w.heap.size+1+1≤wr.heap.size) (fun _ i _=>(4-intOf i).toNat)
   case atStart=>
    refine⟨0,by omega,rfl,?_,((((Below.refl _ _).alloc (by first|(simp;done)|(simp;omega)|omega) _).alloc (by first|(simp;done)|(simp;omega)|omega) _).alloc (by first|(simp;done)|(simp;omega)|omega) _),blk_old (blk_new (by simp)),by simp⟩;rw[show List.map Str ([UInt8.ofNat (48+2)]::List.take 0 (Pv.wordParts 2 s))=[Str (Lib.decDigits 2)] from by rw[dec_op 2 (by omega)];rfl]
    exact Row.of_blk (xs:=[Str (Lib.decDigits 2)]) (by omega) (blk_new (by first|(simp;done)|(simp;omega)|omega)) (by unfold maxLen;simp)
   case round=>
    obtain⟨k,hk,rfl,hrow,hB,hblk,hz⟩:=hrel;have HB:=Hy hB;have Hblk:=Hy hblk;have Hrow:=Hy hrow;clear hB hblk hrow;by_cases h4:k<4
    ·have h1:=idx4 s k h4;have hk0:(0:Int)≤k:=by omega
     have hk4:(k:Int)<4:=by omega
     go_wp2_with fail;refine(fmtU _ (s.word k).isLt _).mono ?_;rintro e w' ⟨rfl,hb⟩;have hrow:=Hrow.out.later hb;have hB:=HB.out.trans (hb.mono HB.out.size);have hblk:=later_blk hb Hblk.out;have hz':w.heap.size+1+1≤w'.heap.size:=Nat.le_trans hz hb.size;have HB':=Hy hB;have Hblk':=Hy hblk;have Hrow':=Hy hrow;clear hrow hB hblk hb
     go_wp2_with (at_builtin;refine app1 _ _ i0 _ 16 Tryz.underlying142 hi hz0 hz1 hz2 rfl (by omega) rfl _ _ rfl (w.heap.size+1+1) _ _ rfl (Hrow'.out.alloc _) w'.heap.size _ rfl (blk_new rfl) rfl ?c1 (by simp;omega) ?c2)
     case c1=>
      have:=(Pv.wordParts 2 s).length_take_le k;have:(Pv.wordParts 2 s).length=4:=rfl;simp;omega
     case c2=>
      intro v1 w1 hr1 hb1 _;have hB1:=(HB'.out.alloc (Nat.le_trans (by omega) hz') (.cells #[Str (Pv.digits36 (s.word k).toNat)] 9)).trans (hb1.mono (by omega));have hblk1:w1.heap[w.heap.size+1]?=_:=(hb1.block _ (by omega)).trans (blk_old Hblk'.out);have hz1:w.heap.size+1+1≤w1.heap.size:=Nat.le_trans hz' (by have:=hb1.size;simp at this;omega)
      have hr2:Row (w.heap.size+1+1) 9 w1 v1 (([UInt8.ofNat (48+2)]::(Pv.wordParts 2 s).take (k+1)).map Str):=by rw[word_part s k h4];simpa using hr1
      have A1:=Hy hB1;have A2:=Hy hblk1;have A3:=Hy hr2;clear hB1 hblk1 hr2 hr1 hb1;go_wp2_with fail;go_roundw
      case rel=>exact⟨k+1,by omega,by go_num,A3.out,A1.out,A2.out,hz1⟩
      case measure=>simp[intOf];omega
    ·have e4:k=4:=by omega
     subst e4;go_wp2_with fail;go_meet;exact⟨Hrow.out,HB.out,Hblk.out,hz⟩
  ·have h2':((op:Int)==2)=false:=by rw[beq_eq_false_iff_ne];omega
   go_wp2_with fail;go_meet;refine⟨?_,((((Below.refl _ _).alloc (by first|(simp;done)|(simp;omega)|omega) _).alloc (by first|(simp;done)|(simp;omega)|omega) _).alloc (by first|(simp;done)|(simp;omega)|omega) _),blk_old (blk_new (by first|(simp;done)|(simp;omega)|omega)),(by first|(simp;done)|(simp;omega)|omega)⟩;rw[Pv.wordParts,if_neg h2,←dec_op op hop]
   exact Row.of_blk (xs:=[Str (Lib.decDigits op)]) (by omega) (blk_new (by first|(simp;done)|(simp;omega)|omega)) (by unfold maxLen;simp)
 case rest=>
  obtain⟨hrow,hB,hblk,hz⟩:=hcut;have HB:=Hy hB;have Hblk:=Hy hblk;have Hrow:=Hy hrow;clear hB hblk hrow;go_wp2_with fail;have Hlen:=Hy Hhk.out.length;go_loopw [10,38] (fun v i wr=>∃k:Nat,k≤ks.length∧i = .int .i64 k∧Row (w.heap.size+1+1) 9 wr v (([UInt8.ofNat (48+op)]::(Pv.wordParts op s++(Pv.keys ks).take k)).map Str)∧Below w.heap.size w wr ∧
   wr.heap[w.heap.size+1]?=some (.cells (reCells op s (.slice a bs.length c) nul [] (1+Pv.sizes (ks.take k))) 139)∧w.heap.size+1+1≤wr.heap.size) (fun _ i _=>(bs.length-intOf i).toNat)
  case atStart=>exact⟨0,by omega,rfl,by simpa using Hrow.out,HB.out,by simpa [Pv.sizes] using Hblk.out,hz⟩
  case round=>
   clear Hrow HB Hblk hz;obtain⟨k,hk,rfl,hrow,hB,hblk,hz⟩:=hrel;have HB:=Hy hB;have Hblk:=Hy hblk;have Hrow:=Hy hrow;by_cases hkn:k<ks.length
   ·obtain⟨hkb,hat⟩:=Hhk.out.get k hkn;obtain⟨blk,off,rfl,hbl,hcs⟩:=Hhs.out.at_ (by have:=Hlen.out;simp;omega);have hat':=hat.later (hB.mono (Nat.le_refl _));obtain⟨a2,c2,bs2,_,_,_,_,_,_,_,hkey,hsize,_,_,hlt⟩:=hat'.cells;have hc0:=later hB (hcs k (by simpa using hkb));rw[List.getElem_map]at hc0;generalize bs[k]=bk at *;have hkn':(k:Int)<bs.length:=by have:=Hlen.out;omega
    have hbk:bk<w.heap.size:=hat.lt;have hne:bk≠w.heap.size+1:=by have:=hat.lt;omega
    have hs1:Pv.sizes (ks.take k)+Pv.size ks[k]<1099511627776:=by have h1:=sizes_take ks k hkn;have h2:=sizes_take_le ks (k+1);have h3:=Hsz.out;unfold Pv.size at h3;omega
    clear hB hblk hrow hat hcs hat';have hk40:(k:Int)<1099511627776:=by have h3:=Hsz.out;have h4:=sizes_len ks;unfold Pv.size at h3;omega
    have hkl:(Pv.keys ks).length=ks.length:=by rw[Pv.keys_map];simp
    go_wp2_with (at_builtin;refine app1 _ _ i0 _ 16 Tryz.underlying142 hi hz0 hz1 hz2 rfl (by omega) rfl _ _ rfl (w.heap.size+1+1) _ _ rfl (Hrow.out.alloc _) wr.heap.size _ rfl (blk_new rfl) rfl ?c1 (by simp;omega) ?c2)
    case c1=>
     have:=(Pv.keys ks).length_take_le k;have:(Pv.wordParts op s).length≤4:=by unfold Pv.wordParts;split<;>simp
     have h3:=Hsz.out;have h4:=sizes_len ks;unfold Pv.size at h3;simp[hkl];omega
    case c2=>
     intro v1 w1 hr1 hb1 _;have hB1:=(HB.out.alloc (Nat.le_trans (by omega) hz) (.cells #[Str (Pv.key ks[k])] 9)).trans (hb1.mono (by omega));have hblk1:w1.heap[w.heap.size+1]?=_:=(hb1.block _ (by omega)).trans (blk_old Hblk.out);have hz1:w.heap.size+1+1≤w1.heap.size:=Nat.le_trans hz (by have:=hb1.size;simp at this;omega)
     have hr2:Row (w.heap.size+1+1) 9 w1 v1 (([UInt8.ofNat (48+op)]::(Pv.wordParts op s++(Pv.keys ks).take (k+1))).map Str):=by
      have e:(Pv.keys ks).take (k+1)=(Pv.keys ks).take k++[Pv.key ks[k]]:=by rw[List.take_succ_eq_append_getElem (by omega)];simp[Pv.keys_map]
      rw[e];simpa using hr1
     have hc8:w1.cell? ⟨bk,8,none⟩=some (.int .i64 (Pv.size ks[k]:Int)):=(hb1.cell (p:=⟨bk,8,none⟩) (by show bk<_;omega)).trans ((World.cell?_alloc_old _ _ _ (by show bk≠_;omega)).trans hsize);have hs8:w1.cell? ⟨w.heap.size+1,8,none⟩=some (.int .i64 ((1+Pv.sizes (ks.take k):Nat):Int)):=cB hblk1 rfl;have hf8:w1.frozen? ⟨w.heap.size+1,8,none⟩=false:=fob hblk1;have A1:=Hy hB1;have A2:=Hy hblk1
     have A3:=Hy hr2;clear hB1 hblk1 hr2 hr1 hb1 hc0 hkey hsize;generalize hsk:Pv.size ks[k]=sk at *;generalize hst:Pv.sizes (ks.take k)=st at *;have HSK:=Hy hsk;have HST:=Hy hst;clear hsk hst;go_wp2_with fail
     refine Eag.region (.mov 0 (.mov 1 (.mov 2 (.mov 3 (.mov 4 (.mov 5 (.mov 6 (.mov 7 (.mov 8 (.mov 9 (.mov 10 (.anc 11 Eag.Sch.fin)))))))))))) [11] (by kernel_rfl) (by kernel_rfl) (fun K ops hops hK => ?_);iterate 11
      refine Eag.mov hops rfl rfl (fun w' hb => ?_) ?_
      ·have q0:=later hb hc8;have q1:=later hb hs8;clear hb;go_simp
      go_simp
     refine Eag.anc hops rfl rfl ?_;go_wp2_with fail;refine Eag.fin (hK _ _ ?_);clear hK;go_wp2_with fail;go_roundw
     case rel=>
      refine⟨k+1,by omega,by go_num,A3.out.setCell (by omega),A1.out.drew.setCell (by simp) _,?_,by simpa using hz1⟩;have:=blk_set (w:=w1) (o:=8) (v:= .int .i64 (1+(st:Int)+(sk:Int))) A2.out;rw[sizes_take ks k hkn,HSK.out,HST.out];have e:((1+(st+sk):Nat):Int)=1+(st:Int)+(sk:Int):=by omega
      unfold reCells;rw[e];exact this
     case measure=>have:=Hlen.out;simp[intOf];omega
   ·have e:k=ks.length:=by omega
    subst e;have HL:=Hlen.out;rw[List.take_length]at hblk;have hkl:(Pv.keys ks).length=ks.length:=by rw[Pv.keys_map];simp
    rw[←hkl,List.take_length]at hrow;have hjoin:=key_joined op s ks;have hklen:=key_len (.mk op s ks);have hsz1:=Hsz.out;have hpsl:([UInt8.ofNat (48+op)]::(Pv.wordParts op s++Pv.keys ks)).length<1099511627776:=by
     have:(Pv.wordParts op s).length≤4:=by unfold Pv.wordParts;split<;>simp
     have h4:=sizes_len ks;have h3:=hsz1;unfold Pv.size at h3;simp[hkl];omega
    generalize hps:[UInt8.ofNat (48+op)]::(Pv.wordParts op s++Pv.keys ks)=ps at *;have hps0:ps≠[]:=by rw[←hps];simp
    obtain⟨ra,rc,rfl,hsl,hra⟩:=hrow.form;obtain⟨g,rfl,hg1,hg2⟩:=hra (by simpa using hps0);rw[List.length_map]at *;have hjl:(Lib.join ps [32]).length≤140737488355320:=by rw[hjoin]at hklen;simp at hklen;omega
    clear HB Hblk Hrow;have HB:=Hy hB;have Hblk:=Hy hblk;have Hrow:=Hy hrow;have Hsl:=Hy hsl;have Hjoin:=Hy hjoin;have hge:¬((ks.length:Int)<bs.length):=by omega
    clear hB hblk hrow HL hsl hjoin hps hklen hsz1;go_wp2_with fail;refine(join_any ps g rc _ Hsl.out hpsl (by omega) hps0).mono ?_;rintro e w' ⟨rfl,hb⟩;have hblk':=later_blk hb Hblk.out;have hc7:=cB (o:=7) hblk' rfl;have hf7:=fob (o:=7) hblk';have HB':=Hy (HB.out.trans (hb.mono HB.out.size));have Hblk':=Hy hblk';have hz':=Nat.le_trans hz hb.size;clear hblk' hb;generalize hj:Lib.join ps [32]=jl at *
    have Hj:=Hy hj;clear hj;go_wp2_with fail;go_ret;refine⟨_,rfl,?_,HB'.out.setCell (by simp) _⟩;have hB2:=HB'.out.setCell (p:=⟨w.heap.size+1,7,none⟩) (by simp) (Value.string ({ data:=#[40] }++{ data:=jl.toArray }++{ data:=#[41] }))
    refine ReAt.mk_ ⟨hop,Hset.out,HKK.out⟩ (fun h=>by have:=HH.out _ h;omega) (fun x y e=>⟨(HA.out x y e).1,Nat.lt_of_lt_of_le (HA.out x y e).2 hB2.size⟩) (a:=a) (c:=c) (bs:=bs) ?_ (Hhs.out.later hB2) (Hhk.out.later hB2);rw[Hnul.out,Hjoin.out];have:=blk_set (o:=7) (v:=Value.string ({ data:=#[40] }++{ data:=jl.toArray }++{ data:=#[41] })) Hblk'.out;rw[this]
    have e:(({ data:=#[40] }:ByteArray)++{ data:=jl.toArray }++{ data:=#[41] })=⟨([40]++(jl++[41])).toArray⟩:=by apply ByteArray.ext;simp
    rw[e];rfl
end Go.Proofs.YtamkfdlcdiadlaaGreatDoor
namespace Go.Proofs.YtamkfdlcdiadlaaGreatDoor
open Go.RowKit
theorem bits_and (x y:BitVec 64):bits .and .u64 (x.toNat:Int) (y.toNat:Int)=((x &&& y).toNat:Int):=by show IntKind.u64.wrap ((BitVec.ofInt 64 (x.toNat:Int) &&& BitVec.ofInt 64 (y.toNat:Int)).toNat:Int)=_;simp only[BitVec.ofInt_natCast,BitVec.ofNat_toNat,BitVec.setWidth_eq,IntKind.wrap_u64];have:=(x &&& y).isLt;omega
theorem bits_or (x y:BitVec 64):bits .or .u64 (x.toNat:Int) (y.toNat:Int)=((x ||| y).toNat:Int):=by show IntKind.u64.wrap ((BitVec.ofInt 64 (x.toNat:Int) ||| BitVec.ofInt 64 (y.toNat:Int)).toNat:Int)=_;simp only[BitVec.ofInt_natCast,BitVec.ofNat_toNat,BitVec.setWidth_eq,IntKind.wrap_u64];have:=(x ||| y).isLt;omega
theorem bits_andNot (x y:BitVec 64):bits .andNot .u64 (x.toNat:Int) (y.toNat:Int)=((Pv.nand x y).toNat:Int):=by show IntKind.u64.wrap ((BitVec.ofInt 64 (x.toNat:Int) &&& ~~~BitVec.ofInt 64 (y.toNat:Int)).toNat:Int)=_;simp only[BitVec.ofInt_natCast,BitVec.ofNat_toNat,BitVec.setWidth_eq,IntKind.wrap_u64];have:=(x &&& ~~~y).isLt;unfold Pv.nand;omega
theorem bits_not (x:BitVec 64):bits .xor .u64 IntKind.u64.max (x.toNat:Int)=((Pv.inv x).toNat:Int):=by
 show IntKind.u64.wrap ((BitVec.ofInt 64 (IntKind.u64.max) ^^^ BitVec.ofInt 64 (x.toNat:Int)).toNat:Int)=_;have h:BitVec.ofInt 64 IntKind.u64.max=BitVec.allOnes 64:=by decide
 rw[h];simp only[BitVec.ofInt_natCast,BitVec.ofNat_toNat,BitVec.setWidth_eq,IntKind.wrap_u64,BitVec.allOnes_xor];have:=(~~~x).isLt;unfold Pv.inv;omega
set_option maxHeartbeats 400000 in
theorem and1 (x y:BitVec 64)(w:World):Pure 125 #[W64 x,W64 y] w (W64 (x &&& y)):=by go_enter Tryz.func125,Tryz.ntmps125;have:=bits_and x y;go_wp2;go_ret;exact⟨rfl,rfl⟩
set_option maxHeartbeats 400000 in
theorem or1 (x y:BitVec 64)(w:World):Pure 150 #[W64 x,W64 y] w (W64 (x ||| y)):=by go_enter Tryz.func150,Tryz.ntmps150;have:=bits_or x y;go_wp2;go_ret;exact⟨rfl,rfl⟩
set_option maxHeartbeats 400000 in
theorem minus1 (x y:BitVec 64)(w:World):Pure 184 #[W64 x,W64 y] w (W64 (Pv.nand x y)):=by go_enter Tryz.func184,Tryz.ntmps184;have:=bits_andNot x y;go_wp2;go_ret;exact⟨rfl,rfl⟩
set_option maxHeartbeats 400000 in
theorem not1 (x y:BitVec 64)(w:World):Pure 166 #[W64 x,W64 y] w (W64 (Pv.inv x)):=by go_enter Tryz.func166,Tryz.ntmps166;have:=bits_not x;have hs:IntKind.u64.signed=false:=rfl;go_wp2;go_ret;exact⟨rfl,rfl⟩
set_option maxHeartbeats 1000000 in
theorem each_any (g:Nat)(eg:Hid (Enters Tryz.prog g))(F:BitVec 64→BitVec 64→BitVec 64)(hg:Hid (∀x y w,Calls Tryz.prog g #[W64 x,W64 y] w fun e w'=>e = .returned (W64 (F x y))∧w=w'))(s t:Pv.S4)(w:World):
  Calls Tryz.prog 124 #[S4V s,S4V t,.func (.func g) #[] #[]] w fun e w'=>e = .returned (S4V (Pv.S4.map2 F s t))∧Below w.heap.size w w':=by
 go_enter Tryz.func124,Tryz.ntmps124;go_wp2;go_loopw [8,9] (fun _ i wr=>∃k:Nat,k≤4∧i = .int .i64 k∧Below w.heap.size w wr∧w.heap.size+4≤wr.heap.size ∧
  wr.heap[w.heap.size]?=some (.cells (S4C s) 87)∧wr.heap[w.heap.size+1]?=some (.cells (S4C t) 87) ∧
  wr.heap[w.heap.size+1+1]?=some (.cells #[.int .u64 0,.int .u64 0,.int .u64 0,.int .u64 0] 87) ∧
  (∃c:Pv.S4,wr.heap[w.heap.size+1+1+1]?=some (.cells (S4C c) 87)∧∀j,j<k→c.word j=F (s.word j) (t.word j))) (fun _ i _=>(4-intOf i).toNat)
 case atStart=>
  refine⟨0,by omega,rfl,?_,by simp,?_,?_,?_,Pv.S4.zero,?_,fun j h=>by omega⟩
  ·exact((((Below.refl _ _).alloc (by first|(simp;done)|(simp;omega)|omega) _).alloc (by first|(simp;done)|(simp;omega)|omega) _).alloc (by first|(simp;done)|(simp;omega)|omega) _).alloc (by first|(simp;done)|(simp;omega)|omega) _
  ·exact blk_old (blk_old (blk_old (blk_new rfl)))
  ·exact blk_old (blk_old (blk_new (by simp)))
  ·exact blk_old (blk_new (by simp))
  ·exact blk_new (by simp)
 case round=>
 obtain⟨k,hk,rfl,hB,hS,h1,h2,h3,c,hc,hj⟩:=hrel;by_cases h4:k<4
 ·have h1':=cB h1 (word_get s k h4);have h2':=cB h2 (word_get t k h4);have H1:=Hy h1;have H2:=Hy h2;have H3:=Hy h3;have HJ:=Hy hj;have hc1:=cB hc (word_get c k h4);have hf1:=fob (o:=k) hc;have HC:=Hy hc;clear h1 h2 h3 hj hc;have hl0:w.heap.size<wr.heap.size:=by omega
  have hl1:w.heap.size+1<wr.heap.size:=by omega
  have hi0:(0:Int)≤k:=by omega
  have hi1:(k:Int)<4:=by omega
  go_wp2;refine Eag.region (.mov 0 (.mov 1 (.mov 2 (.mov 3 (.mov 4 (.mov 5 (.mov 6 (.mov 7 (.anc 8 (.mov 9 (.anc 10 Eag.Sch.fin))))))))))) [10] (by kernel_rfl) (by kernel_rfl) (fun K ops hops hK => ?_);iterate 8
   refine Eag.mov hops rfl rfl (fun w' hb => ?_) ?_
   ·have q0:=later hb h1';have q1:=later hb h2';clear hb;go_simp
   go_simp
  refine Eag.anc hops rfl rfl ?_;go_simp;rw[eg.out];refine(hg.out _ _ _).mono ?_;rintro e w' ⟨rfl,rfl⟩;refine⟨Below.refl _ _,?_⟩;refine Eag.mov hops rfl rfl (fun w' hb => ?_) ?_
  ·clear hb;go_simp
  go_simp;refine Eag.anc hops rfl rfl ?_;go_wp2_with fail;refine Eag.fin (hK _ _ ?_);clear hK;go_wp2_with fail;go_roundw
  case rel=>
   refine⟨k+1,by omega,by go_num,hB.drew.setCell (by simp;omega) _,by simp;omega,?_,?_,?_,c.setWord k (F (s.word k) (t.word k)),?_,?_⟩
   ·exact keep_set (w:=wr) H1.out (by omega)
   ·exact keep_set (w:=wr) H2.out (by omega)
   ·exact keep_set (w:=wr) H3.out (by omega)
   ·rw[←word_set c k h4];exact blk_set (w:=wr) HC.out
   ·intro j h;rw[word_setWord c k j h4 (by omega)];by_cases e:j=k
    ·rw[if_pos e,e]
    ·rw[if_neg e];exact HJ.out j (by omega)
  case measure=>simp[intOf];omega
 ·have e4:k=4:=by omega
  subst e4;have a0:=cB (o:=0) hc rfl;have a1:=cB (o:=1) hc rfl;have a2:=cB (o:=2) hc rfl;have a3:=cB (o:=3) hc rfl;have b0:=cB (o:=0) h3 rfl;have b1:=cB (o:=1) h3 rfl;have b2:=cB (o:=2) h3 rfl;have b3:=cB (o:=3) h3 rfl;have f0:=fob (o:=0) h3;have f1:=fob (o:=1) h3;have f2:=fob (o:=2) h3;have f3:=fob (o:=3) h3;have HJ:=Hy hj;clear hc h1 h2 h3 hj;go_wp2
  refine bodyPost_ret (v:=S4V ⟨F s.a t.a,F s.b t.b,F s.c t.c,F s.d t.d⟩) ?_ rfl ⟨rfl,?_⟩
  ·rw[show F s.a t.a=c.a from(HJ.out 0 (by omega)).symm,show F s.b t.b=c.b from(HJ.out 1 (by omega)).symm,show F s.c t.c=c.c from(HJ.out 2 (by omega)).symm,show F s.d t.d=c.d from(HJ.out 3 (by omega)).symm];simp[results,Tryz.results124,go_sem,a0,b0,b1,b2,b3]
  ·exact(((hB.setCell (by simp;omega) _).setCell (by simp;omega) _).setCell (by simp;omega) _).setCell (by simp;omega) _
theorem eg_and:Hid (Enters Tryz.prog 125):=enters_of Tryz.func125 (by kernel_rfl) rfl
theorem eg_or:Hid (Enters Tryz.prog 150):=enters_of Tryz.func150 (by kernel_rfl) rfl
theorem eg_minus:Hid (Enters Tryz.prog 184):=enters_of Tryz.func184 (by kernel_rfl) rfl
theorem eg_not:Hid (Enters Tryz.prog 166):=enters_of Tryz.func166 (by kernel_rfl) rfl
abbrev GivesSet (f:Nat)(args:Array Value)(w:World)(s:Pv.S4):Prop:=Calls Tryz.prog f args w fun e w'=>e = .returned (S4V s)∧Below w.heap.size w w'
theorem each_and (s t:Pv.S4)(w:World):GivesSet 124 #[S4V s,S4V t,.func (.func 125) #[] #[]] w (s.and t):=each_any _ eg_and _ (Hy and1) s t w
theorem each_or (s t:Pv.S4)(w:World):GivesSet 124 #[S4V s,S4V t,.func (.func 150) #[] #[]] w (s.or t):=each_any _ eg_or _ (Hy or1) s t w
theorem each_minus (s t:Pv.S4)(w:World):GivesSet 124 #[S4V s,S4V t,.func (.func 184) #[] #[]] w (s.minus t):=each_any _ eg_minus _ (Hy minus1) s t w
theorem each_not (s:Pv.S4)(w:World):GivesSet 124 #[S4V s,S4V s,.func (.func 166) #[] #[]] w s.not:=each_any _ eg_not (fun x _=>Pv.inv x) (Hy not1) s s w
set_option maxHeartbeats 400000 in
theorem and_any (s t:Pv.S4)(w:World):GivesSet 87 #[S4V s,S4V t] w (s.and t):=by
 go_enter Tryz.func87,Tryz.ntmps87;go_wp2_with fail;refine(each_and s t _).mono ?_;rintro e w' ⟨rfl,hb⟩;obtain⟨hc,hf⟩:=bcell hb;have hz:w.heap.size+1+1<w'.heap.size:=by have:=hb.size;simp at this;omega
 have HB:=Hy hb;clear hb;go_wp2_with fail;refine bodyPost_ret (v:=S4V _) ?_ rfl ⟨rfl,?_⟩
 ·simp[results,Tryz.results87,go_sem,hc,hz]
 ·exact(((((((Below.refl _ _).alloc (by first|(simp;done)|(simp;omega)|omega) _).alloc (by first|(simp;done)|(simp;omega)|omega) _).alloc (by first|(simp;done)|(simp;omega)|omega) _).trans (HB.out.mono (by first|(simp;done)|(simp;omega)|omega))).setCell (by first|(simp;done)|(simp;omega)|omega) _).setCell (by first|(simp;done)|(simp;omega)|omega) _ |>.setCell (by first|(simp;done)|(simp;omega)|omega) _).setCell (by first|(simp;done)|(simp;omega)|omega) _
set_option maxHeartbeats 400000 in
theorem or_any (s t:Pv.S4)(w:World):GivesSet 112 #[S4V s,S4V t] w (s.or t):=by
 go_enter Tryz.func112,Tryz.ntmps112;go_wp2_with fail;refine(each_or s t _).mono ?_;rintro e w' ⟨rfl,hb⟩;obtain⟨hc,hf⟩:=bcell hb;have hz:w.heap.size+1+1<w'.heap.size:=by have:=hb.size;simp at this;omega
 have HB:=Hy hb;clear hb;go_wp2_with fail;refine bodyPost_ret (v:=S4V _) ?_ rfl ⟨rfl,?_⟩
 ·simp[results,Tryz.results112,go_sem,hc,hz]
 ·exact(((((((Below.refl _ _).alloc (by first|(simp;done)|(simp;omega)|omega) _).alloc (by first|(simp;done)|(simp;omega)|omega) _).alloc (by first|(simp;done)|(simp;omega)|omega) _).trans (HB.out.mono (by first|(simp;done)|(simp;omega)|omega))).setCell (by first|(simp;done)|(simp;omega)|omega) _).setCell (by first|(simp;done)|(simp;omega)|omega) _ |>.setCell (by first|(simp;done)|(simp;omega)|omega) _).setCell (by first|(simp;done)|(simp;omega)|omega) _
set_option maxHeartbeats 400000 in
theorem minus_any (s t:Pv.S4)(w:World):GivesSet 148 #[S4V s,S4V t] w (s.minus t):=by
 go_enter Tryz.func148,Tryz.ntmps148;go_wp2_with fail;refine(each_minus s t _).mono ?_;rintro e w' ⟨rfl,hb⟩;obtain⟨hc,hf⟩:=bcell hb;have hz:w.heap.size+1+1<w'.heap.size:=by have:=hb.size;simp at this;omega
 have HB:=Hy hb;clear hb;go_wp2_with fail;refine bodyPost_ret (v:=S4V _) ?_ rfl ⟨rfl,?_⟩
 ·simp[results,Tryz.results148,go_sem,hc,hz]
 ·exact(((((((Below.refl _ _).alloc (by first|(simp;done)|(simp;omega)|omega) _).alloc (by first|(simp;done)|(simp;omega)|omega) _).alloc (by first|(simp;done)|(simp;omega)|omega) _).trans (HB.out.mono (by first|(simp;done)|(simp;omega)|omega))).setCell (by first|(simp;done)|(simp;omega)|omega) _).setCell (by first|(simp;done)|(simp;omega)|omega) _ |>.setCell (by first|(simp;done)|(simp;omega)|omega) _).setCell (by first|(simp;done)|(simp;omega)|omega) _
set_option maxHeartbeats 400000 in
theorem not_any (s:Pv.S4)(w:World):GivesSet 126 #[S4V s] w s.not:=by
 go_enter Tryz.func126,Tryz.ntmps126;go_wp2_with fail;refine(each_not s _).mono ?_;rintro e w' ⟨rfl,hb⟩;obtain⟨hc,hf⟩:=bcell hb;have hz:w.heap.size+1<w'.heap.size:=by have:=hb.size;simp at this;omega
 have HB:=Hy hb;clear hb;go_wp2_with fail;refine bodyPost_ret (v:=S4V _) ?_ rfl ⟨rfl,?_⟩
 ·simp[results,Tryz.results126,go_sem,hc,hz]
 ·exact((((((Below.refl _ _).alloc (by first|(simp;done)|(simp;omega)|omega) _).alloc (by first|(simp;done)|(simp;omega)|omega) _).trans (HB.out.mono (by first|(simp;done)|(simp;omega)|omega))).setCell (by first|(simp;done)|(simp;omega)|omega) _).setCell (by first|(simp;done)|(simp;omega)|omega) _ |>.setCell (by first|(simp;done)|(simp;omega)|omega) _).setCell (by first|(simp;done)|(simp;omega)|omega) _
set_option maxHeartbeats 400000 in
theorem all_any (w:World):GivesSet 88 #[] w Pv.S4.all:=by
 go_enter Tryz.func88,Tryz.ntmps88;go_wp2_with fail;refine(not_any ⟨0,0,0,0⟩ _).mono ?_;rintro e w' ⟨rfl,hb⟩;obtain⟨hc,hf⟩:=bcell hb;have hz:w.heap.size<w'.heap.size:=by have:=hb.size;simp at this;omega
 have HB:=Hy hb;clear hb;go_wp2_with fail;refine bodyPost_ret (v:=S4V Pv.S4.all) ?_ rfl ⟨rfl,?_⟩
 ·simp[results,Tryz.results88,go_sem,hc,hz,Pv.S4.all,Pv.S4.zero]
 ·exact(((((Below.refl _ _).alloc (by first|(simp;done)|(simp;omega)|omega) _).trans (HB.out.mono (by first|(simp;done)|(simp;omega)|omega))).setCell (by first|(simp;done)|(simp;omega)|omega) _).setCell (by first|(simp;done)|(simp;omega)|omega) _ |>.setCell (by first|(simp;done)|(simp;omega)|omega) _).setCell (by first|(simp;done)|(simp;omega)|omega) _
theorem bit_test (x:BitVec 64)(j:Nat)(hj:j<64):(bits .and .u64 ((x.toNat:Int) / 2 ^ j) 1==1)=x.getLsbD j:=by
 have e:((x.toNat:Int) / 2 ^ j)=((x >>> j).toNat:Int):=by rw[BitVec.toNat_ushiftRight,Nat.shiftRight_eq_div_pow,Int.natCast_ediv];simp
 have e1:(1:Int)=((1#64).toNat:Int):=rfl;rw[e,e1,bits_and];have h:(x >>> j &&& 1#64)=if x.getLsbD j then 1#64 else 0#64:=by
  ext i hi;simp only[BitVec.getElem_and,BitVec.getElem_ushiftRight,BitVec.getElem_one];by_cases h0:i=0
  ·subst h0;cases h:x.getLsbD j<;>simp[h]
  ·have:decide (i=0)=false:=by simpa using h0
   rw[this,Bool.and_false];cases x.getLsbD j<;>simp[BitVec.getElem_one,h0]
 rw[h];cases x.getLsbD j<;>rfl
theorem toNat_beq (x y:BitVec 64):((x.toNat:Int)==(y.toNat:Int))=decide (x=y):=by rw[Bool.eq_iff_iff];simp only[beq_iff_eq,decide_eq_true_eq];exact⟨fun h=>BitVec.eq_of_toNat_eq (by omega),fun h=>by rw[h]⟩
theorem equalIn_set' (e:Nat)(he:∀(a b:Int) (w:World),(Op.equalIn e 85 (.int .u64 a) (.int .u64 b)).run Tryz.prog w = .ok (a==b) w)(s t:Pv.S4)(w:World):
  (Op.equalIn (e+1) 87 (S4V s) (S4V t)).run Tryz.prog w = .ok (decide (s=t)) w:=by
 have u1:=Tryz.underlying87;have z:=Tryz.sizeOf85;have ag:=Tryz.isAgg85;simp only[Op.equalIn,Sem.run_bind,run_underlying u1,Result.andThen_ok,z];rw[Std.Legacy.Range.forIn_eq_forIn_range'];simp only[Std.Legacy.Range.size,Nat.sub_zero,Nat.add_one_sub_one,Nat.div_one,List.range',List.forIn_cons,List.forIn_nil,Nat.mul_one];obtain⟨a,b,c,d⟩:=s;obtain⟨a',b',c',d'⟩:=t;simp only[Pv.S4.mk.injEq]
 by_cases h1:a=a'<;>by_cases h2:b=b'<;>by_cases h3:c=c'<;>by_cases h4:d=d' <;>
  simp[go_sem,ag,he,toNat_beq,h1,h2,h3,h4,z]
theorem equalIn_set (s t:Pv.S4)(w:World):(Op.equalIn 10000 87 (S4V s) (S4V t)).run Tryz.prog w = .ok (decide (s=t)) w:=
 equalIn_set' 9999 (fun a b w=>run_equalIn_int w 9998 _ _ _ a b Tryz.underlying85) s t w
set_option maxRecDepth 20000 in
set_option maxHeartbeats 400000 in
theorem empty_any (s:Pv.S4)(w:World):Calls Tryz.prog 81 #[S4V s] w fun e w'=>e = .returned (.bool s.isEmpty)∧Below w.heap.size w w':=by
 have h:∀w,(Op.equalIn 10000 87 (.agg #[W64 s.a,W64 s.b,W64 s.c,W64 s.d]) (.agg #[.int .u64 0,.int .u64 0,.int .u64 0,.int .u64 0])).run Tryz.prog w = .ok s.isEmpty w:=
  fun w=>equalIn_set s ⟨0,0,0,0⟩ w
 go_enter Tryz.func81,Tryz.ntmps81;go_wp2;go_ret;exact⟨rfl,(Below.refl _ _).alloc (Nat.le_refl _) _⟩
set_option maxHeartbeats 400000 in
theorem has_any (s:Pv.S4)(b:Nat)(hb:b<256)(w:World):Calls Tryz.prog 110 #[S4V s,.int .u8 (b:Int)] w fun e w'=>e = .returned (.bool (s.has b))∧Below w.heap.size w w':=by
 have h4:b / 64<4:=by omega
 have h1:[W64 s.a,W64 s.b,W64 s.c,W64 s.d][b / 64]'(by simp;omega)=W64 (s.word (b / 64)):=Option.some.inj ((List.getElem?_eq_getElem _).symm.trans (word_getL s (b / 64) h4));go_enter Tryz.func110,Tryz.ntmps110;go_wp2;go_ret;refine⟨?_,(Below.refl _ _).alloc (Nat.le_refl _) _⟩;show Ending.returned (.bool (bits BinOp.and IntKind.u64 (((s.word (b / 64)).toNat:Int) / 2 ^ (b % 64)) 1==1))=_
 rw[bit_test _ _ (by omega)];rfl
end Go.Proofs.YtamkfdlcdiadlaaGreatDoor
namespace Go.Proofs.YtamkfdlcdiadlaaGreatDoor
open Go.RowKit
variable {H:Nat→Prop}
abbrev MakesRe (H:Nat→Prop)(f:Nat)(args:Array Value)(w:World)(r:Pv.R):Prop:=
 Calls Tryz.prog f args w fun e w'=>∃b,e = .returned (Ptr b)∧ReAt H w' r b∧Below w.heap.size w w'
theorem made_nothing (w:World)(hH:∀h,H h→h<w.heap.size):MakesRe H 75 #[.int .i64 0,.agg #[.int .u64 0,.int .u64 0,.int .u64 0,.int .u64 0],.bool false,.slice none 0 0] w Pv.nothing:=
 made_any 0 (by omega) .zero (fun _=>rfl) [] (by simp) none 0 [] w (Sl.nil _) ResAt.nil hH (fun _ _ h=>by cases h) (by decide)
theorem made_empty (w:World)(hH:∀h,H h→h<w.heap.size):MakesRe H 75 #[.int .i64 1,.agg #[.int .u64 0,.int .u64 0,.int .u64 0,.int .u64 0],.bool true,.slice none 0 0] w Pv.empty:=
 made_any 1 (by omega) .zero (fun _=>rfl) [] (by simp) none 0 [] w (Sl.nil _) ResAt.nil hH (fun _ _ h=>by cases h) (by decide)
theorem made_class (s:Pv.S4)(w:World)(hH:∀h,H h→h<w.heap.size):MakesRe H 75 #[.int .i64 2,S4V s,.bool false,.slice none 0 0] w (.mk 2 s []):=
 made_any 2 (by omega) s (fun h=>absurd rfl h) [] (by simp) none 0 [] w (Sl.nil _) ResAt.nil hH (fun _ _ h=>by cases h) (by simp[Pv.size,Pv.sizes])
set_option maxHeartbeats 400000 in
theorem nothing_any (w:World)(hH:∀h,H h→h<w.heap.size):MakesRe H 82 #[] w Pv.nothing:=by go_enter Tryz.func82,Tryz.ntmps82;go_wp2_with fail;refine(made_nothing _ hH).mono ?_;rintro e w' ⟨b,rfl,h,hb⟩;go_wp2_with fail;go_ret;exact⟨b,rfl,h,hb⟩
set_option maxHeartbeats 400000 in
theorem empty_re (w:World)(hH:∀h,H h→h<w.heap.size):MakesRe H 72 #[] w Pv.empty:=by go_enter Tryz.func72,Tryz.ntmps72;go_wp2_with fail;refine(made_empty _ hH).mono ?_;rintro e w' ⟨b,rfl,h,hb⟩;go_wp2_with fail;go_ret;exact⟨b,rfl,h,hb⟩
set_option maxHeartbeats 400000 in
theorem one_any (s:Pv.S4)(w:World)(hH:∀h,H h→h<w.heap.size):MakesRe H 41 #[S4V s] w (Pv.one s):=by
 go_enter Tryz.func41,Tryz.ntmps41;go_wp2_with fail;refine(empty_any s _).mono ?_;rintro e w1 ⟨rfl,hb⟩;obtain⟨hc,hf⟩:=bcell hb;have hz:w.heap.size<w1.heap.size:=by have:=hb.size;simp at this;omega
 have HB:=Hy hb;clear hb;have Hone:=Hy (show Pv.one s=if s.isEmpty then Pv.nothing else .mk 2 s [] from rfl);cases hs:s.isEmpty
 ·have Hs:=Hy hs;clear hs;go_wp2_with fail;refine(made_class s _ (fun h hh=>by have:=hH h hh;omega)).mono ?_;rintro e w' ⟨b,rfl,h,hb⟩;go_wp2_with fail;go_ret;refine⟨b,rfl,?_,(((Below.refl _ _).alloc (Nat.le_refl _) _).trans (HB.out.mono (by simp))).trans (hb.mono (by omega))⟩;rw[Hone.out,Hs.out];exact h
 ·have Hs:=Hy hs;clear hs;go_wp2_with fail;refine(nothing_any _ (fun h hh=>by have:=hH h hh;omega)).mono ?_;rintro e w' ⟨b,rfl,h,hb⟩;go_wp2_with fail;go_ret;refine⟨b,rfl,?_,(((Below.refl _ _).alloc (Nat.le_refl _) _).trans (HB.out.mono (by simp))).trans (hb.mono (by omega))⟩;rw[Hone.out,Hs.out];exact h
set_option maxHeartbeats 400000 in
theorem null_any (r:Pv.R)(b:Nat)(w:World)(h:ReAt H w r b):Pure 29 #[Ptr b] w (.bool (Pv.null r)):=by obtain⟨a,c,bs,_,_,_,_,_,_,h6,_⟩:=h.cells;go_enter Tryz.func29,Tryz.ntmps29;go_wp2_with fail;go_ret;exact⟨rfl,rfl⟩
set_option maxHeartbeats 400000 in
theorem key_any (r:Pv.R)(b:Nat)(w:World)(h:ReAt H w r b):Pure 97 #[Ptr b] w (Str (Pv.key r)):=by obtain⟨a,c,bs,_,_,_,_,_,_,_,h7,_⟩:=h.cells;go_enter Tryz.func97,Tryz.ntmps97;go_wp2_with fail;go_ret;exact⟨rfl,rfl⟩
set_option maxHeartbeats 400000 in
theorem size_any (r:Pv.R)(b:Nat)(w:World)(h:ReAt H w r b):Pure 132 #[Ptr b] w (.int .i64 (Pv.size r:Int)):=by obtain⟨a,c,bs,_,_,_,_,_,_,_,_,h8,_⟩:=h.cells;go_enter Tryz.func132,Tryz.ntmps132;go_wp2_with fail;go_ret;exact⟨rfl,rfl⟩
set_option maxHeartbeats 400000 in
theorem same_any (r q:Pv.R)(b d:Nat)(w:World)(h:ReAt H w r b)(h2:ReAt H w q d):Pure 60 #[Ptr b,Ptr d] w (.bool (Pv.same r q)):=by go_enter Tryz.func60,Tryz.ntmps60;go_wp2_with fail;refine(key_any r b _ h).mono ?_;rintro e w' ⟨rfl,rfl⟩;go_wp2_with fail;refine(key_any q d _ h2).mono ?_;rintro e w' ⟨rfl,rfl⟩;go_wp2_with fail;go_ret;exact⟨rfl,rfl⟩
end Go.Proofs.YtamkfdlcdiadlaaGreatDoor
