/- Plain Lean: sets of bytes, expressions and what is done with them. No program, no memory. -/

set_option linter.all false
namespace Pv
structure S4 where
 a:BitVec 64
 b:BitVec 64
 c:BitVec 64
 d:BitVec 64
deriving DecidableEq
def inv (x:BitVec 64):BitVec 64 := ~~~x
def nand (x y:BitVec 64):BitVec 64:=x &&& ~~~y
def dig36 (k:Nat):UInt8:=if k<10 then UInt8.ofNat (48+k) else UInt8.ofNat (87+k)
namespace S4
def word (s:S4)(k:Nat):BitVec 64:=if k=0 then s.a else if k=1 then s.b else if k=2 then s.c else s.d
def map2 (F:BitVec 64→BitVec 64→BitVec 64)(s t:S4):S4:=⟨F s.a t.a,F s.b t.b,F s.c t.c,F s.d t.d⟩
def zero:S4:=⟨0,0,0,0⟩
def and (s t:S4):S4:=map2 (· &&& ·) s t
def or (s t:S4):S4:=map2 (· ||| ·) s t
def minus (s t:S4):S4:=map2 nand s t
def not (s:S4):S4:=map2 (fun x _=>inv x) s s
def all:S4:=not zero
def has (s:S4)(b:Nat):Bool:=(s.word (b / 64)).getLsbD (b % 64)
def isEmpty (s:S4):Bool:=decide (s=zero)
def setWord (s:S4)(k:Nat)(x:BitVec 64):S4:=
 if k=0 then { s with a:=x } else if k=1 then { s with b:=x } else if k=2 then { s with c:=x } else { s with d:=x }
def add (s:S4)(b:Nat):S4:=s.setWord (b / 64) (s.word (b / 64) ||| ((1:BitVec 64) <<< (b % 64)))
def of (l:List UInt8):S4:=l.foldl (fun s b=>s.add b.toNat) zero
def leastFrom (s:S4):Nat→Nat→Option Nat
 | 0,_=>none
 | n+1,b=>if s.has b then some b else leastFrom s n (b+1)
def least (s:S4):Option Nat:=leastFrom s 256 0
end S4
inductive R where
 | mk (op:Nat) (set:S4) (kids:List R)
instance:Inhabited R:=⟨.mk 0 S4.zero []⟩
namespace R
def op:R→Nat|mk o _ _=>o
def set:R→S4|mk _ s _=>s
def kids:R→List R|mk _ _ k=>k
end R
def dg36Go:Nat→Nat→List UInt8→List UInt8
 | 0,_,acc=>acc
 | f+1,u,acc=>if 36≤u then dg36Go f (u / 36) (dig36 (u % 36)::acc) else dig36 u::acc
def digits36 (u:Nat):List UInt8:=dg36Go 14 u []
def wordParts (op:Nat)(s:S4):List (List UInt8):=
 if op=2 then [digits36 s.a.toNat,digits36 s.b.toNat,digits36 s.c.toNat,digits36 s.d.toNat] else []
def joined:List (List UInt8)→List UInt8
 | []=>[]
 | x::r=>x++(r.map (32 :: ·)).flatten
mutual
def key:R→List UInt8
 | .mk op s ks=>40::(joined ([UInt8.ofNat (48+op)]::(wordParts op s++keys ks))++[41])
def keys:List R→List (List UInt8)
 | []=>[]
 | r::rs=>key r::keys rs
end
mutual
def size:R→Nat
 | .mk _ _ ks=>1+sizes ks
def sizes:List R→Nat
 | []=>0
 | r::rs=>size r+sizes rs
end
def nullOf (op:Nat)(bs:List Bool):Bool:=
 if op=1∨op=5 then true else if op=3∨op=6 then bs.all id else if op=4 then bs.any id
 else if op=7 then bs.getD 0 false && !bs.getD 1 false else false
mutual
def null:R→Bool
 | .mk op _ ks=>nullOf op (nulls ks)
def nulls:List R→List Bool
 | []=>[]
 | r::rs=>null r::nulls rs
end
mutual
def WF:R→Prop
 | .mk op s ks=>op≤7∧(op≠2→s=S4.zero)∧(op=3∨op=5→ks≠[])∧WFs ks
def WFs:List R→Prop
 | []=>True
 | r::rs=>WF r∧WFs rs
end
theorem keys_map (l:List R):keys l=l.map key:=by induction l with|nil=>rfl|cons r l ih=>simp[keys,ih]
theorem sizes_sum (l:List R):sizes l=(l.map size).sum:=by induction l with|nil=>rfl|cons r l ih=>simp[sizes,ih]
theorem nulls_map (l:List R):nulls l=l.map null:=by induction l with|nil=>rfl|cons r l ih=>simp[nulls,ih]
def nothing:R:= .mk 0 .zero []
def empty:R:= .mk 1 .zero []
def one (s:S4):R:=if s.isEmpty then nothing else .mk 2 s []
def flat (op:Nat)(l:List R):List R:=l.flatMap fun r=>if r.op=op then r.kids else [r]
def thenOf (all:List R):R:=
 if all.any (fun r=>r.op==0) then nothing else match all with
  | []=>empty
  | [x]=>x
  | _=> .mk 3 .zero all
def cat (l:List R):R:=thenOf ((flat 3 l).filter fun r => !(r.op==1))
def word (l:List UInt8):R:=cat (l.map fun b=>one (S4.of [b]))
def many (r:R):R:=if r.op=0∨r.op=1 then empty else if r.op=5 then r else .mk 5 .zero [r]
def same (a b:R):Bool:=key a==key b
def but (a b:R):R:=
 if a.op=0∨same a b=true then nothing else if b.op=0 then a
 else if a.op=2∧b.op=2 then one (a.set.minus b.set) else .mk 7 .zero [a,b]
def keyLt:List UInt8→List UInt8→Bool
 | [],[]=>false
 | [],_::_=>true
 | _::_,[]=>false
 | a::x,b::y=>if a<b then true else if b<a then false else keyLt x y
def ins (r:R):List R→List R
 | []=>[r]
 | x::l=>if keyLt (key x) (key r) then x::ins r l else r::x::l
def isort:List R→List R
 | []=>[]
 | r::l=>ins r (isort l)
def compact:List R→List R
 | []=>[]
 | r::l=>match compact l with
   | []=>[r]
   | x::m=>if same r x then r::m else r::x::m
def unique (l:List R):List R:=compact (isort l)
def joinGo (f:S4→S4→S4):List R→List R→Option R→List R
 | [],out,o=>unique (out++o.toList)
 | r::l,out,o=>
   if r.op=2 then match o with
    | none=>joinGo f l out (some r)
    | some x=>let y:=one (f x.set r.set);if y.op=0 then out++[y] else joinGo f l out (some y)
   else joinGo f l (out++[r]) o
def join (op:Nat)(l:List R)(f:S4→S4→S4):List R:=joinGo f (flat op l) [] none
def anyOf (all:List R):R:=match all with
 | []=>nothing
 | [x]=>x
 | _=> .mk 4 .zero all
def any (l:List R):R:=anyOf ((join 4 l S4.or).filter fun r => !(r.op==0))
def bothOf (all:List R):R:=
 if all.any (fun r=>r.op==0) then nothing else match all with
  | []=>many (one S4.all)
  | [x]=>x
  | _=> .mk 6 .zero all
def both (l:List R):R:=bothOf (join 6 l S4.and)
def withKids (r:R)(ks:List R):R:=
 if r.op=3 then cat ks else if r.op=4 then any ks else if r.op=6 then both ks
 else if r.op=5 then(match ks with|[k]=>many k|_=>r)
 else if r.op=7 then(match ks with|[a,b]=>but a b|_=>r) else r
mutual
def back:R→R
 | .mk op s []=> .mk op s []
 | .mk op s (k::ks)=>withKids (.mk op s (k::ks)) (if op=3 then(backs (k::ks)).reverse else backs (k::ks))
def backs:List R→List R
 | []=>[]
 | r::rs=>back r::backs rs
end
def byF:Nat→UInt8→R→R
 | 0,_,_=>nothing
 | n+1,c,r=>
   if r.op=2 then(if r.set.has c.toNat then empty else nothing)
   else if r.op=3 then(match r.kids with
    | []=>nothing
    | k::rest=>if null k then any [cat [byF n c k,cat rest],byF n c (cat rest)] else cat [byF n c k,cat rest])
   else if r.op=5 then(match r.kids with
    | []=>nothing
    | k::_=>cat [byF n c k,r])
   else if r.op=4∨r.op=6∨r.op=7 then withKids r (r.kids.map (byF n c))
   else nothing
def by_ (c:UInt8)(r:R):R:=byF (size r) c r
def matchR:List UInt8→R→Bool
 | [],r=>null r
 | c::s,r=>let d:=by_ c r;if d.op=0 then false else matchR s d
end Pv
namespace Pv
def refineStep (parts:List S4)(s:S4):List S4:=parts.flatMap fun p=>[p.and s,p.minus s].filter fun q => !q.isEmpty
def sortedGo (parts:List S4):Nat→Nat→List S4→S4→List S4
 | 0,_,out,_=>out
 | n+1,b,out,seen=>
   if seen.has b then sortedGo parts n (b+1) out seen
   else match parts.find? (fun p=>p.has b) with
    | some p=>sortedGo parts n (b+1) (out++[p]) (seen.or p)
    | none=>sortedGo parts n (b+1) out seen
def sortedParts (parts:List S4):List S4:=sortedGo parts 256 0 [] S4.zero
def refine (l:List S4):List S4:=sortedParts (l.foldl refineStep [S4.all])
def indexOf (parts:List S4)(b:Nat):Nat:=(parts.zipIdx.foldl (fun k x=>if x.1.has b then x.2 else k) 0) % 256
mutual
def allSets:R→List S4
 | .mk op s ks=>if op=2 then [s] else allSetsL ks
def allSetsL:List R→List S4
 | []=>[]
 | r::rs=>allSets r++allSetsL rs
end
structure Dfa where
 parts:List S4
 next:List (List Nat)
 yes:List Bool
namespace Dfa
def head (p:S4):UInt8:=UInt8.ofNat (p.least.getD 0)
def heads (D:Dfa):List UInt8:=D.parts.map head
def at_ (D:Dfa)(b:Nat):Nat:=indexOf D.parts b
def step (D:Dfa)(q b:Nat):Nat:=(D.next.getD q []).getD (D.at_ b) 0
def isYes (D:Dfa)(q:Nat):Bool:=D.yes.getD q false
def run (D:Dfa)(q:Nat)(s:List UInt8):Nat:=s.foldl (fun q b=>D.step q b.toNat) q
def accepts (D:Dfa)(s:List UInt8):Bool:=D.isYes (D.run 0 s)
structure Ok (D:Dfa):Prop where
 len:D.next.length=D.yes.length
 pos:0<D.yes.length
 row:∀row∈D.next,row.length=D.parts.length∧∀to∈row,to<D.yes.length
 pp:0<D.parts.length
 p256:D.parts.length≤256
end Dfa
def findKey (k:List UInt8):List R→Nat→Option Nat
 | [],_=>none
 | r::l,i=>if key r=k then some i else findKey k l (i+1)
abbrev most:Nat:=20000
def stateOf (x:R)(all:List R)(left:Nat):Option (List R × Nat × Nat):=
 match findKey (key x) all 0 with
 | some q=>some (all,left,q)
 | none=>if most<size x then none else if left=0 then none else some (all++[x],left-1,all.length)
def buildRow (x:R):List UInt8→List R→Nat→List Nat→Nat × Option (List R × List Nat)
 | [],all,left,row=>(left,some (all,row))
 | h::hs,all,left,row=>match stateOf (by_ h x) all left with
   | none=>(left,none)
   | some (all',left',q)=>buildRow x hs all' left' (row++[q])
def buildGo (heads:List UInt8):Nat→Nat→List R→Nat→List (List Nat)→Nat × Option (List R × List (List Nat))
 | 0,_,_,left,_=>(left,none)
 | f+1,q,all,left,next=>match all[q]? with
   | none=>(left,some (all,next))
   | some x=>match buildRow x heads all left [] with
     | (left',none)=>(left',none)
     | (left',some (all',row))=>buildGo heads f (q+1) all' left' (next++[row])
def build (r:R)(left:Nat):Nat × Option Dfa:=
 let parts:=refine (allSets r)
 match stateOf r [] left with
 | none=>(left,none)
 | some (all,left',_)=>match buildGo (parts.map Dfa.head) (left+2) 0 all left' [] with
   | (l,none)=>(l,none)
   | (l,some (all,next))=>(l,some ⟨parts,next,all.map null⟩)
def aliveCell (q:Nat)(st:List Bool × Bool)(to:Nat):List Bool × Bool:=
 if !st.1.getD q false&&st.1.getD to false then(st.1.set q true,true) else st
def aliveRow (q:Nat)(row:List Nat)(st:List Bool × Bool):List Bool × Bool:=row.foldl (aliveCell q) st
def alivePass:List (List Nat)→Nat→List Bool × Bool→List Bool × Bool
 | [],_,st=>st
 | row::rest,q,st=>alivePass rest (q+1) (aliveRow q row st)
def aliveGo (next:List (List Nat)):Nat→List Bool→List Bool
 | 0,live=>live
 | f+1,live=>let st:=alivePass next 0 (live,false);if st.2 then aliveGo next f st.1 else st.1
def Dfa.live (D:Dfa):List Bool:=aliveGo D.next (D.yes.length+1) D.yes
def Dfa.isLive (D:Dfa)(q:Nat):Bool:=D.live.getD q false
abbrev Came:=List (Nat × Int × UInt8)
def cameOf (c:Came)(q:Nat):Int × UInt8:=match c.find? (fun x=>x.1==q) with|some x=>x.2|none=>(0,0)
def textTo (c:Came):Nat→Nat→List UInt8→List UInt8
 | 0,_,out=>out
 | f+1,q,out=>if q=0 then out else textTo c f (cameOf c q).1.toNat ((cameOf c q).2::out)
def shortStep (D:Dfa)(q:Nat)(c:Came)(h:UInt8):Came:=
 let to:=D.step q h.toNat
 if c.any (fun x=>x.1==to) then c else c++[(to,(q:Int),h)]
def shortGo (D:Dfa):Nat→Nat→Came→Option (List UInt8)
 | 0,_,_=>none
 | f+1,i,c=>match c[i]? with
   | none=>none
   | some x=>if D.isYes x.1 then some (textTo c (D.yes.length+1) x.1 []) else shortGo D f (i+1) (D.heads.foldl (shortStep D x.1) c)
def shortest (D:Dfa):Option (List UInt8):=shortGo D (D.yes.length+1) 0 [(0,-1,0)]
def witness (r:R)(left:Nat):Nat × Option (Option (List UInt8)):=match build r left with
 | (l,none)=>(l,none)
 | (l,some D)=>(l,some (shortest D))
def outside (x y:R)(left:Nat):=witness (but x y) left
def shared (x y:R)(left:Nat):=witness (both [x,y]) left
structure Spot where
 phase:Nat
 p:Nat
 q:Nat
 moved:Bool
deriving DecidableEq
structure Step where
 from_:Int
 by_:UInt8
 free:Bool
deriving DecidableEq
abbrev Trail:=List (Spot × Step)
def addSpot (x:Spot)(s:Step)(l:Trail)(left:Nat):Option (Trail × Nat):=
 if l.any (fun y=>y.1==x) then some (l,left) else if left=0 then none else some (l++[(x,s)],left-1)
def freeOf (A:Dfa)(x:Spot):Option Spot:=
 if x.phase=0∧A.isYes x.p=true then some ⟨1,x.p,0,false⟩
 else if x.phase=1∧x.moved=true∧A.isYes x.p=true then some ⟨2,x.q,0,false⟩
 else none
def byOf (A B:Dfa)(x:Spot)(b:UInt8):Option Spot:=
 if x.phase=0 then(let p:=A.step x.p b.toNat;if A.isLive p then some ⟨0,p,0,false⟩ else none)
 else if x.phase=1 then(let p:=A.step x.p b.toNat;let q:=B.step x.q b.toNat;if A.isLive p&&B.isLive q then some ⟨1,p,q,true⟩ else none)
 else(let p:=B.step x.p b.toNat;let q:=B.step x.q b.toNat;if B.isLive p&&B.isLive q then some ⟨2,p,q,false⟩ else none)
structure Two where
 text:List UInt8
 i:Int
 j:Int
deriving DecidableEq
def twoGo (l:Trail):Nat→Nat→List UInt8→List Nat→List UInt8 × List Nat
 | 0,_,out,places=>(out,places)
 | f+1,i,out,places=>match l[i]? with
   | none=>(out,places)
   | some (_,s)=>if s.from_<0 then(out,places)
     else if s.free then twoGo l f s.from_.toNat out (places++[out.length])
     else twoGo l f s.from_.toNat (out++[s.by_]) places
def twoOf (l:Trail)(i:Nat):Two:=
 let r:=twoGo l (l.length+1) i [] []
 ⟨r.1.reverse,(r.1.length:Int)-(r.2.getD 1 0:Nat),(r.1.length:Int)-(r.2.getD 0 0:Nat)⟩
def catFree (A:Dfa):Nat→Nat→Trail→Nat→Nat × Option Trail
 | 0,_,_,left=>(left,none)
 | f+1,i,l,left=>match l[i]? with
   | none=>(left,some l)
   | some (x,_)=>match freeOf A x with
     | none=>catFree A f (i+1) l left
     | some y=>match addSpot y ⟨i,0,true⟩ l left with
       | none=>(left,none)
       | some (l',left')=>catFree A f (i+1) l' left'
def isTwo (B:Dfa)(x:Spot):Bool:=x.phase==2&&B.isYes x.p&&B.isYes x.q
def catFind (B:Dfa)(l:Trail):Nat→Nat→Option Nat
 | 0,_=>none
 | n+1,i=>match l[i]? with
   | none=>none
   | some (x,_)=>if isTwo B x then some i else catFind B l n (i+1)
def catBytes (A B:Dfa)(i:Nat)(x:Spot):List UInt8→Trail→Nat→Nat × Option Trail
 | [],l,left=>(left,some l)
 | h::hs,l,left=>match byOf A B x h with
   | none=>catBytes A B i x hs l left
   | some y=>match addSpot y ⟨i,h,false⟩ l left with
     | none=>(left,none)
     | some (l',left')=>catBytes A B i x hs l' left'
def catMore (A B:Dfa)(heads:List UInt8):Nat→Nat→Trail→Nat→Nat × Option Trail
 | 0,_,l,left=>(left,some l)
 | n+1,i,l,left=>match l[i]? with
   | none=>(left,some l)
   | some (x,_)=>match catBytes A B i x heads l left with
     | (left',none)=>(left',none)
     | (left',some l')=>catMore A B heads n (i+1) l' left'
def catGo (A B:Dfa)(heads:List UInt8):Nat→Nat→Trail→Nat→Nat × Option (Option Two)
 | 0,_,_,left=>(left,none)
 | f+1,from_,l,left=>if from_<l.length then
   match catFree A (left+l.length+1-from_) from_ l left with
   | (left',none)=>(left',none)
   | (left',some l')=>match catFind B l' (l'.length-from_) from_ with
     | some i=>(left',some (some (twoOf l' i)))
     | none=>match catMore A B heads (l'.length-from_) from_ l' left' with
       | (left'',none)=>(left'',none)
       | (left'',some l'')=>catGo A B heads f l'.length l'' left''
   else(left,some none)
def insB (b:UInt8):List UInt8→List UInt8
 | []=>[b]
 | x::l=>if x<b then x::insB b l else b::x::l
def sortB:List UInt8→List UInt8
 | []=>[]
 | b::l=>insB b (sortB l)
def compactB:List UInt8→List UInt8
 | []=>[]
 | b::l=>match compactB l with
   | []=>[b]
   | x::m=>if b=x then b::m else b::x::m
def catHeads (A B:Dfa):List UInt8:=compactB (sortB (A.heads++B.heads))
def ambigCat (x y:R)(left:Nat):Nat × Option (Option Two):=match build x left with
 | (l,none)=>(l,none)
 | (l,some A)=>match build y l with
   | (l,none)=>(l,none)
   | (l,some B)=>match addSpot ⟨0,0,0,false⟩ ⟨-1,0,false⟩ [] l with
     | none=>(l,none)
     | some (t,l)=>catGo A B (catHeads A B) (l+2) 0 t l
def ambigIter (x:R)(left:Nat):Nat × Option (Option Two):=
 if null x then(left,some (some ⟨[],0,0⟩)) else ambigCat x (many x) left
structure Side where
 fore:Dfa
 back:Dfa
def side (r:R)(left:Nat):Nat × Option Side:=match build r left with
 | (l,none)=>(l,none)
 | (l,some A)=>match build (back r) l with
   | (l,none)=>(l,none)
   | (l,some B)=>(l,some ⟨A,B⟩)
def headsGo (D:Dfa):Nat→List UInt8→List Bool
 | q,[]=>[D.isYes q]
 | q,b::s=>D.isYes q::headsGo D (D.step q b.toNat) s
def Side.headsOf (S:Side)(t:List UInt8):List Bool:=headsGo S.fore 0 t
def Side.tailsOf (S:Side)(t:List UInt8):List Bool:=(headsGo S.back 0 t.reverse).reverse
def places (x y:Side)(t:List UInt8):List Nat:=
 (List.range (t.length+1)).filter fun i=>(x.headsOf t).getD i false&&(y.tailsOf t).getD i false
structure Fuel where
 left:Nat
 used:Nat
deriving DecidableEq
def Fuel.burn (f:Fuel)(n:Nat):Fuel × Nat:=if f.left<n then(⟨0,f.used⟩,31) else(⟨f.left-n,f.used+n⟩,0)
end Pv
namespace Pv
theorem stateOf_mono {x:R}{all a:List R}{l l' q:Nat}(m:Nat)(h:stateOf x all l=some (a,l',q)):stateOf x all (l+m)=some (a,l'+m,q):=by
 unfold stateOf at h ⊢;split at h
 ·rename_i e;cases h;first|rfl|rw[e]
 ·rename_i e;try rw[e]
  try simp only
  split at h
  ·cases h
  ·rename_i e2;rw[if_neg e2];split at h
   ·cases h
   ·cases h;rw[if_neg (by omega)];congr 3;omega
theorem buildRow_mono {x:R}(m:Nat):∀ {hs:List UInt8} {all:List R} {l l':Nat} {row:List Nat} {res:List R × List Nat},buildRow x hs all l row=(l',some res)→buildRow x hs all (l+m) row=(l'+m,some res)
 | [],all,l,l',row,res,h=>by unfold buildRow at h ⊢;cases h;rfl
 | b::hs,all,l,l',row,res,h=>by
   unfold buildRow at h ⊢;split at h
   ·cases h
   ·rename_i e;rw[stateOf_mono m e];exact buildRow_mono m h
theorem buildGo_mono {heads:List UInt8}(m k:Nat):∀ {f q:Nat} {all:List R} {l l':Nat} {next:List (List Nat)} {res:List R × List (List Nat)},buildGo heads f q all l next=(l',some res)→buildGo heads (f+k) q all (l+m) next=(l'+m,some res)
 | 0,_,_,_,_,_,_,h=>by cases h
 | f+1,q,all,l,l',next,res,h=>by
   rw[Nat.add_right_comm];unfold buildGo at h ⊢;split at h
   ·rename_i e;cases h;first|rfl|rw[e]
   ·rename_i e;try rw[e]
    try simp only
    split at h
    ·cases h
    ·rename_i e2;rw[buildRow_mono m e2];exact buildGo_mono m k h
theorem build_mono {r:R}{l l':Nat}{D:Dfa}(m:Nat)(h:build r l=(l',some D)):build r (l+m)=(l'+m,some D):=by
 unfold build at h ⊢;simp only at h ⊢;split at h
 ·cases h
 ·rename_i e;rw[stateOf_mono m e];simp only;split at h
  ·cases h
  ·rename_i e2;cases h;rw[show l+m+2=l+2+m by omega,buildGo_mono m m e2]
theorem told_same {α:Type}{F:Nat→Nat × Option α}(hF:∀ {l l':Nat} {a:α} (m:Nat),F l=(l',some a)→F (l+m)=(l'+m,some a)){l k l' k':Nat}{a b:α}(h:F l=(l',some a))(h':F k=(k',some b)):a=b∧l+k'=k+l':=by
 rcases Nat.le_total l k with e|e
 ·have:=hF (k-l) h;rw[show l+(k-l)=k by omega,h']at this;injection this with e1 e2
  injection e2 with e2
  exact⟨e2.symm,by omega⟩
 ·have:=hF (l-k) h';rw[show k+(l-k)=l by omega,h]at this;injection this with e1 e2
  injection e2 with e2
  exact⟨e2,by omega⟩
theorem witness_mono {r:R}{l l':Nat}{a:Option (List UInt8)}(m:Nat)(h:witness r l=(l',some a)):witness r (l+m)=(l'+m,some a):=by
 unfold witness at h ⊢;split at h
 ·cases h
 ·rename_i e;cases h;rw[build_mono m e]
theorem addSpot_mono {x:Spot}{s:Step}{l l':Trail}{n n':Nat}(m:Nat)(h:addSpot x s l n=some (l',n')):addSpot x s l (n+m)=some (l',n'+m):=by
 unfold addSpot at h ⊢;split at h
 ·rename_i e;cases h;rw[if_pos e]
 ·rename_i e;rw[if_neg e];split at h
  ·cases h
  ·cases h;rw[if_neg (by omega)];congr 2;omega
theorem catFree_mono {A:Dfa}(m k:Nat):∀ {f i:Nat} {l l':Trail} {n n':Nat},catFree A f i l n=(n',some l')→catFree A (f+k) i l (n+m)=(n'+m,some l')
 | 0,_,_,_,_,_,h=>by cases h
 | f+1,i,l,l',n,n',h=>by
   rw[Nat.add_right_comm];unfold catFree at h ⊢;split at h
   ·rename_i e;cases h;first|rfl|rw[e]
   ·rename_i e;try rw[e]
    try simp only
    split at h
    ·rename_i e2;try rw[e2]
     exact catFree_mono m k h
    ·rename_i e2;try rw[e2]
     try simp only
     split at h
     ·cases h
     ·rename_i e3;rw[addSpot_mono m e3];exact catFree_mono m k h
theorem catBytes_mono {A B:Dfa}{i:Nat}{x:Spot}(m:Nat):∀ {hs:List UInt8} {l l':Trail} {n n':Nat},catBytes A B i x hs l n=(n',some l')→catBytes A B i x hs l (n+m)=(n'+m,some l')
 | [],l,l',n,n',h=>by unfold catBytes at h ⊢;cases h;rfl
 | b::hs,l,l',n,n',h=>by
   unfold catBytes at h ⊢;split at h
   ·rename_i e;try rw[e]
    exact catBytes_mono m h
   ·rename_i e;try rw[e]
    try simp only
    split at h
    ·cases h
    ·rename_i e2;rw[addSpot_mono m e2];exact catBytes_mono m h
theorem catMore_mono {A B:Dfa}{heads:List UInt8}(m:Nat):∀ {k i:Nat} {l l':Trail} {n n':Nat},catMore A B heads k i l n=(n',some l')→catMore A B heads k i l (n+m)=(n'+m,some l')
 | 0,_,_,_,_,_,h=>by unfold catMore at h ⊢;cases h;rfl
 | k+1,i,l,l',n,n',h=>by
   unfold catMore at h ⊢;split at h
   ·rename_i e;cases h;first|rfl|rw[e]
   ·rename_i e;try rw[e]
    try simp only
    split at h
    ·cases h
    ·rename_i e2;rw[catBytes_mono m e2];exact catMore_mono m h
theorem catGo_mono {A B:Dfa}{heads:List UInt8}(m k:Nat):∀ {f i:Nat} {l:Trail} {n n':Nat} {r:Option Two},catGo A B heads f i l n=(n',some r)→catGo A B heads (f+k) i l (n+m)=(n'+m,some r)
 | 0,_,_,_,_,_,h=>by cases h
 | f+1,i,l,n,n',r,h=>by
   rw[Nat.add_right_comm];unfold catGo at h ⊢;split at h
   ·rename_i hlt;rw[if_pos hlt];split at h
    ·cases h
    ·rename_i n1 l1 e;rw[show n+m+l.length+1-i=(n+l.length+1-i)+m by omega,catFree_mono m m e];simp only;split at h
     ·rename_i e2;cases h;first|rfl|rw[e2]
     ·rename_i e2;try rw[e2]
      try simp only
      split at h
      ·cases h
      ·rename_i e3;rw[catMore_mono m e3];exact catGo_mono m k h
   ·rename_i hlt;cases h;rw[if_neg (by assumption)]
theorem ambigCat_mono {x y:R}{l l':Nat}{a:Option Two}(m:Nat)(h:ambigCat x y l=(l',some a)):ambigCat x y (l+m)=(l'+m,some a):=by
 unfold ambigCat at h ⊢;split at h
 ·cases h
 ·rename_i e;rw[build_mono m e];simp only;split at h
  ·cases h
  ·rename_i e2;rw[build_mono m e2];simp only;split at h
   ·cases h
   ·rename_i e3;rw[addSpot_mono m e3];simp only;have:=catGo_mono m m h;rw[Nat.add_right_comm]at this;exact this
theorem ambigIter_mono {x:R}{l l':Nat}{a:Option Two}(m:Nat)(h:ambigIter x l=(l',some a)):ambigIter x (l+m)=(l'+m,some a):=by
 unfold ambigIter at h ⊢;split at h
 ·rename_i e;cases h;rw[if_pos e]
 ·rename_i e;rw[if_neg e];exact ambigCat_mono m h
end Pv
namespace Pv
inductive T where
 | mk (op:Nat) (at_:Int) (name:List UInt8) (re:Option R) (text back:List UInt8) (kids:List T)
instance:Inhabited T:=⟨.mk 0 0 [] none [] [] []⟩
namespace T
def op:T→Nat|mk o .. => o
def at_:T→Int|mk _ a .. => a
def name:T→List UInt8|mk _ _ n .. => n
def re:T→Option R|mk _ _ _ r .. => r
def text:T→List UInt8|mk _ _ _ _ t _ _=>t
def back:T→List UInt8|mk _ _ _ _ _ b _=>b
def kids:T→List T|mk _ _ _ _ _ _ k=>k
end T
mutual
def tsize:T→Nat
 | .mk _ _ _ _ _ _ ks=>1+tsizes ks
def tsizes:List T→Nat
 | []=>0
 | t::ts=>tsize t+tsizes ts
end
def sameO:Option R→Option R→Bool
 | none,none=>true
 | some a,some b=>same a b
 | _,_=>false
def shapedOf (op:Nat)(re:Bool)(n:Nat):Bool:=
 if op=1∨op=2∨op=3∨op=4∨op=5∨op=16∨op=17 then re&&n==0
 else if op=6 then n==0
 else if op=7∨op=8∨op=11∨op=10∨op=14∨op=15 then n==2
 else if op=9∨op=12∨op=13 then n==1
 else false
structure Fault where
 e:Nat:=0
 op:Nat:=0
 at_:Int:=0
 view:Bool:=false
 text:List UInt8:=[]
 i:Int:=0
 j:Int:=0
deriving DecidableEq
structure Ck where
 left:Nat
 fault:Fault:={}
deriving DecidableEq
def Ck.ok (c:Ck):Bool:=c.fault.e==0
def Ck.fail (c:Ck)(e:Nat)(t:Option T)(view:Bool)(text:List UInt8):Ck:=
 if c.ok then { c with fault:={ e:=e,op:=(t.map T.op).getD 0,at_:=(t.map T.at_).getD 0,view:=view,text:=text } } else c
def Ck.told (c:Ck)(fault:Nat)(t:T)(view:Bool)(r:Nat × Option (Option (List UInt8))):Ck × Bool:=
 match r with
 | (l,none)=>({ left:=l,fault:=if c.ok then { e:=5 } else c.fault },false)
 | (l,some none)=>({ c with left:=l },true)
 | (l,some (some w))=>(({ c with left:=l }:Ck).fail fault (some t) view w,false)
def Ck.apart (c:Ck)(t:T)(view:Bool)(x y:R):Ck × Bool:=if c.ok then c.told 22 t view (shared x y c.left) else(c,false)
def Ck.within (c:Ck)(t:T)(text:List UInt8)(x:R):Ck × Bool:=
 if c.ok then(if matchR text x then(c,true) else(c.fail 23 (some t) false text,false)) else(c,false)
def Ck.two (c:Ck)(fault:Nat)(t:T)(view:Bool)(r:Nat × Option (Option Two)):Ck × Bool:=
 match r with
 | (l,none)=>({ left:=l,fault:=if c.ok then { e:=5 } else c.fault },false)
 | (l,some none)=>({ c with left:=l },true)
 | (l,some (some w))=>let d:=({ c with left:=l }:Ck).fail fault (some t) view w.text
   ({ d with fault:={ d.fault with i:=w.i,j:=w.j } },false)
def Ck.splits (c:Ck)(t:T)(view:Bool)(x y:R):Ck × Bool:=if c.ok then c.two 20 t view (ambigCat x y c.left) else(c,false)
def Ck.iterates (c:Ck)(t:T)(view:Bool)(x:R):Ck × Bool:=if c.ok then c.two 21 t view (ambigIter x c.left) else(c,false)
def Ck.side (c:Ck)(r:R):Ck × Option Side:=
 if c.ok then(match Pv.side r c.left with
  | (l,none)=>({ left:=l,fault:={ e:=5 } },none)
  | (l,some s)=>({ c with left:=l },some s))
 else(c,none)
def Ck.both (a:Ck × Bool)(f:Ck→Ck × Bool):Ck × Bool:=if a.2 then f a.1 else a
inductive C where
 | mk (term:T) (whole core:R) (kids:List C) (ws cs:Side)
namespace C
def term:C→T|mk t .. => t
def whole:C→R|mk _ w .. => w
def core:C→R|mk _ _ c .. => c
def kids:C→List C|mk _ _ _ k _ _=>k
def ws:C→Side|mk _ _ _ _ s _=>s
def cs:C→Side|mk _ _ _ _ _ s=>s
end C
def nth (l:List C)(i:Nat):R × R:=match l[i]? with|some c=>(c.whole,c.core)|none=>(nothing,nothing)
def ctypes (t:T)(kids:List C)(c:Ck):(Ck × Bool) × R × R:=
 let r:=t.re.getD nothing
 if t.op=16 then((c,true),r,r)
 else if t.op=17 then(c.within t t.text r,r,word t.text)
 else
  let k:=nth kids 0
  if t.op=9 then(Ck.both (c.iterates t false k.1) (·.iterates t true k.2),many k.1,many k.2)
  else
   let l:=nth kids 1
   if t.op=7 then(c.apart t false k.1 l.1,any [k.1,l.1],any [k.2,l.2])
   else(Ck.both (c.splits t false k.1 l.1) (·.splits t true k.2 l.2),cat [k.1,l.1],cat [k.2,l.2])
def isCanonOp (op:Nat):Bool:=op==16||op==17||op==7||op==8||op==9
def canonEnd (t:T)(kids:List C)(c:Ck):Ck × Option C:=
 match ctypes t kids c with
 | ((c,false),_,_)=>(c,none)
 | ((c,true),w,k)=>
   let a:=c.side w;let b:=a.1.side k
   match a.2,b.2 with
   | some ws,some cs=>(b.1,some (.mk t w k kids ws cs))
   | _,_=>(b.1,none)
mutual
def canonOf:T→Ck→Ck × Option C
 | .mk op a n r tx bk ks,c=>
   if !(shapedOf op r.isSome ks.length) || !(isCanonOp op) then(c.fail 8 (some (.mk op a n r tx bk ks)) false [],none)
   else match canonsOf ks c with
    | (c,none)=>(c,none)
    | (c,some kids)=>canonEnd (.mk op a n r tx bk ks) kids c
def canonsOf:List T→Ck→Ck × Option (List C)
 | [],c=>(c,some [])
 | t::ts,c=>match canonOf t c with
   | (c,none)=>(c,none)
   | (c,some k)=>match canonsOf ts c with
     | (c,none)=>(c,none)
     | (c,some l)=>(c,some (k::l))
end
end Pv
namespace Pv
mutual
def beqR:R→R→Bool
 | .mk o s ks,.mk o' s' ks'=>o==o'&&decide (s=s')&&beqRs ks ks'
def beqRs:List R→List R→Bool
 | [],[]=>true
 | a::as,b::bs=>beqR a b&&beqRs as bs
 | _,_=>false
end
mutual
theorem beqR_eq:∀ {a b:R},beqR a b=true→a=b
 | .mk o s ks,.mk o' s' ks',h=>by simp only[beqR,Bool.and_eq_true,beq_iff_eq,decide_eq_true_eq]at h;obtain⟨⟨rfl,rfl⟩,h⟩:=h;rw[beqRs_eq h]
theorem beqRs_eq:∀ {a b:List R},beqRs a b=true→a=b
 | [],[],_=>rfl
 | [],_::_,h=>by simp[beqRs]at h
 | _::_,[],h=>by simp[beqRs]at h
 | a::as,b::bs,h=>by simp only[beqRs,Bool.and_eq_true]at h;rw[beqR_eq h.1,beqRs_eq h.2]
end
def inL (L:List R)(r:R):Bool:=L.any (beqR r)
theorem inL_mem {L:List R}{r:R}(h:inL L r=true):r∈L:=by unfold inL at h;obtain⟨x,h1,h2⟩:=List.any_eq_true.1 h;rw[beqR_eq h2];exact h1
def closedL (L:List R):Bool:=(List.range 256).all fun c=>L.all fun r=>inL L (by_ (UInt8.ofNat c) r)
theorem closedL_by {L:List R}(h:closedL L=true){r:R}(c:UInt8)(hr:r∈L):by_ c r∈L:=by unfold closedL at h;have h1:=List.all_eq_true.1 h c.toNat (List.mem_range.2 c.toNat_lt);have h2:=List.all_eq_true.1 h1 r hr;rw[UInt8.ofNat_toNat]at h2;exact inL_mem h2
end Pv
namespace Pv
def exL:List R:=[word [97],word [98],word [99],word [59],one (S4.of [97,98]),many (word [97]),many (one (S4.of [97,98])),cat [word [97],many (word [98])],cat [one (S4.of [97,98]),many (one (S4.of [97,98]))],any [word [97],word [99,99]],empty,cat [many (one (S4.of [97,98])),word [59]]]
def exIx (n:Int):Nat:=((n % 18446744073709551616) % 12).toNat
theorem exIx_lt (n:Int):exIx n<12:=by unfold exIx;omega
def exOf (n:Int):R:=exL.getD (exIx n) nothing
theorem exOf_mem (n:Int):exOf n∈exL:=by unfold exOf;have h:=exIx_lt n;have h2:exIx n<exL.length:=h;rw[List.getD_eq_getElem?_getD,List.getElem?_eq_getElem h2];exact List.getElem_mem h2
end Pv
namespace Pv
inductive P10 where
 | mk (op w n:Int) (kids:List P10)
instance:Inhabited P10:=⟨.mk 0 0 0 []⟩
namespace P10
def op:P10→Int|mk o .. => o
def w:P10→Int|mk _ w .. => w
def n:P10→Int|mk _ _ n _=>n
def kids:P10→List P10|mk _ _ _ k=>k
mutual
def nodes:P10→Nat
 | .mk _ _ _ ks=>1+nodesL ks
def nodesL:List P10→Nat
 | []=>0
 | k::ks=>nodes k+nodesL ks
end
theorem nodes_pos (p:P10):1≤nodes p:=by cases p;unfold nodes;omega
theorem nodes_get:∀ {ks:List P10} {i:Nat} (h:i<ks.length),nodes ks[i]≤nodesL ks
 | k::ks,0,_=>by simp only[List.getElem_cons_zero,nodesL];omega
 | k::ks,i+1,h=>by have:=nodes_get (ks:=ks) (i:=i) (by simpa using h);simp only[List.getElem_cons_succ,nodesL];omega
theorem nodes_get2:∀ {ks:List P10} (h:1<ks.length),nodes ks[0]+nodes ks[1]≤nodesL ks
 | a::b::ks,_=>by simp only[List.getElem_cons_zero,List.getElem_cons_succ,nodesL];omega
end P10
theorem tsizes_get:∀ {ks:List T} {i:Nat} (h:i<ks.length),tsize ks[i]≤tsizes ks
 | k::ks,0,_=>by simp only[List.getElem_cons_zero,tsizes];omega
 | k::ks,i+1,h=>by have:=tsizes_get (ks:=ks) (i:=i) (by simpa using h);simp only[List.getElem_cons_succ,tsizes];omega
end Pv
