/- Plain Lean: sets of bytes, expressions and what is done with them. No program, no memory. -/

set_option linter.all false
namespace Pv

/-- a set of bytes, as four words -/
structure S4 where
  a : BitVec 64
  b : BitVec 64
  c : BitVec 64
  d : BitVec 64
deriving DecidableEq

/-- all bits turned (under a name of its own, that simp leaves alone) -/
def inv (x : BitVec 64) : BitVec 64 := ~~~x
def nand (x y : BitVec 64) : BitVec 64 := x &&& ~~~y

/-- a digit to the base 36 -/
def dig36 (k : Nat) : UInt8 := if k < 10 then UInt8.ofNat (48 + k) else UInt8.ofNat (87 + k)

namespace S4
def word (s : S4) (k : Nat) : BitVec 64 := if k = 0 then s.a else if k = 1 then s.b else if k = 2 then s.c else s.d
def map2 (F : BitVec 64 → BitVec 64 → BitVec 64) (s t : S4) : S4 := ⟨F s.a t.a, F s.b t.b, F s.c t.c, F s.d t.d⟩
def zero : S4 := ⟨0, 0, 0, 0⟩
def and (s t : S4) : S4 := map2 (· &&& ·) s t
def or (s t : S4) : S4 := map2 (· ||| ·) s t
def minus (s t : S4) : S4 := map2 nand s t
def not (s : S4) : S4 := map2 (fun x _ => inv x) s s
def all : S4 := not zero
def has (s : S4) (b : Nat) : Bool := (s.word (b / 64)).getLsbD (b % 64)
def isEmpty (s : S4) : Bool := decide (s = zero)
/-- the set with a byte more -/
def setWord (s : S4) (k : Nat) (x : BitVec 64) : S4 :=
  if k = 0 then { s with a := x } else if k = 1 then { s with b := x } else if k = 2 then { s with c := x } else { s with d := x }
def add (s : S4) (b : Nat) : S4 := s.setWord (b / 64) (s.word (b / 64) ||| ((1 : BitVec 64) <<< (b % 64)))
def of (l : List UInt8) : S4 := l.foldl (fun s b => s.add b.toNat) zero
/-- the least byte from b on -/
def leastFrom (s : S4) : Nat → Nat → Option Nat
  | 0, _ => none
  | n + 1, b => if s.has b then some b else leastFrom s n (b + 1)
def least (s : S4) : Option Nat := leastFrom s 256 0
end S4

/-! ### Expressions -/

/-- an expression: what it is (0 None, 1 Eps, 2 Class, 3 Cat, 4 Or, 5 Star, 6 And, 7 Minus), its set, its parts -/
inductive R where
  | mk (op : Nat) (set : S4) (kids : List R)
instance : Inhabited R := ⟨.mk 0 S4.zero []⟩

namespace R
def op : R → Nat | mk o _ _ => o
def set : R → S4 | mk _ s _ => s
def kids : R → List R | mk _ _ k => k
end R

/-- digits to the base 36 -/
def dg36Go : Nat → Nat → List UInt8 → List UInt8
  | 0, _, acc => acc
  | f + 1, u, acc => if 36 ≤ u then dg36Go f (u / 36) (dig36 (u % 36) :: acc) else dig36 u :: acc
def digits36 (u : Nat) : List UInt8 := dg36Go 14 u []

/-- the words of a class, as parts of its key -/
def wordParts (op : Nat) (s : S4) : List (List UInt8) :=
  if op = 2 then [digits36 s.a.toNat, digits36 s.b.toNat, digits36 s.c.toNat, digits36 s.d.toNat] else []
/-- parts, a blank between -/
def joined : List (List UInt8) → List UInt8
  | [] => []
  | x :: r => x ++ (r.map (32 :: ·)).flatten
mutual
def key : R → List UInt8
  | .mk op s ks => 40 :: (joined ([UInt8.ofNat (48 + op)] :: (wordParts op s ++ keys ks)) ++ [41])
def keys : List R → List (List UInt8)
  | [] => []
  | r :: rs => key r :: keys rs
end
mutual
def size : R → Nat
  | .mk _ _ ks => 1 + sizes ks
def sizes : List R → Nat
  | [] => 0
  | r :: rs => size r + sizes rs
end
/-- whether there is the empty text, by that of the parts -/
def nullOf (op : Nat) (bs : List Bool) : Bool :=
  if op = 1 ∨ op = 5 then true else if op = 3 ∨ op = 6 then bs.all id else if op = 4 then bs.any id
  else if op = 7 then bs.getD 0 false && !bs.getD 1 false else false
mutual
def null : R → Bool
  | .mk op _ ks => nullOf op (nulls ks)
def nulls : List R → List Bool
  | [] => []
  | r :: rs => null r :: nulls rs
end
mutual
/-- as they are made: a set only where there is one byte -/
def WF : R → Prop
  | .mk op s ks => op ≤ 7 ∧ (op ≠ 2 → s = S4.zero) ∧ (op = 3 ∨ op = 5 → ks ≠ []) ∧ WFs ks
def WFs : List R → Prop
  | [] => True
  | r :: rs => WF r ∧ WFs rs
end
theorem keys_map (l : List R) : keys l = l.map key := by induction l with | nil => rfl | cons r l ih => simp [keys, ih]
theorem sizes_sum (l : List R) : sizes l = (l.map size).sum := by induction l with | nil => rfl | cons r l ih => simp [sizes, ih]
theorem nulls_map (l : List R) : nulls l = l.map null := by induction l with | nil => rfl | cons r l ih => simp [nulls, ih]

/-! ### What makes expressions -/
def nothing : R := .mk 0 .zero []
def empty : R := .mk 1 .zero []
def one (s : S4) : R := if s.isEmpty then nothing else .mk 2 s []
def flat (op : Nat) (l : List R) : List R := l.flatMap fun r => if r.op = op then r.kids else [r]
/-- what is made of parts that are flat and not Eps -/
def thenOf (all : List R) : R :=
  if all.any (fun r => r.op == 0) then nothing else match all with
    | [] => empty
    | [x] => x
    | _ => .mk 3 .zero all
def cat (l : List R) : R := thenOf ((flat 3 l).filter fun r => !(r.op == 1))
def word (l : List UInt8) : R := cat (l.map fun b => one (S4.of [b]))
def many (r : R) : R := if r.op = 0 ∨ r.op = 1 then empty else if r.op = 5 then r else .mk 5 .zero [r]
def same (a b : R) : Bool := key a == key b
def but (a b : R) : R :=
  if a.op = 0 ∨ same a b = true then nothing else if b.op = 0 then a
  else if a.op = 2 ∧ b.op = 2 then one (a.set.minus b.set) else .mk 7 .zero [a, b]
/-- is a key ahead of another one, byte by byte? -/
def keyLt : List UInt8 → List UInt8 → Bool
  | [], [] => false
  | [], _ :: _ => true
  | _ :: _, [] => false
  | a :: x, b :: y => if a < b then true else if b < a then false else keyLt x y
def ins (r : R) : List R → List R
  | [] => [r]
  | x :: l => if keyLt (key x) (key r) then x :: ins r l else r :: x :: l
def isort : List R → List R
  | [] => []
  | r :: l => ins r (isort l)
/-- alike ones beside one another once -/
def compact : List R → List R
  | [] => []
  | r :: l => match compact l with
    | [] => [r]
    | x :: m => if same r x then r :: m else r :: x :: m
def unique (l : List R) : List R := compact (isort l)
/-- the sets of those of one byte made one; 'some none': they have no byte together -/
def joinGo (f : S4 → S4 → S4) : List R → List R → Option R → List R
  | [], out, o => unique (out ++ o.toList)
  | r :: l, out, o =>
    if r.op = 2 then match o with
      | none => joinGo f l out (some r)
      | some x => let y := one (f x.set r.set); if y.op = 0 then out ++ [y] else joinGo f l out (some y)
    else joinGo f l (out ++ [r]) o
def join (op : Nat) (l : List R) (f : S4 → S4 → S4) : List R := joinGo f (flat op l) [] none
def anyOf (all : List R) : R := match all with
  | [] => nothing
  | [x] => x
  | _ => .mk 4 .zero all
def any (l : List R) : R := anyOf ((join 4 l S4.or).filter fun r => !(r.op == 0))
def bothOf (all : List R) : R :=
  if all.any (fun r => r.op == 0) then nothing else match all with
    | [] => many (one S4.all)
    | [x] => x
    | _ => .mk 6 .zero all
def both (l : List R) : R := bothOf (join 6 l S4.and)
/-- an expression like one, of other parts -/
def withKids (r : R) (ks : List R) : R :=
  if r.op = 3 then cat ks else if r.op = 4 then any ks else if r.op = 6 then both ks
  else if r.op = 5 then (match ks with | [k] => many k | _ => r)
  else if r.op = 7 then (match ks with | [a, b] => but a b | _ => r) else r
mutual
def back : R → R
  | .mk op s [] => .mk op s []
  | .mk op s (k :: ks) => withKids (.mk op s (k :: ks)) (if op = 3 then (backs (k :: ks)).reverse else backs (k :: ks))
def backs : List R → List R
  | [] => []
  | r :: rs => back r :: backs rs
end

/-! ### Derivatives -/
/-- what stands behind a byte; so many steps down at most -/
def byF : Nat → UInt8 → R → R
  | 0, _, _ => nothing
  | n + 1, c, r =>
    if r.op = 2 then (if r.set.has c.toNat then empty else nothing)
    else if r.op = 3 then (match r.kids with
      | [] => nothing
      | k :: rest => if null k then any [cat [byF n c k, cat rest], byF n c (cat rest)] else cat [byF n c k, cat rest])
    else if r.op = 5 then (match r.kids with
      | [] => nothing
      | k :: _ => cat [byF n c k, r])
    else if r.op = 4 ∨ r.op = 6 ∨ r.op = 7 then withKids r (r.kids.map (byF n c))
    else nothing
def by_ (c : UInt8) (r : R) : R := byF (size r) c r
/-- is a text one of an expression's? -/
def matchR : List UInt8 → R → Bool
  | [], r => null r
  | c :: s, r => let d := by_ c r; if d.op = 0 then false else matchR s d
end Pv
namespace Pv
def refineStep (parts : List S4) (s : S4) : List S4 := parts.flatMap fun p => [p.and s, p.minus s].filter fun q => !q.isEmpty
/-- from byte b on, so many bytes -/
def sortedGo (parts : List S4) : Nat → Nat → List S4 → S4 → List S4
  | 0, _, out, _ => out
  | n + 1, b, out, seen =>
    if seen.has b then sortedGo parts n (b + 1) out seen
    else match parts.find? (fun p => p.has b) with
      | some p => sortedGo parts n (b + 1) (out ++ [p]) (seen.or p)
      | none => sortedGo parts n (b + 1) out seen
def sortedParts (parts : List S4) : List S4 := sortedGo parts 256 0 [] S4.zero
def refine (l : List S4) : List S4 := sortedParts (l.foldl refineStep [S4.all])
/-- in which part a byte is; a later one wins -/
def indexOf (parts : List S4) (b : Nat) : Nat := (parts.zipIdx.foldl (fun k x => if x.1.has b then x.2 else k) 0) % 256
mutual
def allSets : R → List S4
  | .mk op s ks => if op = 2 then [s] else allSetsL ks
def allSetsL : List R → List S4
  | [] => []
  | r :: rs => allSets r ++ allSetsL rs
end

/-! ### States -/
/-- states: of each expression that stands behind bytes one -/
structure Dfa where
  parts : List S4
  next : List (List Nat)
  yes : List Bool
namespace Dfa
def head (p : S4) : UInt8 := UInt8.ofNat (p.least.getD 0)
def heads (D : Dfa) : List UInt8 := D.parts.map head
def len (D : Dfa) : Nat := D.yes.length
def at_ (D : Dfa) (b : Nat) : Nat := indexOf D.parts b
def step (D : Dfa) (q b : Nat) : Nat := (D.next.getD q []).getD (D.at_ b) 0
def isYes (D : Dfa) (q : Nat) : Bool := D.yes.getD q false
def run (D : Dfa) (q : Nat) (s : List UInt8) : Nat := s.foldl (fun q b => D.step q b.toNat) q
def accepts (D : Dfa) (s : List UInt8) : Bool := D.isYes (D.run 0 s)
/-- as they are made -/
structure Ok (D : Dfa) : Prop where
  len : D.next.length = D.yes.length
  pos : 0 < D.yes.length
  row : ∀ row ∈ D.next, row.length = D.parts.length ∧ ∀ to ∈ row, to < D.yes.length
  pp : 0 < D.parts.length
  p256 : D.parts.length ≤ 256
end Dfa
def findKey (k : List UInt8) : List R → Nat → Option Nat
  | [], _ => none
  | r :: l, i => if key r = k then some i else findKey k l (i + 1)
/-- of how many parts an expression behind bytes may be -/
abbrev most : Nat := 20000
/-- the state of an expression: known, or new by the budget: the states, what is left, its number; none: too many -/
def stateOf (x : R) (all : List R) (left : Nat) : Option (List R × Nat × Nat) :=
  match findKey (key x) all 0 with
  | some q => some (all, left, q)
  | none => if most < size x then none else if left = 0 then none else some (all ++ [x], left - 1, all.length)
/-- where the heads lead from an expression: what is left, and, if that was enough, the states and the row -/
def buildRow (x : R) : List UInt8 → List R → Nat → List Nat → Nat × Option (List R × List Nat)
  | [], all, left, row => (left, some (all, row))
  | h :: hs, all, left, row => match stateOf (by_ h x) all left with
    | none => (left, none)
    | some (all', left', q) => buildRow x hs all' left' (row ++ [q])
def buildGo (heads : List UInt8) : Nat → Nat → List R → Nat → List (List Nat) → Nat × Option (List R × List (List Nat))
  | 0, _, _, left, _ => (left, none)
  | f + 1, q, all, left, next => match all[q]? with
    | none => (left, some (all, next))
    | some x => match buildRow x heads all left [] with
      | (left', none) => (left', none)
      | (left', some (all', row)) => buildGo heads f (q + 1) all' left' (next ++ [row])
def build (r : R) (left : Nat) : Nat × Option Dfa :=
  let parts := refine (allSets r)
  match stateOf r [] left with
  | none => (left, none)
  | some (all, left', _) => match buildGo (parts.map Dfa.head) (left + 2) 0 all left' [] with
    | (l, none) => (l, none)
    | (l, some (all, next)) => (l, some ⟨parts, next, all.map null⟩)

/-! ### From where a text can be reached -/
def aliveCell (q : Nat) (st : List Bool × Bool) (to : Nat) : List Bool × Bool :=
  if !st.1.getD q false && st.1.getD to false then (st.1.set q true, true) else st
def aliveRow (q : Nat) (row : List Nat) (st : List Bool × Bool) : List Bool × Bool := row.foldl (aliveCell q) st
def alivePass : List (List Nat) → Nat → List Bool × Bool → List Bool × Bool
  | [], _, st => st
  | row :: rest, q, st => alivePass rest (q + 1) (aliveRow q row st)
def aliveGo (next : List (List Nat)) : Nat → List Bool → List Bool
  | 0, live => live
  | f + 1, live => let st := alivePass next 0 (live, false); if st.2 then aliveGo next f st.1 else st.1
def Dfa.live (D : Dfa) : List Bool := aliveGo D.next (D.yes.length + 1) D.yes
def Dfa.isLive (D : Dfa) (q : Nat) : Bool := D.live.getD q false

/-! ### The least text -/
/-- how states were come to: each with where from, and by which byte -/
abbrev Came := List (Nat × Int × UInt8)
def cameOf (c : Came) (q : Nat) : Int × UInt8 := match c.find? (fun x => x.1 == q) with | some x => x.2 | none => (0, 0)
def textTo (c : Came) : Nat → Nat → List UInt8 → List UInt8
  | 0, _, out => out
  | f + 1, q, out => if q = 0 then out else textTo c f (cameOf c q).1.toNat ((cameOf c q).2 :: out)
def shortStep (D : Dfa) (q : Nat) (c : Came) (h : UInt8) : Came :=
  let to := D.step q h.toNat
  if c.any (fun x => x.1 == to) then c else c ++ [(to, (q : Int), h)]
def shortGo (D : Dfa) : Nat → Nat → Came → Option (List UInt8)
  | 0, _, _ => none
  | f + 1, i, c => match c[i]? with
    | none => none
    | some x => if D.isYes x.1 then some (textTo c (D.yes.length + 1) x.1 []) else shortGo D f (i + 1) (D.heads.foldl (shortStep D x.1) c)
def shortest (D : Dfa) : Option (List UInt8) := shortGo D (D.yes.length + 1) 0 [(0, -1, 0)]
/-- the least text of an expression: what is left; none: too many states -/
def witness (r : R) (left : Nat) : Nat × Option (Option (List UInt8)) := match build r left with
  | (l, none) => (l, none)
  | (l, some D) => (l, some (shortest D))
def shared (x y : R) (left : Nat) := witness (both [x, y]) left
def unlike (x y : R) (left : Nat) := witness (any [but x y, but y x]) left

/-! ### Texts that can be split in two ways -/
/-- where a text has come to: phase 0 ahead of both places, 1 between, 2 behind -/
structure Spot where
  phase : Nat
  p : Nat
  q : Nat
  moved : Bool
deriving DecidableEq
structure Step where
  from_ : Int
  by_ : UInt8
  free : Bool
deriving DecidableEq
abbrev Trail := List (Spot × Step)
def addSpot (x : Spot) (s : Step) (l : Trail) (left : Nat) : Option (Trail × Nat) :=
  if l.any (fun y => y.1 == x) then some (l, left) else if left = 0 then none else some (l ++ [(x, s)], left - 1)
def freeOf (A : Dfa) (x : Spot) : Option Spot :=
  if x.phase = 0 ∧ A.isYes x.p = true then some ⟨1, x.p, 0, false⟩
  else if x.phase = 1 ∧ x.moved = true ∧ A.isYes x.p = true then some ⟨2, x.q, 0, false⟩
  else none
def byOf (A B : Dfa) (x : Spot) (b : UInt8) : Option Spot :=
  if x.phase = 0 then (let p := A.step x.p b.toNat; if A.isLive p then some ⟨0, p, 0, false⟩ else none)
  else if x.phase = 1 then (let p := A.step x.p b.toNat; let q := B.step x.q b.toNat; if A.isLive p && B.isLive q then some ⟨1, p, q, true⟩ else none)
  else (let p := B.step x.p b.toNat; let q := B.step x.q b.toNat; if B.isLive p && B.isLive q then some ⟨2, p, q, false⟩ else none)
structure Two where
  text : List UInt8
  i : Int
  j : Int
deriving DecidableEq
/-- back along a trail: bytes from the last one on, places -/
def twoGo (l : Trail) : Nat → Nat → List UInt8 → List Nat → List UInt8 × List Nat
  | 0, _, out, places => (out, places)
  | f + 1, i, out, places => match l[i]? with
    | none => (out, places)
    | some (_, s) => if s.from_ < 0 then (out, places)
      else if s.free then twoGo l f s.from_.toNat out (places ++ [out.length])
      else twoGo l f s.from_.toNat (out ++ [s.by_]) places
def twoOf (l : Trail) (i : Nat) : Two :=
  let r := twoGo l (l.length + 1) i [] []
  ⟨r.1.reverse, (r.1.length : Int) - (r.2.getD 1 0 : Nat), (r.1.length : Int) - (r.2.getD 0 0 : Nat)⟩
/-- all places from spot i on: the trail, what is left -/
def catFree (A : Dfa) : Nat → Nat → Trail → Nat → Nat × Option Trail
  | 0, _, _, left => (left, none)
  | f + 1, i, l, left => match l[i]? with
    | none => (left, some l)
    | some (x, _) => match freeOf A x with
      | none => catFree A f (i + 1) l left
      | some y => match addSpot y ⟨i, 0, true⟩ l left with
        | none => (left, none)
        | some (l', left') => catFree A f (i + 1) l' left'
def isTwo (B : Dfa) (x : Spot) : Bool := x.phase == 2 && B.isYes x.p && B.isYes x.q
def catFind (B : Dfa) (l : Trail) : Nat → Nat → Option Nat
  | 0, _ => none
  | n + 1, i => match l[i]? with
    | none => none
    | some (x, _) => if isTwo B x then some i else catFind B l n (i + 1)
def catBytes (A B : Dfa) (i : Nat) (x : Spot) : List UInt8 → Trail → Nat → Nat × Option Trail
  | [], l, left => (left, some l)
  | h :: hs, l, left => match byOf A B x h with
    | none => catBytes A B i x hs l left
    | some y => match addSpot y ⟨i, h, false⟩ l left with
      | none => (left, none)
      | some (l', left') => catBytes A B i x hs l' left'
/-- one byte more, from so many spots -/
def catMore (A B : Dfa) (heads : List UInt8) : Nat → Nat → Trail → Nat → Nat × Option Trail
  | 0, _, l, left => (left, some l)
  | n + 1, i, l, left => match l[i]? with
    | none => (left, some l)
    | some (x, _) => match catBytes A B i x heads l left with
      | (left', none) => (left', none)
      | (left', some l') => catMore A B heads n (i + 1) l' left'
def catGo (A B : Dfa) (heads : List UInt8) : Nat → Nat → Trail → Nat → Nat × Option (Option Two)
  | 0, _, _, left => (left, none)
  | f + 1, from_, l, left => if from_ < l.length then
      match catFree A (left + l.length + 1 - from_) from_ l left with
      | (left', none) => (left', none)
      | (left', some l') => match catFind B l' (l'.length - from_) from_ with
        | some i => (left', some (some (twoOf l' i)))
        | none => match catMore A B heads (l'.length - from_) from_ l' left' with
          | (left'', none) => (left'', none)
          | (left'', some l'') => catGo A B heads f l'.length l'' left''
    else (left, some none)
/-- bytes in order, alike ones once -/
def insB (b : UInt8) : List UInt8 → List UInt8
  | [] => [b]
  | x :: l => if x < b then x :: insB b l else b :: x :: l
def sortB : List UInt8 → List UInt8
  | [] => []
  | b :: l => insB b (sortB l)
def compactB : List UInt8 → List UInt8
  | [] => []
  | b :: l => match compactB l with
    | [] => [b]
    | x :: m => if b = x then b :: m else b :: x :: m
def catHeads (A B : Dfa) : List UInt8 := compactB (sortB (A.heads ++ B.heads))
def ambigCat (x y : R) (left : Nat) : Nat × Option (Option Two) := match build x left with
  | (l, none) => (l, none)
  | (l, some A) => match build y l with
    | (l, none) => (l, none)
    | (l, some B) => match addSpot ⟨0, 0, 0, false⟩ ⟨-1, 0, false⟩ [] l with
      | none => (l, none)
      | some (t, l) => catGo A B (catHeads A B) (l + 2) 0 t l
/-! ### Sides -/
structure Side where
  fore : Dfa
  back : Dfa
def side (r : R) (left : Nat) : Nat × Option Side := match build r left with
  | (l, none) => (l, none)
  | (l, some A) => match build (back r) l with
    | (l, none) => (l, none)
    | (l, some B) => (l, some ⟨A, B⟩)
def headsGo (D : Dfa) : Nat → List UInt8 → List Bool
  | q, [] => [D.isYes q]
  | q, b :: s => D.isYes q :: headsGo D (D.step q b.toNat) s
def Side.headsOf (S : Side) (t : List UInt8) : List Bool := headsGo S.fore 0 t
def Side.tailsOf (S : Side) (t : List UInt8) : List Bool := (headsGo S.back 0 t.reverse).reverse
def places (x y : Side) (t : List UInt8) : List Nat :=
  (List.range (t.length + 1)).filter fun i => (x.headsOf t).getD i false && (y.tailsOf t).getD i false
/-- what is left, and used -/
structure Fuel where
  left : Nat
  used : Nat
deriving DecidableEq
def Fuel.burn (f : Fuel) (n : Nat) : Fuel × Nat := if f.left < n then (⟨0, f.used⟩, 31) else (⟨f.left - n, f.used + n⟩, 0)
end Pv
namespace Pv
end Pv
namespace Pv
/-- a term: what it is (0 Name, 1 Re, 2 Copy, 3 Key, 4 Const, 5 Del, 6 Ins, 7 Or, 8 Cat, 9 Star, 10 Swap, 11 Seq, 12 Inv, 13 Dict, 14 Left, 15 Right, 16 Keep, 17 Norm), where, ... -/
inductive T where
  | mk (op : Nat) (at_ : Int) (name : List UInt8) (re : Option R) (text back : List UInt8) (kids : List T)
instance : Inhabited T := ⟨.mk 0 0 [] none [] [] []⟩
namespace T
def op : T → Nat | mk o .. => o
def at_ : T → Int | mk _ a .. => a
def name : T → List UInt8 | mk _ _ n .. => n
def re : T → Option R | mk _ _ _ r .. => r
def text : T → List UInt8 | mk _ _ _ _ t _ _ => t
def back : T → List UInt8 | mk _ _ _ _ _ b _ => b
def kids : T → List T | mk _ _ _ _ _ _ k => k
end T
mutual
def tsize : T → Nat
  | .mk _ _ _ _ _ _ ks => 1 + tsizes ks
def tsizes : List T → Nat
  | [] => 0
  | t :: ts => tsize t + tsizes ts
end
mutual
def weight : T → Nat
  | .mk _ _ _ _ tx bk ks => 1 + tx.length + bk.length + weights ks
def weights : List T → Nat
  | [] => 0
  | t :: ts => weight t + weights ts
end
/-- has a term as many parts as it must, and its expression? -/
def shapedOf (op : Nat) (re : Bool) (n : Nat) : Bool :=
  if op = 1 ∨ op = 2 ∨ op = 3 ∨ op = 4 ∨ op = 5 ∨ op = 16 ∨ op = 17 then re && n == 0
  else if op = 6 then n == 0
  else if op = 7 ∨ op = 8 ∨ op = 11 ∨ op = 10 ∨ op = 14 ∨ op = 15 then n == 2
  else if op = 9 ∨ op = 12 ∨ op = 13 then n == 1
  else false
structure Fault where
  e : Nat := 0
  op : Nat := 0
  at_ : Int := 0
  view : Bool := false
  text : List UInt8 := []
  i : Int := 0
  j : Int := 0
deriving DecidableEq
/-- a Checker: what is left of its budget, its fault -/
structure Ck where
  left : Nat
  fault : Fault := {}
deriving DecidableEq
def Ck.ok (c : Ck) : Bool := c.fault.e == 0
def Ck.fail (c : Ck) (e : Nat) (t : Option T) (view : Bool) (text : List UInt8) : Ck :=
  if c.ok then { c with fault := { e := e, op := (t.map T.op).getD 0, at_ := (t.map T.at_).getD 0, view := view, text := text } } else c
/-- a layer's answer: none: its budget was too small -/
def Ck.told (c : Ck) (fault : Nat) (t : T) (view : Bool) (r : Nat × Option (Option (List UInt8))) : Ck × Bool :=
  match r with
  | (l, none) => ({ left := l, fault := if c.ok then { e := 5 } else c.fault }, false)
  | (l, some none) => ({ c with left := l }, true)
  | (l, some (some w)) => (({ c with left := l } : Ck).fail fault (some t) view w, false)
def Ck.apart (c : Ck) (t : T) (view : Bool) (x y : R) : Ck × Bool := if c.ok then c.told 22 t view (shared x y c.left) else (c, false)
def Ck.alike (c : Ck) (t : T) (view : Bool) (x y : R) : Ck × Bool := if c.ok then c.told 24 t view (unlike x y c.left) else (c, false)
def Ck.two (c : Ck) (fault : Nat) (t : T) (view : Bool) (r : Nat × Option (Option Two)) : Ck × Bool :=
  match r with
  | (l, none) => ({ left := l, fault := if c.ok then { e := 5 } else c.fault }, false)
  | (l, some none) => ({ c with left := l }, true)
  | (l, some (some w)) => let d := ({ c with left := l } : Ck).fail fault (some t) view w.text
    ({ d with fault := { d.fault with i := w.i, j := w.j } }, false)
def Ck.side (c : Ck) (r : R) : Ck × Option Side :=
  if c.ok then (match Pv.side r c.left with
    | (l, none) => ({ left := l, fault := { e := 5 } }, none)
    | (l, some s) => ({ c with left := l }, some s))
  else (c, none)
/-- one question, then another one -/
def Ck.both (a : Ck × Bool) (f : Ck → Ck × Bool) : Ck × Bool := if a.2 then f a.1 else a

/-- a canonizer -/
inductive C where
  | mk (term : T) (whole core : R) (kids : List C) (ws cs : Side)
namespace C
def term : C → T | mk t .. => t
def whole : C → R | mk _ w .. => w
def core : C → R | mk _ _ c .. => c
def kids : C → List C | mk _ _ _ k _ _ => k
def ws : C → Side | mk _ _ _ _ s _ => s
def cs : C → Side | mk _ _ _ _ _ s => s
end C
def isCanonOp (op : Nat) : Bool := op == 16 || op == 17 || op == 7 || op == 8 || op == 9
/-! ### What a canonizer makes -/
structure Run where
  fuel : Fuel
  e : Nat := 0
deriving DecidableEq
def C.side (k : C) (core : Bool) : Side := if core then k.cs else k.ws
def Run.burn (r : Run) (n : Nat) : Run × Nat := let b := r.fuel.burn n; ({ r with fuel := b.1 }, b.2)
def Side.accepts (S : Side) (t : List UInt8) : Bool := S.fore.accepts t
end Pv
namespace Pv
mutual
def beqR : R → R → Bool
  | .mk o s ks, .mk o' s' ks' => o == o' && decide (s = s') && beqRs ks ks'
def beqRs : List R → List R → Bool
  | [], [] => true
  | a :: as, b :: bs => beqR a b && beqRs as bs
  | _, _ => false
end
mutual
theorem beqR_eq : ∀ {a b : R}, beqR a b = true → a = b
  | .mk o s ks, .mk o' s' ks', h => by
    simp only [beqR, Bool.and_eq_true, beq_iff_eq, decide_eq_true_eq] at h
    obtain ⟨⟨rfl, rfl⟩, h⟩ := h
    rw [beqRs_eq h]
theorem beqRs_eq : ∀ {a b : List R}, beqRs a b = true → a = b
  | [], [], _ => rfl
  | [], _ :: _, h => by simp [beqRs] at h
  | _ :: _, [], h => by simp [beqRs] at h
  | a :: as, b :: bs, h => by
    simp only [beqRs, Bool.and_eq_true] at h
    rw [beqR_eq h.1, beqRs_eq h.2]
end
def inL (L : List R) (r : R) : Bool := L.any (beqR r)
theorem inL_mem {L : List R} {r : R} (h : inL L r = true) : r ∈ L := by
  unfold inL at h
  obtain ⟨x, h1, h2⟩ := List.any_eq_true.1 h
  rw [beqR_eq h2]; exact h1
/-- a list of expressions that holds what is behind each byte -/
def closedL (L : List R) : Bool := (List.range 256).all fun c => L.all fun r => inL L (by_ (UInt8.ofNat c) r)
theorem closedL_by {L : List R} (h : closedL L = true) {r : R} (c : UInt8) (hr : r ∈ L) : by_ c r ∈ L := by
  unfold closedL at h
  have h1 := List.all_eq_true.1 h c.toNat (List.mem_range.2 c.toNat_lt)
  have h2 := List.all_eq_true.1 h1 r hr
  rw [UInt8.ofNat_toNat] at h2
  exact inL_mem h2
end Pv
namespace Pv
end Pv
namespace Pv
/-- a plan of a term -/
inductive P10 where
  | mk (op w n : Int) (kids : List P10)
instance : Inhabited P10 := ⟨.mk 0 0 0 []⟩
namespace P10
def op : P10 → Int | mk o .. => o
def w : P10 → Int | mk _ w .. => w
def n : P10 → Int | mk _ _ n _ => n
def kids : P10 → List P10 | mk _ _ _ k => k
mutual
/-- how many parts, by the law -/
def cnt : P10 → Nat → Nat
  | .mk _ _ _ ks, d => if 10 < d then 1000 else cntGo ks (d + 1) 1
def cntGo : List P10 → Nat → Nat → Nat
  | [], _, m => m
  | k :: ks, d, m => if 1000 < m + cnt k d then m + cnt k d else cntGo ks d (m + cnt k d)
end
mutual
def nodes : P10 → Nat
  | .mk _ _ _ ks => 1 + nodesL ks
def nodesL : List P10 → Nat
  | [] => 0
  | k :: ks => nodes k + nodesL ks
end
mutual
theorem cnt_le : ∀ (p : P10) (d : Nat), d ≤ 11 → cnt p d + 1000 * d ≤ 12000
  | .mk _ _ _ ks, d, h => by
    unfold cnt
    split
    · omega
    · have := cntGo_le ks (d + 1) 1 (by omega) (by omega); omega
theorem cntGo_le : ∀ (ks : List P10) (d m : Nat), d ≤ 11 → m ≤ 1000 → cntGo ks d m + 1000 * d ≤ 13000
  | [], d, m, h, hm => by unfold cntGo; omega
  | k :: ks, d, m, h, hm => by
    have h1 := cnt_le k d h
    unfold cntGo
    split
    · omega
    · exact cntGo_le ks d _ h (by omega)
end
theorem cntGo_ge : ∀ (ks : List P10) (d m : Nat), m ≤ cntGo ks d m
  | [], d, m => by unfold cntGo; exact Nat.le_refl _
  | k :: ks, d, m => by
    unfold cntGo
    split
    · omega
    · have := cntGo_ge ks d (m + cnt k d); omega
mutual
theorem nodes_le : ∀ (p : P10) (d : Nat), cnt p d < 1000 → nodes p ≤ cnt p d
  | .mk _ _ _ ks, d, h => by
    unfold cnt at h ⊢
    unfold nodes
    split at h
    · omega
    · rename_i hd
      rw [if_neg hd]
      exact nodesL_le ks (d + 1) 1 h
theorem nodesL_le : ∀ (ks : List P10) (d m : Nat), cntGo ks d m < 1000 → m + nodesL ks ≤ cntGo ks d m
  | [], d, m, h => by unfold cntGo nodesL; omega
  | k :: ks, d, m, h => by
    unfold cntGo at h ⊢
    unfold nodesL
    split at h
    · omega
    · rename_i hd
      rw [if_neg hd]
      have h1 := cntGo_ge ks d (m + cnt k d)
      have h2 := nodes_le k d (by omega)
      have h3 := nodesL_le ks d (m + cnt k d) h
      omega
end
theorem nodes_pos (p : P10) : 1 ≤ nodes p := by cases p; unfold nodes; omega
theorem nodes_get : ∀ {ks : List P10} {i : Nat} (h : i < ks.length), nodes ks[i] ≤ nodesL ks
  | k :: ks, 0, _ => by simp only [List.getElem_cons_zero, nodesL]; omega
  | k :: ks, i + 1, h => by
    have := nodes_get (ks := ks) (i := i) (by simpa using h)
    simp only [List.getElem_cons_succ, nodesL]; omega
theorem nodes_get2 : ∀ {ks : List P10} (h : 1 < ks.length), nodes ks[0] + nodes ks[1] ≤ nodesL ks
  | a :: b :: ks, _ => by simp only [List.getElem_cons_zero, List.getElem_cons_succ, nodesL]; omega
end P10

/-- the expressions of the terms' plans -/
def e10L : List R := [word [97], word [98], word [97, 98], many (word [97]), any [word [97], word [98]], many (any [word [97], word [98]]), cat [word [97], many (word [98])], empty, word [59]]
def e10Ix (n : Int) : Nat := ((n % 18446744073709551616) % 9).toNat
theorem e10Ix_lt (n : Int) : e10Ix n < 9 := by unfold e10Ix; omega
def e10Of (n : Int) : R := e10L.getD (e10Ix n) nothing
theorem e10Of_mem (n : Int) : e10Of n ∈ e10L := by
  unfold e10Of
  have h := e10Ix_lt n
  have h2 : e10Ix n < e10L.length := h
  rw [List.getD_eq_getElem?_getD, List.getElem?_eq_getElem h2]
  exact List.getElem_mem h2
mutual
/-- a term that is as it must be -/
def TGood : T → Prop
  | .mk op _ _ re tx bk ks => 2 ≤ op ∧ op ≤ 17 ∧ shapedOf op re.isSome ks.length = true ∧ tx.length ≤ 9 ∧ bk.length ≤ 9 ∧ (∀ r, re = some r → r ∈ e10L) ∧ TGoods ks
def TGoods : List T → Prop
  | [] => True
  | t :: ts => TGood t ∧ TGoods ts
end
mutual
/-- canonizers' parts alone -/
def canonAll : T → Bool
  | .mk op _ _ _ _ _ ks => isCanonOp op && canonAlls ks
def canonAlls : List T → Bool
  | [] => true
  | t :: ts => canonAll t && canonAlls ts
end
mutual
theorem weight_le : ∀ {t : T}, TGood t → weight t ≤ 19 * tsize t
  | .mk _ _ _ _ _ _ ks, h => by
    unfold TGood at h
    have := weights_le h.2.2.2.2.2.2
    unfold weight tsize
    omega
theorem weights_le : ∀ {ts : List T}, TGoods ts → weights ts ≤ 19 * tsizes ts
  | [], _ => by unfold weights tsizes; omega
  | t :: ts, h => by
    unfold TGoods at h
    have h1 := weight_le h.1
    have h2 := weights_le h.2
    unfold weights tsizes
    omega
end
theorem TGood.open_ {t : T} (h : TGood t) : 2 ≤ t.op ∧ t.op ≤ 17 ∧ shapedOf t.op t.re.isSome t.kids.length = true ∧ t.text.length ≤ 9 ∧ t.back.length ≤ 9 ∧ (∀ r, t.re = some r → r ∈ e10L) ∧ TGoods t.kids := by
  cases t; unfold TGood at h; exact h
theorem TGoods.mem : ∀ {ts : List T}, TGoods ts → ∀ t ∈ ts, TGood t
  | [], _, _, h => by cases h
  | t :: ts, h, u, hu => by
    unfold TGoods at h
    rcases List.mem_cons.1 hu with rfl | hu
    · exact h.1
    · exact TGoods.mem h.2 u hu
theorem TGoods.get {ts : List T} (h : TGoods ts) {i : Nat} (hi : i < ts.length) : TGood ts[i] := h.mem _ (List.getElem_mem hi)
theorem tsizes_get : ∀ {ks : List T} {i : Nat} (h : i < ks.length), tsize ks[i] ≤ tsizes ks
  | k :: ks, 0, _ => by simp only [List.getElem_cons_zero, tsizes]; omega
  | k :: ks, i + 1, h => by
    have := tsizes_get (ks := ks) (i := i) (by simpa using h)
    simp only [List.getElem_cons_succ, tsizes]; omega
theorem canonAlls_get : ∀ {ks : List T} {i : Nat} (h : i < ks.length), canonAll ks[i] = false → canonAlls ks = false
  | k :: ks, 0, _, e => by simp only [List.getElem_cons_zero] at e; simp [canonAlls, e]
  | k :: ks, i + 1, h, e => by
    have := canonAlls_get (ks := ks) (i := i) (by simpa using h) (by simpa using e)
    simp [canonAlls, this]
theorem canonAll_kid {t : T} {i : Nat} (h : i < t.kids.length) (e : canonAll t.kids[i] = false) : canonAll t = false := by
  have := canonAlls_get h e
  cases t
  simp only [T.kids] at this
  simp [canonAll, this]
theorem canonAll_op {t : T} (e : isCanonOp t.op = false) : canonAll t = false := by
  cases t
  simp only [T.op] at e
  simp [canonAll, e]
/-- no state at all: nothing is built -/
theorem build_zero (r : R) : (build r 0).2 = none := by
  unfold build stateOf
  simp [findKey]
theorem side_zero (r : R) : (side r 0).2 = none := by
  unfold side
  have := build_zero r
  generalize build r 0 = x at this
  obtain ⟨l, D⟩ := x
  simp only at this
  subst this
  rfl
end Pv
namespace Pv

/-! ### Digits -/
def revd : Nat → Nat → List UInt8
  | 0, _ => []
  | f + 1, u => if 36 ≤ u then revd f (u / 36) ++ [dig36 (u % 36)] else [dig36 u]
theorem dg36Go_revd : ∀ (f u : Nat) (acc : List UInt8), dg36Go f u acc = revd f u ++ acc
  | 0, _, _ => rfl
  | f + 1, u, acc => by
    unfold dg36Go revd
    split
    · rw [dg36Go_revd f]; simp
    · rfl
def undig (c : UInt8) : Nat := if c.toNat < 58 then c.toNat - 48 else c.toNat - 87
theorem undig_dig (k : Nat) (h : k < 36) : undig (dig36 k) = k := by
  have : ∀ k : Fin 36, undig (dig36 k.val) = k.val := by decide +kernel
  exact this ⟨k, h⟩
theorem dig_ge (k : Nat) (h : k < 36) : 48 ≤ dig36 k := by
  have : ∀ k : Fin 36, 48 ≤ dig36 k.val := by decide +kernel
  exact this ⟨k, h⟩
def val (l : List UInt8) : Nat := l.foldl (fun a c => 36 * a + undig c) 0
theorem val_snoc (l : List UInt8) (c : UInt8) : val (l ++ [c]) = 36 * val l + undig c := by simp [val]
theorem val_revd : ∀ (f u : Nat), u < 36 ^ f → val (revd f u) = u
  | 0, u, h => by have : u = 0 := by simpa using h
                  subst this; rfl
  | f + 1, u, h => by
    unfold revd
    split
    · rw [val_snoc, val_revd f (u / 36) (by rw [Nat.pow_succ] at h; omega), undig_dig _ (Nat.mod_lt _ (by omega))]; omega
    · rw [show [dig36 u] = [] ++ [dig36 u] from rfl, val_snoc, undig_dig _ (by omega)]; simp [val]
theorem revd_ge : ∀ (f u : Nat), ∀ c ∈ revd f u, 48 ≤ c
  | 0, _, _, h => by cases h
  | f + 1, u, c, h => by
    unfold revd at h
    split at h
    · rcases List.mem_append.1 h with h | h
      · exact revd_ge f _ c h
      · rw [List.mem_singleton.1 h]; exact dig_ge _ (Nat.mod_lt _ (by omega))
    · rw [List.mem_singleton.1 h]; exact dig_ge _ (by omega)
theorem digits_ge (u : Nat) : ∀ c ∈ digits36 u, 48 ≤ c := by unfold digits36; rw [dg36Go_revd, List.append_nil]; exact revd_ge _ _
theorem digits_inj (u v : BitVec 64) (h : digits36 u.toNat = digits36 v.toNat) : u = v := by
  unfold digits36 at h
  rw [dg36Go_revd, dg36Go_revd, List.append_nil, List.append_nil] at h
  have h1 := congrArg val h
  have hu := u.isLt
  have hv := v.isLt
  rw [val_revd _ _ (Nat.lt_of_lt_of_le hu (by decide)), val_revd _ _ (Nat.lt_of_lt_of_le hv (by decide))] at h1
  exact BitVec.eq_of_toNat_eq h1

/-! ### Keys -/
/-- where digits end is told -/
theorem sep_inj : ∀ (l m : List UInt8) (c d : UInt8) (x y : List UInt8), (∀ a ∈ l, 48 ≤ a) → (∀ a ∈ m, 48 ≤ a) → c < 48 → d < 48 → l ++ c :: x = m ++ d :: y → l = m ∧ c = d ∧ x = y
  | [], [], c, d, x, y, _, _, _, _, h => by simp at h; exact ⟨rfl, h⟩
  | [], b :: m, c, d, x, y, _, hm, hc, _, h => by
    simp at h
    have := hm b (by simp)
    rw [← h.1] at this
    exact absurd hc (UInt8.not_lt.2 this)
  | a :: l, [], c, d, x, y, hl, _, _, hd, h => by
    simp at h
    have := hl a (by simp)
    rw [h.1] at this
    exact absurd hd (UInt8.not_lt.2 this)
  | a :: l, b :: m, c, d, x, y, hl, hm, hc, hd, h => by
    simp at h
    obtain ⟨e, h2⟩ := sep_inj l m c d x y (fun a h => hl a (by simp [h])) (fun a h => hm a (by simp [h])) hc hd h.2
    exact ⟨by rw [h.1, e], h2⟩
def wt (op : Nat) (s : S4) : List UInt8 := ((wordParts op s).map (32 :: ·)).flatten
def kt (ks : List R) : List UInt8 := ((keys ks).map (32 :: ·)).flatten
theorem key_eq (op : Nat) (s : S4) (ks : List R) : key (.mk op s ks) = 40 :: UInt8.ofNat (48 + op) :: (wt op s ++ (kt ks ++ [41])) := by
  unfold key joined wt kt
  simp
theorem kt_cons (r : R) (ks : List R) : kt (r :: ks) = 32 :: (key r ++ kt ks) := by
  unfold kt; rw [keys]; simp
theorem kt_head (ks : List R) (x : List UInt8) : ∃ c y, c < 48 ∧ kt ks ++ 41 :: x = c :: y := by
  cases ks with
  | nil => exact ⟨41, x, by decide, rfl⟩
  | cons r ks => rw [kt_cons]; exact ⟨32, _, by decide, rfl⟩
theorem op_inj (a b : Nat) (ha : a ≤ 7) (hb : b ≤ 7) (h : UInt8.ofNat (48 + a) = UInt8.ofNat (48 + b)) : a = b := by
  have := congrArg UInt8.toNat h
  simp at this
  omega
theorem wt_inj (s t : S4) (c d : UInt8) (x y : List UInt8) (hc : c < 48) (hd : d < 48) (h : wt 2 s ++ c :: x = wt 2 t ++ d :: y) : s = t ∧ c :: x = d :: y := by
  unfold wt wordParts at h
  simp at h
  obtain ⟨h1, _, h⟩ := sep_inj _ _ 32 32 _ _ (digits_ge _) (digits_ge _) (by decide) (by decide) h
  obtain ⟨h2, _, h⟩ := sep_inj _ _ 32 32 _ _ (digits_ge _) (digits_ge _) (by decide) (by decide) h
  obtain ⟨h3, _, h⟩ := sep_inj _ _ 32 32 _ _ (digits_ge _) (digits_ge _) (by decide) (by decide) h
  obtain ⟨h4, h5, h6⟩ := sep_inj _ _ c d _ _ (digits_ge _) (digits_ge _) hc hd h
  refine ⟨?_, by rw [h5, h6]⟩
  cases s; cases t
  simp only [S4.mk.injEq]
  exact ⟨digits_inj _ _ h1, digits_inj _ _ h2, digits_inj _ _ h3, digits_inj _ _ h4⟩
mutual
theorem key_inj_go : ∀ (r q : R) (x y : List UInt8), WF r → WF q → key r ++ x = key q ++ y → r = q ∧ x = y
  | .mk op s ks, .mk op2 s2 ks2, x, y, h1, h2, h => by
    unfold WF at h1 h2
    rw [key_eq, key_eq] at h
    simp only [List.cons_append, List.cons.injEq, true_and, List.append_assoc, List.nil_append] at h
    obtain ⟨ho, h⟩ := h
    have e := op_inj op op2 h1.1 h2.1 ho
    subst e
    have hx : s = s2 ∧ kt ks ++ 41 :: x = kt ks2 ++ 41 :: y := by
      by_cases hop : op = 2
      · subst hop
        obtain ⟨c, x', hc, ex⟩ := kt_head ks x
        obtain ⟨d, y', hd, ey⟩ := kt_head ks2 y
        rw [ex, ey] at h ⊢
        exact wt_inj s s2 c d x' y' hc hd h
      · rw [h1.2.1 hop, h2.2.1 hop]
        rw [show wt op s = [] by unfold wt wordParts; rw [if_neg hop]; rfl, show wt op s2 = [] by unfold wt wordParts; rw [if_neg hop]; rfl] at h
        exact ⟨rfl, h⟩
    obtain ⟨e1, e2⟩ := keys_inj_go ks ks2 x y h1.2.2.2 h2.2.2.2 hx.2
    exact ⟨by rw [hx.1, e1], e2⟩
theorem keys_inj_go : ∀ (ks qs : List R) (x y : List UInt8), WFs ks → WFs qs → kt ks ++ 41 :: x = kt qs ++ 41 :: y → ks = qs ∧ x = y
  | [], [], x, y, _, _, h => by simp [kt, keys] at h; exact ⟨rfl, h⟩
  | [], q :: qs, x, y, _, _, h => by rw [kt_cons] at h; simp [kt, keys] at h
  | r :: rs, [], x, y, _, _, h => by rw [kt_cons] at h; simp [kt, keys] at h
  | r :: rs, q :: qs, x, y, h1, h2, h => by
    unfold WFs at h1 h2
    rw [kt_cons, kt_cons] at h
    simp only [List.cons_append, List.cons.injEq, true_and, List.append_assoc] at h
    obtain ⟨e1, h⟩ := key_inj_go r q _ _ h1.1 h2.1 h
    obtain ⟨e2, h⟩ := keys_inj_go rs qs x y h1.2 h2.2 h
    exact ⟨by rw [e1, e2], h⟩
end
theorem key_inj {r q : R} (h1 : WF r) (h2 : WF q) (h : key r = key q) : r = q := (key_inj_go r q [] [] h1 h2 (by rw [h])).1
theorem WFs_iff : ∀ l : List R, WFs l ↔ ∀ x ∈ l, WF x
  | [] => by simp [WFs]
  | r :: l => by unfold WFs; rw [WFs_iff l]; simp

/-! ### Sorted -/
theorem keyLt_iff : ∀ x y : List UInt8, keyLt x y = decide (x < y)
  | [], [] => by simp [keyLt]
  | [], _ :: _ => by simp [keyLt]
  | _ :: _, [] => by simp [keyLt]
  | a :: x, b :: y => by
    rw [keyLt, keyLt_iff x y]
    by_cases h1 : a < b
    · rw [if_pos h1]; symm; simp [List.cons_lt_cons_iff, h1]
    · rw [if_neg h1]
      by_cases h2 : b < a
      · rw [if_pos h2]; symm
        have : a ≠ b := fun e => by subst e; exact h1 h2
        simp [List.cons_lt_cons_iff, h1, this]
      · rw [if_neg h2]
        have e : a = b := UInt8.le_antisymm (UInt8.not_lt.1 h2) (UInt8.not_lt.1 h1)
        subst e
        simp [List.cons_lt_cons_iff]
theorem ins_perm (r : R) : ∀ l : List R, (ins r l).Perm (r :: l)
  | [] => List.Perm.refl _
  | x :: l => by
    unfold ins
    split
    · exact ((ins_perm r l).cons x).trans (List.Perm.swap r x l)
    · exact List.Perm.refl _
theorem isort_perm : ∀ l : List R, (isort l).Perm l
  | [] => List.Perm.refl _
  | r :: l => (ins_perm r _).trans ((isort_perm l).cons r)
theorem ins_sorted (r : R) : ∀ l : List R, l.Pairwise (fun x y => key x ≤ key y) → (ins r l).Pairwise (fun x y => key x ≤ key y)
  | [], _ => by unfold ins; simp
  | x :: l, h => by
    unfold ins
    rw [keyLt_iff]
    obtain ⟨h1, h2⟩ := List.pairwise_cons.1 h
    split
    · rename_i hlt
      refine List.pairwise_cons.2 ⟨fun y hy => ?_, ins_sorted r l h2⟩
      rcases List.mem_cons.1 ((ins_perm r l).mem_iff.1 hy) with rfl | hy
      · exact List.le_of_lt (by simpa using hlt)
      · exact h1 y hy
    · rename_i hlt
      have hle : key r ≤ key x := List.not_lt.1 (by simpa using hlt)
      refine List.pairwise_cons.2 ⟨fun y hy => ?_, h⟩
      rcases List.mem_cons.1 hy with rfl | hy
      · exact hle
      · exact List.le_trans hle (h1 y hy)
theorem isort_sorted : ∀ l : List R, (isort l).Pairwise (fun x y => key x ≤ key y)
  | [] => List.Pairwise.nil
  | r :: l => ins_sorted r _ (isort_sorted l)
/-- sorted lists of the same are one -/
theorem sorted_eq {l m : List R} (hp : l.Perm m) (hl : l.Pairwise (fun x y => key x ≤ key y)) (hm : m.Pairwise (fun x y => key x ≤ key y)) (hw : ∀ x ∈ m, WF x) : l = m :=
  hp.eq_of_pairwise (fun a b ha hb h1 h2 => key_inj (hw a (hp.mem_iff.1 ha)) (hw b hb) (List.le_antisymm h1 h2)) hl hm
end Pv
