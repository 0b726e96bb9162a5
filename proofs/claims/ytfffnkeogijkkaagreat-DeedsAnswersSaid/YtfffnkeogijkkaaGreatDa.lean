/- An evaluator of the model's code, and what relates it to the model: values, stores, the first operations. (The same text serves every seat.) -/
import GoSem.Step
import Derived.RangeFuncLeaves
import Derived.Laws.Cells
import Derived.Laws.Entries
import Derived.CallsIn
import Derived.Laws.StructEq
set_option linter.unusedVariables false
set_option linter.unusedSimpArgs false
set_option linter.unusedSectionVars false
set_option linter.constructorNameAsVariable false
namespace Den
open Go

inductive Pos | h | o (p : Pos) | i (p : Pos)
  deriving DecidableEq
noncomputable def Pos.succ (p : Pos) : Pos := Pos.rec (.o .h) (fun p _ => .i p) (fun _ s => .o s) p

inductive T (α : Type) | e | n (v : α) (l r : T α)

noncomputable def T.get {α : Type} (d : α) (t : T α) (p : Pos) : α :=
  T.rec (motive := fun _ => Pos → α) (fun _ => d) (fun v _ _ gl gr p => Pos.rec v (fun q _ => gl q) (fun q _ => gr q) p) t p

noncomputable def T.one {α : Type} (d : α) (x : α) (p : Pos) : T α :=
  Pos.rec (.n x .e .e) (fun _ t => .n d t .e) (fun _ t => .n d .e t) p

noncomputable def T.set {α : Type} (d : α) (x : α) (t : T α) (p : Pos) : T α :=
  T.rec (motive := fun _ => Pos → T α) (T.one d x) (fun v l r sl sr p => Pos.rec (.n x l r) (fun q _ => .n v (sl q) r) (fun q _ => .n v l (sr q)) p) t p

/-- values; lists of values are written with 'nl' and 'co'. -/
inductive V
  | b (x : Bool) | i (k : IntKind) (n : Int) | s (x : List UInt8)
  | p0 | p (b : Pos) (o : Nat)
  | s0 | sl (b : Pos) (o len cap : Nat) (opn : Bool)
  | m0 | m (r : Pos)
  | f (fn : Pos) (first cap : V) | y (l : Pos) | f0
  | it (t : TypeId) (v : V) | i0
  | ag (cs : V) | tu (vs : V)
  | nl | co (x r : V)
  deriving Inhabited

inductive Opd | t (n : Pos) | c (v : V)
  deriving Inhabited

inductive Bi | len | lenM | cap | append (esz bytes : Nat) (z : List V) (zm : Bool) | copy (esz : Nat) | clearMap | clearSl (z : List V) | min | max | recover
  deriving Inhabited

inductive AOp
  | mv (x : Opd) | pick (c a b : Opd)
  | alloc (z : List V) | box (n : Nat) (x : Opd)
  | build (z : List V) (ps : List (Nat × Nat × Opd))
  | buildS (esz : Nat) (z : List V) (len : Nat) (ps : List (Nat × Nat × Opd))
  | load (a : Opd) | loadA (n : Nat) (a : Opd) | store (n : Nat) (a x : Opd)
  | nilc (x : Opd)
  | bin (op : BinOp) (x y : Opd) | eqb (neg : Bool) (x y : Opd) | eqs (neg : Bool) (x y : Opd) | eqn (n : Nat) (neg : Bool) (x y : Opd) | eqa (n : Nat) (neg : Bool) (x y : Opd) | not (x : Opd) | neg (x : Opd) | com (x : Opd)
  | conv (k : IntKind) (x : Opd) | mki (t : TypeId) (x : Opd)
  | mkf (f : Pos) (first cap : List Opd) | mkm | mks (bytes : Nat) (z : List V) (len cap : Opd)
  | sliceS (esz : Nat) (x : Opd) (lo hi mx : Option Opd) | sliceA (esz n : Nat) (x : Opd) (lo hi mx : Option Opd)
  | fieldA (off : Nat) (x : Opd) | field (off : Nat) (x : Opd) | fieldG (off n : Nat) (x : Opd)
  | idxA (esz : Nat) (n : Nat) (x i : Opd) | idxS (esz : Nat) (x i : Opd) | idxV (esz len : Nat) (agg : Bool) (x i : Opd) | idxC (x i : Opd)
  | lookup (z : V) (ok : Bool) (x k : Opd) | mapUp (m k v : Opd)
  | range (x : Opd) | next (x : Opd) | entry (x : Opd)
  | ext (x : Opd) (i : Nat)
  | callF (f : Pos) (args : List Opd) | callV (f : Opd) (args : List Opd) | bi (b : Bi) (args : List Opd)
  | s2b (x : Opd) | s2a (n : Nat) (x : Opd) | xadd (a x : Opd)
  | bad (w : Nat)
  deriving Inhabited

inductive AOper | mk (dst : Option Pos) (op : AOp) | gd (g : Pos) (w : Bool) (dst : Option Pos) (op : AOp) | df (id : Pos) (f : Opd)
  deriving Inhabited

/-- an operation of a region that draws its order: 'q' a quiet one, or one that makes an object; 'ld' one that reads: ahead of what does something from number 'lo' on, and behind it up to number 'hi', it must tell the same; 'ef' one that does something, and its number. -/
inductive DOper | q (o : AOper) | ld (o : AOper) (lo hi : Nat) | ef (i : Nat) (o : AOper)
  deriving Inhabited

inductive C
  | skip | reg (ops : List AOper) | regD (ops : List DOper) | seq (a b : C) | cond (c : Opd) (a b : C) | block (id : Nat) (a : C) | loop (a : C)
  | rf (f : Opd) (ps : List Pos) (assign body : C) | exit (id : Nat) | ret | bad
  deriving Inhabited

inductive RsV | t (n : Pos) | c (a : Pos) | ca (a : Pos) (n : Nat)
structure AFunc where
  res : List RsV
  body : C
instance : Inhabited AFunc := ⟨[], .bad⟩

inductive Ex | nrm | ex (id : Nat) | ret

inductive Obj
  | dead
  | cells (cs : List V) (t : Nat)
  | map (es : List (V × V × Nat)) (clock : Nat)
  | iter (m : Option Pos) (since : Nat) (seen : List Nat) (stepped : Nat)
  | loop (st : Nat) (tm : T V) (pend : Ex) (ps : List Pos) (assign body : C)

inductive St | mk (o : T Obj) (nx : Pos)

inductive R | no | ok (v : V) (st : St)
inductive RC | no | ok (x : Ex) (tm : T V) (st : St)
inductive RO | no | ok (tm : T V) (st : St)
inductive OL | no | ok (l : List V)

abbrev Cl := V → V → St → R
abbrev OpS := Cl → T V → St → R

def un : V := .tu .nl

noncomputable def V.lst (v : V) : List V :=
  V.rec (motive := fun _ => List V) (fun _ => []) (fun _ _ => []) (fun _ => []) [] (fun _ _ => []) [] (fun _ _ _ _ _ => []) [] (fun _ => []) (fun _ _ _ _ _ => []) (fun _ => []) [] (fun _ _ _ => []) [] (fun _ _ => []) (fun _ _ => []) []
    (fun x _ _ r => x :: r) v
noncomputable def mkl (l : List V) : V := List.rec .nl (fun x _ r => .co x r) l
def listV : List V → V
  | [] => .nl
  | x :: r => .co x (listV r)
noncomputable def V.app (a b : V) : V := List.rec b (fun x _ r => .co x r) (V.lst a)

section destruct
variable {β : Type}
noncomputable def V.onB (v : V) (no : β) (k : Bool → β) : β :=
  V.rec (motive := fun _ => β) k (fun _ _ => no) (fun _ => no) no (fun _ _ => no) no (fun _ _ _ _ _ => no) no (fun _ => no) (fun _ _ _ _ _ => no) (fun _ => no) no (fun _ _ _ => no) no (fun _ _ => no) (fun _ _ => no) no (fun _ _ _ _ => no) v
noncomputable def V.onI (v : V) (no : β) (k : IntKind → Int → β) : β :=
  V.rec (motive := fun _ => β) (fun _ => no) k (fun _ => no) no (fun _ _ => no) no (fun _ _ _ _ _ => no) no (fun _ => no) (fun _ _ _ _ _ => no) (fun _ => no) no (fun _ _ _ => no) no (fun _ _ => no) (fun _ _ => no) no (fun _ _ _ _ => no) v
noncomputable def V.onS (v : V) (no : β) (k : List UInt8 → β) : β :=
  V.rec (motive := fun _ => β) (fun _ => no) (fun _ _ => no) k no (fun _ _ => no) no (fun _ _ _ _ _ => no) no (fun _ => no) (fun _ _ _ _ _ => no) (fun _ => no) no (fun _ _ _ => no) no (fun _ _ => no) (fun _ _ => no) no (fun _ _ _ _ => no) v
noncomputable def V.onP (v : V) (no : β) (k : Pos → Nat → β) : β :=
  V.rec (motive := fun _ => β) (fun _ => no) (fun _ _ => no) (fun _ => no) no k no (fun _ _ _ _ _ => no) no (fun _ => no) (fun _ _ _ _ _ => no) (fun _ => no) no (fun _ _ _ => no) no (fun _ _ => no) (fun _ _ => no) no (fun _ _ _ _ => no) v
/-- a slice: nil, or not. -/
noncomputable def V.onSl (v : V) (no z : β) (k : Pos → Nat → Nat → Nat → Bool → β) : β :=
  V.rec (motive := fun _ => β) (fun _ => no) (fun _ _ => no) (fun _ => no) no (fun _ _ => no) z k no (fun _ => no) (fun _ _ _ _ _ => no) (fun _ => no) no (fun _ _ _ => no) no (fun _ _ => no) (fun _ _ => no) no (fun _ _ _ _ => no) v
noncomputable def V.onM (v : V) (no z : β) (k : Pos → β) : β :=
  V.rec (motive := fun _ => β) (fun _ => no) (fun _ _ => no) (fun _ => no) no (fun _ _ => no) no (fun _ _ _ _ _ => no) z k (fun _ _ _ _ _ => no) (fun _ => no) no (fun _ _ _ => no) no (fun _ _ => no) (fun _ _ => no) no (fun _ _ _ _ => no) v
noncomputable def V.onF (v : V) (no : β) (k : Pos → V → V → β) (y : Pos → β) : β :=
  V.rec (motive := fun _ => β) (fun _ => no) (fun _ _ => no) (fun _ => no) no (fun _ _ => no) no (fun _ _ _ _ _ => no) no (fun _ => no) (fun f a b _ _ => k f a b) y no (fun _ _ _ => no) no (fun _ _ => no) (fun _ _ => no) no (fun _ _ _ _ => no) v
noncomputable def V.onAg (v : V) (no : β) (k : V → β) : β :=
  V.rec (motive := fun _ => β) (fun _ => no) (fun _ _ => no) (fun _ => no) no (fun _ _ => no) no (fun _ _ _ _ _ => no) no (fun _ => no) (fun _ _ _ _ _ => no) (fun _ => no) no (fun _ _ _ => no) no (fun c _ => k c) (fun _ _ => no) no (fun _ _ _ _ => no) v
noncomputable def V.onTu (v : V) (no : β) (k : V → β) : β :=
  V.rec (motive := fun _ => β) (fun _ => no) (fun _ _ => no) (fun _ => no) no (fun _ _ => no) no (fun _ _ _ _ _ => no) no (fun _ => no) (fun _ _ _ _ _ => no) (fun _ => no) no (fun _ _ _ => no) no (fun _ _ => no) (fun c _ => k c) no (fun _ _ _ _ => no) v
/-- none: not comparable with nil; true: nil. -/
noncomputable def V.onNil (v : V) (no y n : β) : β :=
  V.rec (motive := fun _ => β) (fun _ => no) (fun _ _ => no) (fun _ => no) y (fun _ _ => n) y (fun _ _ _ _ _ => n) y (fun _ => n) (fun _ _ _ _ _ => n) (fun _ => n) y (fun _ _ _ => n) y (fun _ _ => no) (fun _ _ => no) no (fun _ _ _ _ => no) v
noncomputable def Obj.onC (o : Obj) (no : β) (k : List V → Nat → β) : β := Obj.rec (motive := fun _ => β) no k (fun _ _ => no) (fun _ _ _ _ => no) (fun _ _ _ _ _ _ => no) o
noncomputable def Obj.onMap (o : Obj) (no : β) (k : List (V × V × Nat) → Nat → β) : β := Obj.rec (motive := fun _ => β) no (fun _ _ => no) k (fun _ _ _ _ => no) (fun _ _ _ _ _ _ => no) o
noncomputable def Obj.onIter (o : Obj) (no : β) (k : Option Pos → Nat → List Nat → Nat → β) : β := Obj.rec (motive := fun _ => β) no (fun _ _ => no) (fun _ _ => no) k (fun _ _ _ _ _ _ => no) o
noncomputable def Obj.onLoop (o : Obj) (no : β) (k : Nat → T V → Ex → List Pos → C → C → β) : β := Obj.rec (motive := fun _ => β) no (fun _ _ => no) (fun _ _ => no) (fun _ _ _ _ => no) k o
noncomputable def R.bnd (r : R) (no : β) (k : V → St → β) : β := R.rec (motive := fun _ => β) no k r
noncomputable def OL.bnd (r : OL) (no : β) (k : List V → β) : β := OL.rec (motive := fun _ => β) no k r
noncomputable def V.onPtr (v : V) (no z : β) (k : Pos → Nat → β) : β :=
  V.rec (motive := fun _ => β) (fun _ => no) (fun _ _ => no) (fun _ => no) z k no (fun _ _ _ _ _ => no) no (fun _ => no) (fun _ _ _ _ _ => no) (fun _ => no) no (fun _ _ _ => no) no (fun _ _ => no) (fun _ _ => no) no (fun _ _ _ _ => no) v
noncomputable def V.onFn (v : V) (no z : β) (k : Pos → V → V → β) : β :=
  V.rec (motive := fun _ => β) (fun _ => no) (fun _ _ => no) (fun _ => no) no (fun _ _ => no) no (fun _ _ _ _ _ => no) no (fun _ => no) (fun f a b _ _ => k f a b) (fun _ => no) z (fun _ _ _ => no) no (fun _ _ => no) (fun _ _ => no) no (fun _ _ _ _ => no) v
noncomputable def V.onIt (v : V) (no z : β) (k : TypeId → V → β) : β :=
  V.rec (motive := fun _ => β) (fun _ => no) (fun _ _ => no) (fun _ => no) no (fun _ _ => no) no (fun _ _ _ _ _ => no) no (fun _ => no) (fun _ _ _ _ _ => no) (fun _ => no) no (fun t v _ => k t v) z (fun _ _ => no) (fun _ _ => no) no (fun _ _ _ _ => no) v
noncomputable def V.onCo (v : V) (no z : β) (k : V → V → β) : β :=
  V.rec (motive := fun _ => β) (fun _ => no) (fun _ _ => no) (fun _ => no) no (fun _ _ => no) no (fun _ _ _ _ _ => no) no (fun _ => no) (fun _ _ _ _ _ => no) (fun _ => no) no (fun _ _ _ => no) no (fun _ _ => no) (fun _ _ => no) z (fun x r _ _ => k x r) v
/-- a natural number's value. -/
noncomputable def V.onN (v : V) (no : β) (k : Nat → β) : β := v.onI no (fun _ n => Int.rec (motive := fun _ => β) k (fun _ => no) n)
end destruct

noncomputable def tg (tm : T V) (p : Pos) : V := tm.get un p
noncomputable def ev (tm : T V) (x : Opd) : V := Opd.rec (motive := fun _ => V) (tg tm) (fun v => v) x
noncomputable def evs (tm : T V) (l : List Opd) : V := List.rec (motive := fun _ => V) .nl (fun x _ r => .co (ev tm x) r) l
noncomputable def cellsOf (v : V) : List V := v.onAg [v] V.lst

noncomputable def getAt (l : List V) (n : Nat) (no : R) (k : V → R) : R :=
  List.rec (motive := fun _ => Nat → R) (fun _ => no) (fun x _ g n => cond (Nat.beq n 0) (k x) (g (Nat.sub n 1))) l n
noncomputable def takeN (l : List V) (n : Nat) : OL :=
  List.rec (motive := fun _ => Nat → OL) (fun n => cond (Nat.beq n 0) (.ok []) .no)
    (fun x _ g n => cond (Nat.beq n 0) (.ok []) (OL.bnd (g (Nat.sub n 1)) .no (fun r => .ok (x :: r)))) l n
noncomputable def dropN (l : List V) (n : Nat) : List V :=
  List.rec (motive := fun _ => Nat → List V) (fun _ => []) (fun x l g n => cond (Nat.beq n 0) (x :: l) (g (Nat.sub n 1))) l n
noncomputable def sub (cs : List V) (o n : Nat) : OL := takeN (dropN cs o) n
/-- not the value of several cells. -/
noncomputable def V.one (v : V) : Bool :=
  V.rec (motive := fun _ => Bool) (fun _ => true) (fun _ _ => true) (fun _ => true) true (fun _ _ => true) true (fun _ _ _ _ _ => true) true (fun _ => true) (fun _ _ _ _ _ => true) (fun _ => true) true (fun _ _ _ => true) true (fun _ _ => false) (fun _ _ => false) false (fun _ _ _ _ => false) v
/-- the cells with xs over the first ones. -/
noncomputable def over (xs : List V) (cs : List V) : OL :=
  List.rec (motive := fun _ => List V → OL) (fun cs => .ok cs)
    (fun x _ g cs => List.rec (motive := fun _ => OL) .no (fun _ cs _ => cond (V.one x) (OL.bnd (g cs) .no (fun r => .ok (x :: r))) .no) cs) xs cs
noncomputable def setsAt (cs : List V) (n : Nat) (xs : List V) : OL :=
  List.rec (motive := fun _ => Nat → OL) (fun n => cond (Nat.beq n 0) (over xs []) .no)
    (fun c cs g n => cond (Nat.beq n 0) (over xs (c :: cs)) (OL.bnd (g (Nat.sub n 1)) .no (fun r => .ok (c :: r)))) cs n
noncomputable def lappend (a b : List V) : List V := List.rec (motive := fun _ => List V) b (fun x _ r => x :: r) a
noncomputable def rep (z : List V) (n : Nat) : List V := Nat.rec (motive := fun _ => List V) [] (fun _ r => lappend z r) n
noncomputable def len {α : Type} (l : List α) : Nat := List.rec (motive := fun _ => Nat) 0 (fun _ _ n => Nat.add n 1) l

noncomputable def St.row (st : St) (b : Pos) {β : Type} (no : β) (k : List V → Nat → β) : β := St.rec (motive := fun _ => β) (fun o _ => Obj.onC (T.get .dead o b) no k) st
noncomputable def St.at (st : St) (b : Pos) : Obj := St.rec (motive := fun _ => Obj) (fun o _ => T.get .dead o b) st
noncomputable def St.put (st : St) (b : Pos) (ob : Obj) : St := St.rec (motive := fun _ => St) (fun o nx => .mk (T.set .dead ob o b) nx) st
noncomputable def St.new {β : Type} (st : St) (ob : Obj) (k : Pos → St → β) : β := St.rec (motive := fun _ => β) (fun o nx => k nx (.mk (T.set .dead ob o nx) nx.succ)) st

noncomputable def fillP (tm : T V) (ps : List (Nat × Nat × Opd)) (cs : List V) : OL :=
  List.rec (motive := fun _ => List V → OL) (fun cs => .ok cs)
    (fun p _ g cs => Prod.rec (motive := fun _ => OL) (fun off q => Prod.rec (motive := fun _ => OL) (fun n x =>
      cond (Nat.beq (len (cellsOf (ev tm x))) n) (OL.bnd (setsAt cs off (cellsOf (ev tm x))) .no g) .no) q) p) ps cs

/-! numbers -/
noncomputable def lim (k : IntKind) : Nat := IntKind.rec (motive := fun _ => Nat) 128 32768 2147483648 9223372036854775808 256 65536 4294967296 18446744073709551616 k
noncomputable def wrapF (k : IntKind) (n : Int) : Int :=
  Int.rec (motive := fun _ => Int) (fun m => cond (Nat.blt m (lim k)) (.ofNat m) (k.wrap (.ofNat m))) (fun m => k.wrap (.negSucc m)) n
noncomputable def kb (k : IntKind) : Nat := IntKind.rec (motive := fun _ => Nat) 0 1 2 3 4 5 6 7 k
noncomputable def iltb (a b : Int) : Bool :=
  Int.rec (motive := fun _ => Bool) (fun m => Int.rec (motive := fun _ => Bool) (fun n => Nat.blt m n) (fun _ => false) b)
    (fun m => Int.rec (motive := fun _ => Bool) (fun _ => true) (fun n => Nat.blt n m) b) a
noncomputable def ieqb (a b : Int) : Bool :=
  Int.rec (motive := fun _ => Bool) (fun m => Int.rec (motive := fun _ => Bool) (fun n => Nat.beq m n) (fun _ => false) b)
    (fun m => Int.rec (motive := fun _ => Bool) (fun _ => false) (fun n => Nat.beq n m) b) a
noncomputable def nn (a b : Int) (slow : Int) (k : Nat → Nat → Int) : Int :=
  Int.rec (motive := fun _ => Int) (fun m => Int.rec (motive := fun _ => Int) (fun n => k m n) (fun _ => slow) b) (fun _ => slow) a
def sAnd (k : IntKind) (x y : Int) : Int := k.wrap ((BitVec.ofInt k.bits x &&& BitVec.ofInt k.bits y).toNat)
def sOr (k : IntKind) (x y : Int) : Int := k.wrap ((BitVec.ofInt k.bits x ||| BitVec.ofInt k.bits y).toNat)
def sXor (k : IntKind) (x y : Int) : Int := k.wrap ((BitVec.ofInt k.bits x ^^^ BitVec.ofInt k.bits y).toNat)
def sAndNot (k : IntKind) (x y : Int) : Int := k.wrap ((BitVec.ofInt k.bits x &&& ~~~ BitVec.ofInt k.bits y).toNat)
noncomputable def nr (k : IntKind) (a b : Int) (slow : Int) (f : Nat → Nat → Nat) : Int := nn a b slow (fun m n => cond (and (Nat.blt m (lim k)) (Nat.blt n (lim k))) (.ofNat (f m n)) slow)
noncomputable def bAnd (k : IntKind) (a b : Int) : Int := nr k a b (sAnd k a b) Nat.land
noncomputable def bOr (k : IntKind) (a b : Int) : Int := nr k a b (sOr k a b) Nat.lor
noncomputable def bXor (k : IntKind) (a b : Int) : Int := nr k a b (sXor k a b) Nat.xor
noncomputable def bAndNot (k : IntKind) (a b : Int) : Int := sAndNot k a b
noncomputable def iShl (k : IntKind) (a b : Int) : Int := nn a b (k.wrap (a * 2 ^ (min b.toNat k.bits))) (fun m n => wrapF k (.ofNat (Nat.shiftLeft m (min n k.bits))))
noncomputable def iShr (k : IntKind) (a b : Int) : Int := nn a b (a.fdiv (2 ^ (min b.toNat k.bits))) (fun m n => .ofNat (Nat.shiftRight m (min n k.bits)))
noncomputable def iQuo (k : IntKind) (a b : Int) : Int := nn a b (k.wrap (a.tdiv b)) (fun m n => wrapF k (.ofNat (Nat.div m n)))
noncomputable def iRem (a b : Int) : Int := nn a b (a.tmod b) (fun m n => .ofNat (Nat.mod m n))
noncomputable def okv (st : St) (v : V) : R := .ok v st
noncomputable def binI (op : BinOp) (k : IntKind) (a b : Int) (st : St) : R :=
  BinOp.rec (motive := fun _ => R) (okv st (.i k (wrapF k (Int.add a b)))) (okv st (.i k (wrapF k (Int.sub a b)))) (okv st (.i k (wrapF k (Int.mul a b))))
    (cond (ieqb b 0) .no (okv st (.i k (iQuo k a b)))) (cond (ieqb b 0) .no (okv st (.i k (iRem a b))))
    (okv st (.i k (bAnd k a b))) (okv st (.i k (bOr k a b))) (okv st (.i k (bXor k a b))) .no .no (okv st (.i k (bAndNot k a b)))
    (okv st (.b (ieqb a b))) (okv st (.b (not (ieqb a b)))) (okv st (.b (iltb a b))) (okv st (.b (not (iltb b a)))) (okv st (.b (iltb b a))) (okv st (.b (not (iltb a b)))) op
noncomputable def isShift (op : BinOp) : Nat := BinOp.rec (motive := fun _ => Nat) 0 0 0 0 0 0 0 0 1 2 0 0 0 0 0 0 0 op
noncomputable def binII (op : BinOp) (k : IntKind) (a : Int) (k' : IntKind) (b : Int) (st : St) : R :=
  cond (Nat.beq (isShift op) 0) (cond (Nat.beq (kb k) (kb k')) (binI op k a b st) .no)
    (cond (iltb b 0) .no (okv st (.i k (cond (Nat.beq (isShift op) 1) (iShl k a b) (iShr k a b)))))
def eqBytes (a b : List UInt8) : Bool := a == b
noncomputable def bin (op : BinOp) (x y : V) (st : St) : R := x.onI .no (fun k a => y.onI .no (fun k' b => binII op k a k' b st))

inductive B3 | no | t | f
noncomputable def B3.of (b : Bool) : B3 := cond b .t .f
noncomputable def eqV (x y : V) : B3 :=
  x.onI .no (fun k a => y.onI .no (fun k' b => cond (Nat.beq (kb k) (kb k')) (B3.of (ieqb a b)) .no))
noncomputable def eqVs (xs ys : List V) : B3 :=
  List.rec (motive := fun _ => List V → B3) (fun ys => List.rec (motive := fun _ => B3) .t (fun _ _ _ => .no) ys)
    (fun x _ g ys => List.rec (motive := fun _ => B3) .no (fun y ys _ => B3.rec (motive := fun _ => B3) .no (g ys) .f (eqV x y)) ys) xs ys
noncomputable def B3.r (b : B3) (neg : Bool) (st : St) : R := B3.rec (motive := fun _ => R) .no (okv st (.b (not neg))) (okv st (.b neg)) b

inductive O3 | no | ok (l h m : Nat)
noncomputable def onO (tm : T V) (x : Option Opd) (d : Nat) (k : Nat → O3) : O3 := Option.rec (motive := fun _ => O3) (k d) (fun x => (ev tm x).onN .no k) x
noncomputable def bnds (len cap : Nat) (tm : T V) (lo hi mx : Option Opd) : O3 :=
  onO tm mx cap (fun m => onO tm hi len (fun h => onO tm lo 0 (fun l => cond (Nat.ble l h) (cond (Nat.ble h m) (cond (Nat.ble m cap) (.ok l h m) .no) .no) .no)))

inductive OE | no | nf | ok (v : V)
noncomputable def findE (k : V) (es : List (V × V × Nat)) : OE :=
  List.rec (motive := fun _ => OE) .nf (fun e _ g => Prod.rec (motive := fun _ => OE) (fun k' q => Prod.rec (motive := fun _ => OE) (fun v _ => B3.rec (motive := fun _ => OE) .no (.ok v) g (eqV k k')) q) e) es
inductive OU | no | ok (es : List (V × V × Nat)) (nw : Bool)
noncomputable def updE (k v : V) (clock : Nat) (es : List (V × V × Nat)) : OU :=
  List.rec (motive := fun _ => OU) (.ok [(k, v, clock)] true)
    (fun e r g => Prod.rec (motive := fun _ => OU) (fun k' q => Prod.rec (motive := fun _ => OU) (fun v' b =>
      B3.rec (motive := fun _ => OU) .no (.ok ((k, v, b) :: r) false) (OU.rec (motive := fun _ => OU) .no (fun es nw => .ok ((k', v', b) :: es) nw) g) (eqV k k')) q) e) es
noncomputable def memN (n : Nat) (l : List Nat) : Bool := List.rec (motive := fun _ => Bool) false (fun x _ g => cond (Nat.beq x n) true g) l
noncomputable def lastN (l : List Nat) : Nat := List.rec (motive := fun _ => Nat → Nat) (fun d => d) (fun x _ g _ => g x) l 0

inductive ON | no | ok (k v : V) (b : Nat)
noncomputable def ON.bnd {β : Type} (o : ON) (no : β) (k : V → V → Nat → β) : β := ON.rec (motive := fun _ => β) no k o
/-- an entry's parts. -/
noncomputable def ent {β : Type} (e : V × V × Nat) (k : V → V → Nat → β) : β := Prod.rec (motive := fun _ => β) (fun a q => Prod.rec (motive := fun _ => β) (fun b n => k a b n) q) e
/-- the entries that are not seen. -/
noncomputable def unseen (seen : List Nat) (es : List (V × V × Nat)) : List (V × V × Nat) :=
  List.rec (motive := fun _ => List (V × V × Nat)) [] (fun e _ g => ent e (fun _ _ b => cond (memN b seen) g (e :: g))) es
noncomputable def someOld (n : Nat) (es : List (V × V × Nat)) : Bool := List.rec (motive := fun _ => Bool) false (fun e _ g => ent e (fun _ _ b => cond (Nat.blt b n) true g)) es
noncomputable def entryE (b0 : Nat) (es : List (V × V × Nat)) : ON :=
  List.rec (motive := fun _ => ON) .no (fun e _ g => ent e (fun k v b => cond (Nat.beq b b0) (.ok k v b) g)) es

/-- what may not be written is marked so. -/
def roT : Nat := 4294967296
noncomputable def wr (t : Nat) (r : R) : R := cond (Nat.blt t roT) r .no

/-! operations -/
noncomputable def oMv (x : Opd) : OpS := fun _ tm st => .ok (ev tm x) st
noncomputable def oPick (c a b : Opd) : OpS := fun _ tm st => (ev tm c).onB .no (fun t => .ok (cond t (ev tm a) (ev tm b)) st)
noncomputable def oAlloc (z : List V) : OpS := fun _ _ st => st.new (.cells z 0) (fun b st => .ok (.p b 0) st)
noncomputable def oBox (n : Nat) (x : Opd) : OpS := fun _ tm st => st.new (.cells (cellsOf (ev tm x)) 0) (fun b st => .ok (.p b 0) st)
noncomputable def oBuild (z : List V) (ps : List (Nat × Nat × Opd)) : OpS := fun _ tm st => (fillP tm ps z).bnd .no (fun cs => .ok (.ag (mkl cs)) st)
noncomputable def oBuildS (_ : Nat) (z : List V) (n : Nat) (ps : List (Nat × Nat × Opd)) : OpS :=
  fun _ tm st => (fillP tm ps (rep z n)).bnd .no (fun cs => st.new (.cells cs 0) (fun b st => .ok (.sl b 0 n n true) st))
noncomputable def oLoad (a : Opd) : OpS := fun _ tm st => (ev tm a).onP .no (fun b o => st.row b .no (fun cs _ => getAt cs o .no (okv st)))
noncomputable def oLoadA (n : Nat) (a : Opd) : OpS := fun _ tm st => (ev tm a).onP .no (fun b o => st.row b .no (fun cs _ => (sub cs o n).bnd .no (fun xs => .ok (.ag (mkl xs)) st)))
noncomputable def oStore (n : Nat) (a x : Opd) : OpS := fun _ tm st => (ev tm a).onP .no (fun b o => st.row b .no (fun cs t => wr t
  (cond (Nat.beq (len (cellsOf (ev tm x))) n) ((setsAt cs o (cellsOf (ev tm x))).bnd .no (fun cs => .ok un (st.put b (.cells cs t)))) .no)))
noncomputable def oNilc (x : Opd) : OpS := fun _ tm st => (ev tm x).onNil (.ok (ev tm x) st) .no (.ok (ev tm x) st)
noncomputable def oBin (op : BinOp) (x y : Opd) : OpS := fun _ tm st => bin op (ev tm x) (ev tm y) st
noncomputable def oEqb (neg : Bool) (x y : Opd) : OpS := fun _ tm st => (ev tm x).onB .no (fun a => (ev tm y).onB .no (fun b => okv st (.b (cond neg (a != b) (a == b)))))
noncomputable def oEqs (neg : Bool) (x y : Opd) : OpS := fun _ tm st => (ev tm x).onS .no (fun a => (ev tm y).onS .no (fun b => okv st (.b (cond neg (not (eqBytes a b)) (eqBytes a b)))))
/-- which kind with a nil; the nil is odd. -/
noncomputable def V.kd (v : V) : Nat :=
  V.rec (motive := fun _ => Nat) (fun _ => 0) (fun _ _ => 0) (fun _ => 0) 1 (fun _ _ => 2) 3 (fun _ _ _ _ _ => 4) 5 (fun _ => 6) (fun _ _ _ _ _ => 8) (fun _ => 8) 7 (fun _ _ _ => 0) 0 (fun _ _ => 0) (fun _ _ => 0) 0 (fun _ _ _ _ => 0) v
noncomputable def oEqn (n : Nat) (neg : Bool) (x y : Opd) : OpS := fun _ tm st =>
  cond (Nat.beq (ev tm x).kd n) (cond (Nat.beq (ev tm y).kd n) (okv st (.b (not neg))) (cond (Nat.beq (ev tm y).kd (Nat.add n 1)) (okv st (.b neg)) .no))
    (cond (Nat.beq (ev tm x).kd (Nat.add n 1)) (cond (Nat.beq (ev tm y).kd n) (okv st (.b neg)) .no) .no)
noncomputable def oEqa (n : Nat) (neg : Bool) (x y : Opd) : OpS := fun _ tm st => (ev tm x).onAg .no (fun a => (ev tm y).onAg .no (fun b => cond (and (Nat.beq (len a.lst) n) (Nat.beq (len b.lst) n)) ((eqVs a.lst b.lst).r neg st) .no))
noncomputable def oNot (x : Opd) : OpS := fun _ tm st => (ev tm x).onB .no (fun b => okv st (.b (not b)))
noncomputable def oNeg (x : Opd) : OpS := fun _ tm st => (ev tm x).onI .no (fun k n => okv st (.i k (wrapF k (Int.sub 0 n))))
noncomputable def oCom (x : Opd) : OpS := fun _ tm st => (ev tm x).onI .no (fun k n => okv st (.i k (sXor k (cond k.signed (-1) k.max) n)))
noncomputable def oConv (k : IntKind) (x : Opd) : OpS := fun _ tm st => (ev tm x).onI .no (fun _ n => okv st (.i k (wrapF k n)))
noncomputable def oMki (t : TypeId) (x : Opd) : OpS := fun _ tm st => .ok (.it t (ev tm x)) st
noncomputable def oMkf (f : Pos) (fs cs : List Opd) : OpS := fun _ tm st => .ok (.f f (evs tm fs) (evs tm cs)) st
noncomputable def oMkm : OpS := fun _ _ st => st.new (.map [] 0) (fun b st => .ok (.m b) st)
noncomputable def oMks (bytes : Nat) (z : List V) (l c : Opd) : OpS := fun _ tm st => (ev tm l).onN .no (fun l => (ev tm c).onN .no (fun c =>
  cond (and (Nat.ble l c) (and (Nat.ble c 1099511627776) (Nat.ble (Nat.mul bytes c) 281474976710656))) (st.new (.cells (rep z c) 0) (fun b st => .ok (.sl b 0 l c true) st)) .no))
noncomputable def O3.bnd (o : O3) (k : Nat → Nat → Nat → R) : R := O3.rec (motive := fun _ => R) .no k o
noncomputable def isNone (x : Option Opd) : Bool := Option.rec (motive := fun _ => Bool) true (fun _ => false) x
noncomputable def oSliceS (esz : Nat) (x : Opd) (lo hi mx : Option Opd) : OpS := fun _ tm st =>
  (ev tm x).onSl .no ((bnds 0 0 tm lo hi mx).bnd (fun _ _ _ => .ok .s0 st))
    (fun b o len cap opn => (bnds len cap tm lo hi mx).bnd (fun l h m => .ok (.sl b (Nat.add o (Nat.mul l esz)) (Nat.sub h l) (Nat.sub m l) (cond (isNone mx) opn false)) st))
noncomputable def oSliceA (esz n : Nat) (x : Opd) (lo hi mx : Option Opd) : OpS := fun _ tm st =>
  (ev tm x).onP .no (fun b o => (bnds n n tm lo hi mx).bnd (fun l h m => .ok (.sl b (Nat.add o (Nat.mul l esz)) (Nat.sub h l) (Nat.sub m l) false) st))
noncomputable def oFieldA (off : Nat) (x : Opd) : OpS := fun _ tm st => (ev tm x).onP .no (fun b o => .ok (.p b (Nat.add o off)) st)
noncomputable def oField (off : Nat) (x : Opd) : OpS := fun _ tm st => (ev tm x).onAg .no (fun cs => getAt cs.lst off .no (okv st))
noncomputable def oFieldG (off n : Nat) (x : Opd) : OpS := fun _ tm st => (ev tm x).onAg .no (fun cs => (sub cs.lst off n).bnd .no (fun xs => .ok (.ag (mkl xs)) st))
noncomputable def oIdxA (esz n : Nat) (x i : Opd) : OpS := fun _ tm st => (ev tm i).onN .no (fun j => cond (Nat.blt j n) ((ev tm x).onP .no (fun b o => .ok (.p b (Nat.add o (Nat.mul j esz))) st)) .no)
noncomputable def oIdxS (esz : Nat) (x i : Opd) : OpS := fun _ tm st => (ev tm i).onN .no (fun j => (ev tm x).onSl .no .no (fun b o n _ _ => cond (Nat.blt j n) (.ok (.p b (Nat.add o (Nat.mul j esz))) st) .no))
noncomputable def oIdxV (esz n : Nat) (agg : Bool) (x i : Opd) : OpS := fun _ tm st => (ev tm i).onN .no (fun j => cond (Nat.blt j n) ((ev tm x).onAg .no (fun cs =>
  cond agg ((sub cs.lst (Nat.mul j esz) esz).bnd .no (fun xs => .ok (.ag (mkl xs)) st)) (getAt cs.lst (Nat.mul j esz) .no (okv st)))) .no)
noncomputable def byteAt (l : List UInt8) (n : Nat) (st : St) : R :=
  List.rec (motive := fun _ => Nat → R) (fun _ => .no) (fun x _ g n => cond (Nat.beq n 0) (.ok (.i .u8 (.ofNat x.toNat)) st) (g (Nat.sub n 1))) l n
noncomputable def oIdxC (x i : Opd) : OpS := fun _ tm st => (ev tm i).onN .no (fun j => (ev tm x).onS .no (fun bs => byteAt bs j st))
noncomputable def oLookup (z : V) (ok : Bool) (x k : Opd) : OpS := fun _ tm st =>
  OE.rec (motive := fun _ => R) .no (okv st (cond ok (.tu (.co z (.co (.b false) .nl))) z)) (fun v => okv st (cond ok (.tu (.co v (.co (.b true) .nl))) v))
    ((ev tm x).onM .no .nf (fun r => (st.at r).onMap .no (fun es _ => findE (ev tm k) es)))
noncomputable def oMapUp (m k v : Opd) : OpS := fun _ tm st => (ev tm m).onM .no .no (fun r => (st.at r).onMap .no (fun es c =>
  OU.rec (motive := fun _ => R) .no (fun es nw => .ok un (st.put r (.map es (cond nw (Nat.add c 1) c)))) (updE (ev tm k) (ev tm v) c es)))
noncomputable def oRange (x : Opd) : OpS := fun _ tm st => (ev tm x).onM .no (st.new (.iter none 0 [] 0) (fun b st => .ok (.p b 0) st))
  (fun r => (st.at r).onMap .no (fun _ c => st.new (.iter (some r) c [] c) (fun b st => .ok (.p b 0) st)))
/-- a step of a range over a map: where no choice is open. -/
noncomputable def oNext (x : Opd) : OpS := fun _ tm st => (ev tm x).onP .no (fun b o => cond (Nat.beq o 0) ((st.at b).onIter .no (fun m since seen last =>
  Option.rec (motive := fun _ => R) (okv st (.tu (.co (.b false) .nl))) (fun r => (st.at r).onMap .no (fun es c =>
    List.rec (motive := fun _ => R) (cond (List.rec (motive := fun _ => Bool) true (fun _ _ _ => someOld last es) es) (okv st (.tu (.co (.b false) .nl))) .no)
      (fun e l _ => List.rec (motive := fun _ => R) (ent e (fun k v born => cond (and (Nat.blt born since) (Nat.blt born last)) (.ok (.tu (.co (.b true) (.co k (.co v .nl)))) (st.put b (.iter (some r) since (List.append seen [born]) c))) .no)) (fun _ _ _ => .no) l) (unseen seen es))) m)) .no)
noncomputable def oEntry (x : Opd) : OpS := fun _ tm st => (ev tm x).onP .no (fun b o => cond (Nat.beq o 0) ((st.at b).onIter .no (fun m _ seen last =>
  Option.rec (motive := fun _ => R) .no (fun r => (st.at r).onMap .no (fun es c => cond (Nat.beq c last) ((entryE (lastN seen) es).bnd .no (fun k v _ => cond (memN (lastN seen) seen) (okv st (.tu (.co k (.co v .nl)))) .no)) .no)) m)) .no)
noncomputable def oExt (x : Opd) (i : Nat) : OpS := fun _ tm st => (ev tm x).onTu .no (fun vs => getAt vs.lst i .no (okv st))
noncomputable def oCallF (f : Pos) (args : List Opd) : OpS := fun call tm st => call (.f f .nl .nl) (evs tm args) st
noncomputable def oCallV (f : Opd) (args : List Opd) : OpS := fun call tm st => call (ev tm f) (evs tm args) st
noncomputable def oS2b (x : Opd) : OpS := fun _ tm st => (ev tm x).onSl .no .no (fun b o l c q => .ok (.sl b o l c q) st)
noncomputable def oS2a (n : Nat) (x : Opd) : OpS := fun _ tm st => (ev tm x).onSl .no .no (fun b o len _ _ => cond (Nat.ble n len) (.ok (.p b o) st) .no)
noncomputable def oXadd (a x : Opd) : OpS := fun _ tm st => (ev tm a).onP .no (fun b o => st.row b .no (fun cs t => wr t (getAt cs o .no (fun v => v.onI .no (fun k m => (ev tm x).onI .no (fun k' n =>
  cond (and (Nat.beq (kb k) 3) (Nat.beq (kb k') 3)) ((setsAt cs o [.i .i64 (wrapF .i64 (Int.add m n))]).bnd .no (fun cs => .ok (.i .i64 (wrapF .i64 (Int.add m n))) (st.put b (.cells cs t)))) .no))))))

/-! builtins, on the arguments' values -/
noncomputable def args1 (l : V) (k : V → R) : R := List.rec (motive := fun _ => R) .no (fun x _ _ => k x) l.lst
noncomputable def args2 (l : V) (k : V → V → R) : R := List.rec (motive := fun _ => R) .no (fun x r _ => List.rec (motive := fun _ => R) .no (fun y _ _ => k x y) r) l.lst
noncomputable def nat64 (n : Nat) : V := .i .i64 (.ofNat n)
noncomputable def bLen (l : V) (st : St) : R := args1 l (fun x => x.onSl .no (okv st (nat64 0)) (fun _ _ n _ _ => okv st (nat64 n)))
noncomputable def bLenM (l : V) (st : St) : R := args1 l (fun x => x.onM .no (okv st (nat64 0)) (fun r => (st.at r).onMap .no (fun es _ => okv st (nat64 (len es)))))
noncomputable def bCap (l : V) (st : St) : R := args1 l (fun x => x.onSl .no (okv st (nat64 0)) (fun b _ _ c opn => st.row b .no (fun _ t => cond (and opn (Nat.blt 0 t)) .no (okv st (nat64 c)))))
noncomputable def bMin (l : V) (st : St) : R := args2 l (fun x y => x.onI .no (fun k a => y.onI .no (fun _ b => okv st (.i k (cond (iltb a b) a b)))))
noncomputable def bMax (l : V) (st : St) : R := args2 l (fun x y => x.onI .no (fun k a => y.onI .no (fun _ b => okv st (.i k (cond (iltb b a) a b)))))
noncomputable def bClearMap (l : V) (st : St) : R := args1 l (fun x => x.onM .no .no (fun r => (st.at r).onMap .no (fun _ c => .ok un (st.put r (.map [] c)))))
noncomputable def bClearSl (z : List V) (l : V) (st : St) : R := args1 l (fun x => x.onSl .no (okv st un) (fun b o n _ _ => st.row b .no (fun cs t => wr t ((setsAt cs o (rep z n)).bnd .no (fun cs => .ok un (st.put b (.cells cs t)))))))
noncomputable def nmin (a b : Nat) : Nat := cond (Nat.ble a b) a b
noncomputable def bCopy (esz : Nat) (l : V) (st : St) : R := args2 l (fun d s =>
  d.onSl .no (s.onSl .no (okv st (nat64 0)) (fun _ _ _ _ _ => okv st (nat64 0))) (fun db do_ dn _ _ => s.onSl .no (okv st (nat64 0)) (fun sb so sn _ _ =>
    st.row sb .no (fun scs _ => (sub scs so (Nat.mul (nmin sn dn) esz)).bnd .no (fun xs => st.row db .no (fun dcs t => wr t ((setsAt dcs do_ xs).bnd .no (fun cs => .ok (nat64 (nmin sn dn)) (st.put db (.cells cs t))))))))))
noncomputable def ones (l : List V) : Bool := List.rec (motive := fun _ => Bool) true (fun x _ g => and x.one g) l
/-- what is appended: its cells, how many elements. -/
noncomputable def source (esz bytes : Nat) (z : List V) (zm : Bool) (x : V) (st : St) (k : List V → Nat → R) : R :=
  cond zm (x.onN .no (fun n => cond (and (Nat.ble n 1099511627776) (Nat.ble (Nat.mul n bytes) 281474976710656)) (k (rep z n) n) .no)) (x.onSl .no (k [] 0) (fun b o n _ _ => st.row b .no (fun cs _ => (sub cs o (Nat.mul n esz)).bnd .no (fun xs => k xs n))))
noncomputable def fresh (esz bytes : Nat) (st : St) (cs : List V) (n : Nat) : R :=
  cond (and (Nat.ble n 1099511627776) (Nat.ble (Nat.mul (Nat.add (Nat.mul 2 n) 1000) bytes) 281474976710656)) (st.new (.cells cs esz) (fun b st => .ok (.sl b 0 n n true) st)) .no
noncomputable def appOn (esz bytes : Nat) (st : St) (b : Pos) (o len cap : Nat) (opn : Bool) (cs : List V) (t : Nat) (xs : List V) (need : Nat) : R :=
  cond (Nat.ble need cap) (wr t ((setsAt cs (Nat.add o (Nat.mul len esz)) xs).bnd .no (fun cs => .ok (.sl b o need cap opn) (st.put b (.cells cs t)))))
    ((sub cs o (Nat.mul len esz)).bnd .no (fun old => cond (and opn (Nat.blt 0 t))
      (wr t (cond (and (ones xs) (and (Nat.beq t esz) (and (Nat.beq cap len) (Nat.beq (Nat.add o (Nat.mul len esz)) (Den.len cs))))) (fresh esz bytes (st.put b .dead) (lappend old xs) need) .no))
      (fresh esz bytes st (lappend old xs) need)))
noncomputable def bAppend (esz bytes : Nat) (z : List V) (zm : Bool) (l : V) (st : St) : R := cond (Nat.beq esz 0) .no (args2 l (fun s x => source esz bytes z zm x st (fun xs n =>
  s.onSl .no (cond (Nat.beq n 0) (okv st .s0) (fresh esz bytes st xs n)) (fun b o len cap opn => st.row b .no (fun cs t => appOn esz bytes st b o len cap opn cs t xs (Nat.add len n))))))
noncomputable def oBi (b : Bi) (args : List Opd) : OpS := fun _ tm st =>
  Bi.rec (motive := fun _ => V → St → R) bLen bLenM bCap bAppend bCopy bClearMap bClearSl bMin bMax (fun _ st => .ok .i0 st) b (evs tm args) st

noncomputable def op (o : AOp) : OpS :=
  AOp.rec (motive := fun _ => OpS) oMv oPick oAlloc oBox oBuild oBuildS oLoad oLoadA oStore oNilc oBin oEqb oEqs oEqn oEqa oNot oNeg oCom oConv oMki oMkf oMkm oMks oSliceS oSliceA oFieldA oField oFieldG oIdxA oIdxS oIdxV oIdxC oLookup oMapUp oRange oNext oEntry oExt
    oCallF oCallV oBi oS2b oS2a oXadd (fun _ _ _ _ => .no) o

noncomputable def tset (tm : T V) (d : Option Pos) (v : V) : T V := Option.rec (motive := fun _ => T V) tm (fun p => T.set un v tm p) d
abbrev OpsS := T V → St → RO
noncomputable def doMk (call : Cl) (dst : Option Pos) (o : AOp) (k : OpsS) : OpsS := fun tm st => (op o call tm st).bnd .no (fun v st => k (tset tm dst v) st)
noncomputable def doGd (call : Cl) (g : Pos) (w : Bool) (dst : Option Pos) (o : AOp) (k : OpsS) : OpsS := fun tm st =>
  cond ((tg tm g).onB false (fun t => t == w)) (doMk call dst o k tm st) (k (tset tm dst un) st)
noncomputable def Pos.beq (p q : Pos) : Bool :=
  Pos.rec (motive := fun _ => Pos → Bool) (fun q => Pos.rec (motive := fun _ => Bool) true (fun _ _ => false) (fun _ _ => false) q)
    (fun _ g q => Pos.rec (motive := fun _ => Bool) false (fun q _ => g q) (fun _ _ => false) q) (fun _ g q => Pos.rec (motive := fun _ => Bool) false (fun _ _ => false) (fun q _ => g q) q) p q
noncomputable def doDf (id : Pos) (f : Opd) (k : OpsS) : OpsS := fun tm st => (ev tm f).onF .no (fun g _ _ => cond (Pos.beq g id) (k tm st) .no) (fun _ => .no)
noncomputable def doOper (call : Cl) (o : AOper) (k : OpsS) : OpsS :=
  AOper.rec (motive := fun _ => OpsS) (fun d o => doMk call d o k) (fun g w d o => doGd call g w d o k) (fun id f => doDf id f k) o
noncomputable def ops (call : Cl) (l : List AOper) : OpsS := List.rec (motive := fun _ => OpsS) (fun tm st => .ok tm st) (fun o _ k => doOper call o k) l

/-! regions that draw their order -/
/-- the same values? -/
noncomputable def V.eqv (x y : V) : Bool :=
  V.rec (motive := fun _ => V → Bool)
    (fun a y => y.onB false (fun b => a == b)) (fun k n y => y.onI false (fun k' n' => and (Nat.beq (kb k) (kb k')) (ieqb n n'))) (fun a y => y.onS false (fun b => eqBytes a b))
    (fun y => y.onPtr false true (fun _ _ => false)) (fun b o y => y.onPtr false false (fun b' o' => and (Pos.beq b b') (Nat.beq o o')))
    (fun y => y.onSl false true (fun _ _ _ _ _ => false)) (fun b o n c q y => y.onSl false false (fun b' o' n' c' q' => and (Pos.beq b b') (and (Nat.beq o o') (and (Nat.beq n n') (and (Nat.beq c c') (q == q'))))))
    (fun y => y.onM false true (fun _ => false)) (fun r y => y.onM false false (fun r' => Pos.beq r r'))
    (fun f _ _ ga gb y => y.onFn false false (fun f' a b => and (Pos.beq f f') (and (ga a) (gb b)))) (fun _ _ => false) (fun y => y.onFn false true (fun _ _ _ => false))
    (fun t _ g y => y.onIt false false (fun t' v => and (Nat.beq t t') (g v))) (fun y => y.onIt false true (fun _ _ => false))
    (fun _ g y => y.onAg false g) (fun _ g y => y.onTu false g) (fun y => y.onCo false true (fun _ _ => false)) (fun _ _ gx gr y => y.onCo false false (fun x r => and (gx x) (gr r))) x y
noncomputable def same (call : Cl) (o : AOp) (tm : T V) (v : V) (st : St) : Bool := (op o call tm st).bnd false (fun v' _ => V.eqv v v')
/-- a reading that waits: up to which number, what, on which temporaries, what it told. -/
inductive Wt | mk (hi : Nat) (o : AOp) (tm : T V) (v : V)
abbrev Hs := List (Nat × St)
noncomputable def backOk (call : Cl) (o : AOp) (tm : T V) (v : V) (lo : Nat) (hist : Hs) : Bool :=
  List.rec (motive := fun _ => Bool) true (fun p _ g => and (cond (Nat.ble lo p.1) (same call o tm v p.2) true) g) hist
noncomputable def waitOk (call : Cl) (e : Nat) (st : St) (l : List Wt) : Bool :=
  List.rec (motive := fun _ => Bool) true (fun w _ g => Wt.rec (motive := fun _ => Bool) (fun hi o tm v => and (cond (Nat.ble e hi) (same call o tm v st) true) g) w) l
noncomputable def Pos.nm (p : Pos) : Nat := Pos.rec (motive := fun _ => Nat) 0 (fun _ g => Nat.add (Nat.mul 2 g) 1) (fun _ g => Nat.add (Nat.mul 2 g) 2) p
noncomputable def St.size (st : St) : Nat := St.rec (motive := fun _ => Nat) (fun _ nx => nx.nm) st
abbrev DS := Hs → List Wt → T V → St → RO
noncomputable def drQ (call : Cl) (o : AOper) (k : DS) : DS := fun h ws tm st => doOper call o (fun tm st => k h ws tm st) tm st
noncomputable def drE (call : Cl) (i : Nat) (o : AOper) (k : DS) : DS := fun h ws tm st => doOper call o (fun tm' st' => cond (and (Nat.ble st.size st'.size) (waitOk call i st' ws)) (k ((i, st) :: h) ws tm' st') .no) tm st
noncomputable def ldMk (call : Cl) (dst : Option Pos) (o : AOp) (lo hi : Nat) (k : DS) : DS := fun h ws tm st =>
  (op o call tm st).bnd .no (fun v st' => cond (backOk call o tm v lo h) (k h (.mk hi o tm v :: ws) (tset tm dst v) st') .no)
noncomputable def drL (call : Cl) (o : AOper) (lo hi : Nat) (k : DS) : DS :=
  AOper.rec (motive := fun _ => DS) (fun d o => ldMk call d o lo hi k) (fun g w d o h ws tm st => cond ((tg tm g).onB false (fun t => t == w)) (ldMk call d o lo hi k h ws tm st) (k h ws (tset tm d un) st)) (fun _ _ _ _ _ _ => .no) o
noncomputable def drO (call : Cl) (o : DOper) (k : DS) : DS := DOper.rec (motive := fun _ => DS) (fun o => drQ call o k) (fun o b f => drL call o b f k) (fun i o => drE call i o k) o
noncomputable def opsD (call : Cl) (l : List DOper) : DS := List.rec (motive := fun _ => DS) (fun _ _ tm st => .ok tm st) (fun o _ k => drO call o k) l

noncomputable def putP (ps : List Pos) (vs : List V) (tm : T V) : T V :=
  List.rec (motive := fun _ => List V → T V → T V) (fun _ tm => tm) (fun p _ g vs tm => List.rec (motive := fun _ => T V) tm (fun v vs _ => g vs (T.set un v tm p)) vs) ps vs tm

abbrev CS := T V → St → RC
noncomputable def onEx (x : Ex) {β : Type} (n : β) (e : Nat → β) (r : β) : β := Ex.rec (motive := fun _ => β) n e r x
noncomputable def RC.bnd {β : Type} (r : RC) (no : β) (k : Ex → T V → St → β) : β := RC.rec (motive := fun _ => β) no k r
noncomputable def RO.bnd {β : Type} (r : RO) (no : β) (k : T V → St → β) : β := RO.rec (motive := fun _ => β) no k r
noncomputable def cReg (call : Cl) (l : List AOper) : CS := fun tm st => (ops call l tm st).bnd .no (fun tm st => .ok .nrm tm st)
noncomputable def cRegD (call : Cl) (l : List DOper) : CS := fun tm st => (opsD call l [] [] tm st).bnd .no (fun tm st => .ok .nrm tm st)
noncomputable def cSeq (a b : CS) : CS := fun tm st => (a tm st).bnd .no (fun x tm st => onEx x (b tm st) (fun i => .ok (.ex i) tm st) (.ok .ret tm st))
noncomputable def cCond (c : Opd) (a b : CS) : CS := fun tm st => (ev tm c).onB .no (fun t => cond t (a tm st) (b tm st))
noncomputable def cBlock (id : Nat) (a : CS) : CS := fun tm st => (a tm st).bnd .no (fun x tm st =>
  onEx x (.ok .nrm tm st) (fun j => cond (Nat.beq j id) (.ok .nrm tm st) (.ok (.ex j) tm st)) (.ok .ret tm st))
noncomputable def cLoop (K : Nat) (a : CS) : CS :=
  Nat.rec (motive := fun _ => CS) (fun _ _ => .no) (fun _ g tm st => (a tm st).bnd .no (fun x tm st => onEx x (g tm st) (fun i => .ok (.ex i) tm st) (.ok .ret tm st))) K
noncomputable def cRf (call : Cl) (f : Opd) (ps : List Pos) (as bo : C) : CS := fun tm st => (ev tm f).onF .no (fun _ _ _ => st.new (.loop 0 tm .nrm ps as bo) (fun l st =>
  (call (ev tm f) (.co (.y l) .nl) st).bnd .no (fun _ st => (st.at l).onLoop .no (fun s tm1 pend ps1 as1 bo1 => cond (Nat.beq s 1) .no (.ok pend tm (st.put l (.loop 3 tm1 pend ps1 as1 bo1))))))) (fun _ => .no)
noncomputable def code (call : Cl) (K : Nat) (c : C) : CS :=
  C.rec (motive := fun _ => CS) (fun tm st => .ok .nrm tm st) (cReg call) (cRegD call) (fun _ _ a b => cSeq a b) (fun c _ _ a b => cCond c a b) (fun id _ a => cBlock id a) (fun _ a => cLoop K a)
    (fun f ps as bo _ _ => cRf call f ps as bo) (fun id tm st => .ok (.ex id) tm st) (fun tm st => .ok .ret tm st) (fun _ _ => .no) c

noncomputable def resV (tm : T V) (st : St) (l : List RsV) : OL :=
  List.rec (motive := fun _ => OL) (.ok []) (fun r _ g => g.bnd .no (fun vs => RsV.rec (motive := fun _ => OL) (fun n => .ok (tg tm n :: vs))
    (fun a => (tg tm a).onP .no (fun b o => st.row b .no (fun cs _ => (sub cs o 1).bnd .no (fun xs => .ok (lappend xs vs)))))
    (fun a n => (tg tm a).onP .no (fun b o => st.row b .no (fun cs _ => (sub cs o n).bnd .no (fun xs => .ok (.ag (mkl xs) :: vs))))) r)) l
noncomputable def args0 (vs : V) (n : Pos) (t : T V) : T V := List.rec (motive := fun _ => Pos → T V → T V) (fun _ t => t) (fun v _ g n t => g n.succ (T.set un v t n)) vs.lst n t
noncomputable def retV (l : List V) (st : St) : R :=
  List.rec (motive := fun _ => R) (.ok un st) (fun v r _ => List.rec (motive := fun _ => R) (.ok v st) (fun _ _ _ => .ok (.tu (mkl l)) st) r) l
noncomputable def leave (res : List RsV) (tm : T V) (st : St) : R := (resV tm st res).bnd .no (fun l => retV l st)
noncomputable def enter (K : Nat) (af : AFunc) (call : Cl) (args : V) (st : St) : R :=
  AFunc.rec (motive := fun _ => R) (fun res body => (code call K body (args0 args .h .e) st).bnd .no (fun x tm st => onEx x (leave res tm st) (fun _ => .no) (leave res tm st))) af
noncomputable def isNrm (x : Ex) : Bool := onEx x true (fun _ => false) false
/-- as many values as temporaries? -/
noncomputable def sameLen (ps : List Pos) (vs : List V) : Bool :=
  List.rec (motive := fun _ => List V → Bool) (fun vs => List.rec (motive := fun _ => Bool) true (fun _ _ _ => false) vs) (fun _ _ g vs => List.rec (motive := fun _ => Bool) false (fun _ vs _ => g vs) vs) ps vs
noncomputable def round (call : Cl) (K : Nat) (l : Pos) (args : V) (st : St) : R :=
  (st.at l).onLoop .no (fun s tm _ ps as bo => cond (and (Nat.beq s 0) (sameLen ps args.lst))
    ((code call K as (putP ps args.lst tm) st).bnd .no (fun x tm' st => onEx x
      ((st.at l).onLoop .no (fun s tm1 pend1 ps1 as1 bo1 => cond (Nat.beq s 0) ((code call K bo tm' (st.put l (.loop 1 tm1 pend1 ps1 as1 bo1))).bnd .no
        (fun x _ st => (st.at l).onLoop .no (fun _ tm2 _ ps2 as2 bo2 => .ok (.b (isNrm x)) (st.put l (.loop (cond (isNrm x) 0 2) tm2 x ps2 as2 bo2))))) .no))
      (fun _ => .no) .no)) .no)
abbrev Fx := Cl → V → St → R
noncomputable def callN (FT : Pos → Fx) (K : Nat) (n : Nat) : Cl :=
  Nat.rec (motive := fun _ => Cl) (fun _ _ _ => .no) (fun _ call f args st => f.onF .no (fun f first cap => FT f call (V.app first (V.app args cap)) st) (fun l => round call K l args st)) n

noncomputable def R.yes (r : R) : Bool := r.bnd false (fun v _ => v.onB false (fun b => b))
end Den

namespace Den
open Go

def Pos.num : Pos → Nat
  | .h => 0
  | .o p => 2 * p.num + 1
  | .i p => 2 * p.num + 2
theorem Pos.num_inj {p : Pos} : ∀ {q : Pos}, p.num = q.num → p = q := by
  induction p with
  | h => intro q e; cases q <;> simp [Pos.num] at e ⊢
  | o p ih => intro q e; cases q <;> simp [Pos.num] at e ⊢; exact ih (by omega); omega
  | i p ih => intro q e; cases q <;> simp [Pos.num] at e ⊢; omega; exact ih (by omega)
theorem Pos.num_succ : ∀ (p : Pos), p.succ.num = p.num + 1
  | .h => rfl
  | .o p => by show (Pos.i p).num = _; simp [Pos.num]
  | .i p => by show (Pos.o p.succ).num = _; simp [Pos.num, Pos.num_succ p]; omega
theorem Pos.beq_eq {p : Pos} : ∀ {q : Pos}, Pos.beq p q = true → p = q := by
  induction p with
  | h => intro q e; cases q <;> first | rfl | cases e
  | o p ih => intro q e; cases q <;> first | cases e | exact congrArg Pos.o (ih e)
  | i p ih => intro q e; cases q <;> first | cases e | exact congrArg Pos.i (ih e)

section trie
variable {α : Type} {d x : α}
theorem T.get_one : ∀ (p q : Pos), T.get d (T.one d x p) q = if q = p then x else d
  | .h, .h => rfl
  | .h, .o _ | .h, .i _ => by simp; rfl
  | .o _, .h | .i _, .h => by simp; rfl
  | .o p, .i q | .i p, .o q => by simp; rfl
  | .o p, .o q | .i p, .i q => by
    show T.get d (T.one d x p) q = _
    rw [T.get_one p q]; by_cases h : q = p <;> simp [h]
theorem T.get_set (t : T α) : ∀ (p q : Pos), T.get d (T.set d x t p) q = if q = p then x else T.get d t q := by
  induction t with
  | e => exact fun p q => T.get_one p q
  | n v l r il ir =>
    intro p q
    cases p with
    | h => cases q <;> (simp; rfl)
    | o p =>
      cases q with
      | h => simp; rfl
      | i q => simp; rfl
      | o q =>
        show T.get d (T.set d x l p) q = if Pos.o q = Pos.o p then x else T.get d l q
        rw [il]; simp
    | i p =>
      cases q with
      | h => simp; rfl
      | o q => simp; rfl
      | i q =>
        show T.get d (T.set d x r p) q = if Pos.i q = Pos.i p then x else T.get d r q
        rw [ir]; simp
end trie

/-! lists -/
theorem getAt_eq (l : List V) (z : R) (k : V → R) : ∀ n, getAt l n z k = match l[n]? with | some v => k v | none => z := by
  induction l with
  | nil => intro n; simp; rfl
  | cons x l ih =>
    intro n
    cases n with
    | zero => rfl
    | succ n => show getAt l (n + 1 - 1) z k = _; simp [ih]
theorem dropN_eq (l : List V) : ∀ n, dropN l n = l.drop n := by
  induction l with
  | nil => intro n; simp; rfl
  | cons x l ih =>
    intro n
    cases n with
    | zero => rfl
    | succ n => show dropN l (n + 1 - 1) = _; simp [ih]
theorem takeN_ok (l : List V) : ∀ n xs, takeN l n = .ok xs → n ≤ l.length ∧ xs = l.take n := by
  induction l with
  | nil =>
    intro n xs h
    cases n with
    | zero => cases h; simp
    | succ n => cases h
  | cons x l ih =>
    intro n xs h
    cases n with
    | zero => cases h; simp
    | succ n =>
      change OL.bnd (takeN l (n + 1 - 1)) OL.no (fun r => OL.ok (x :: r)) = _ at h
      simp only [Nat.add_sub_cancel] at h
      cases hr : takeN l n with
      | no => rw [hr] at h; cases h
      | ok r =>
        rw [hr] at h; cases h
        obtain ⟨h1, h2⟩ := ih n r hr
        exact ⟨by simp; omega, by simp [h2]⟩
theorem sub_ok {l : List V} {o n : Nat} {xs : List V} (h : sub l o n = .ok xs) : xs = (l.drop o).take n ∧ xs.length = n := by
  unfold sub at h
  rw [dropN_eq] at h
  obtain ⟨h1, h2⟩ := takeN_ok _ _ _ h
  exact ⟨h2, by rw [h2]; simp; simp at h1; omega⟩
theorem sub_get {l : List V} {o n : Nat} {xs : List V} (h : sub l o n = .ok xs) (k : Nat) (hk : k < n) : xs[k]? = l[o + k]? := by
  obtain ⟨h1, _⟩ := sub_ok h
  rw [h1, List.getElem?_take_of_lt hk, List.getElem?_drop]
theorem sub_le {l : List V} {o n : Nat} {xs : List V} (h : sub l o n = .ok xs) (hn : 0 < n) : o + n ≤ l.length := by
  obtain ⟨h1, h2⟩ := sub_ok h
  rw [h1] at h2; simp at h2; omega
theorem over_ok (xs : List V) : ∀ cs cs', over xs cs = .ok cs' → xs.length ≤ cs.length ∧ cs' = xs ++ cs.drop xs.length ∧ ∀ x ∈ xs, x.one = true := by
  induction xs with
  | nil => intro cs cs' h; cases h; simp
  | cons x xs ih =>
    intro cs cs' h
    cases cs with
    | nil => cases h
    | cons c cs =>
      change cond (V.one x) (OL.bnd (over xs cs) OL.no (fun r => OL.ok (x :: r))) OL.no = _ at h
      cases ho : V.one x with
      | false => rw [ho] at h; cases h
      | true =>
        rw [ho] at h
        change OL.bnd (over xs cs) OL.no (fun r => OL.ok (x :: r)) = _ at h
        cases hr : over xs cs with
        | no => rw [hr] at h; cases h
        | ok r =>
          rw [hr] at h; cases h
          obtain ⟨h1, h2, h3⟩ := ih cs r hr
          exact ⟨by simp; omega, by simp [h2], by simp [ho]; exact h3⟩
theorem setsAt_ok (cs : List V) : ∀ n xs cs', setsAt cs n xs = .ok cs' → n + xs.length ≤ cs.length ∧ cs' = cs.take n ++ (xs ++ cs.drop (n + xs.length)) ∧ ∀ x ∈ xs, x.one = true := by
  induction cs with
  | nil =>
    intro n xs cs' h
    cases n with
    | zero => obtain ⟨h1, h2, h3⟩ := over_ok xs [] cs' h; exact ⟨by simpa using h1, by simpa using h2, h3⟩
    | succ n => cases h
  | cons c cs ih =>
    intro n xs cs' h
    cases n with
    | zero => obtain ⟨h1, h2, h3⟩ := over_ok xs (c :: cs) cs' h; exact ⟨by simpa using h1, by simpa using h2, h3⟩
    | succ n =>
      change OL.bnd (setsAt cs (n + 1 - 1) xs) OL.no (fun r => OL.ok (c :: r)) = _ at h
      simp only [Nat.add_sub_cancel] at h
      cases hr : setsAt cs n xs with
      | no => rw [hr] at h; cases h
      | ok r =>
        rw [hr] at h; cases h
        obtain ⟨h1, h2, h3⟩ := ih n xs r hr
        exact ⟨by simp; omega, by simp [h2, Nat.add_right_comm], h3⟩
theorem setsAt_get {cs xs cs' : List V} {n : Nat} (h : setsAt cs n xs = .ok cs') (k : Nat) :
    cs'[k]? = if n ≤ k ∧ k < n + xs.length then xs[k - n]? else cs[k]? := by
  obtain ⟨h1, h2, _⟩ := setsAt_ok _ _ _ _ h
  rw [h2]
  by_cases a : k < n
  · rw [if_neg (by omega), List.getElem?_append_left (by simp; omega), List.getElem?_take_of_lt a]
  · rw [List.getElem?_append_right (by simp; omega)]
    have hl : (List.take n cs).length = n := by simp; omega
    rw [hl]
    by_cases b : k < n + xs.length
    · rw [if_pos ⟨by omega, b⟩, List.getElem?_append_left (by omega)]
    · rw [if_neg (by omega), List.getElem?_append_right (by omega), List.getElem?_drop]
      congr 1; omega
theorem setsAt_length {cs xs cs' : List V} {n : Nat} (h : setsAt cs n xs = .ok cs') : cs'.length = cs.length := by
  obtain ⟨h1, h2, _⟩ := setsAt_ok _ _ _ _ h
  rw [h2]; simp; omega
theorem lappend_eq (a b : List V) : lappend a b = a ++ b := by
  induction a with
  | nil => rfl
  | cons x a ih => show x :: lappend a b = _; simp [ih]
theorem len_eq {α : Type} (l : List α) : len l = l.length := by
  induction l with
  | nil => rfl
  | cons x l ih => show len l + 1 = _; simp [ih]
theorem lst_mkl (l : List V) : (mkl l).lst = l := by
  induction l with
  | nil => rfl
  | cons x l ih => show x :: (mkl l).lst = _; rw [ih]
theorem rep_eq (z : List V) : ∀ n, rep z n = (List.replicate n z).flatten
  | 0 => rfl
  | n + 1 => by show lappend z (rep z n) = _; rw [lappend_eq, rep_eq z n, List.replicate_succ]; simp

/-! the store -/
theorem St.at_mk (o : T Obj) (nx p : Pos) : (St.mk o nx).at p = T.get .dead o p := rfl
def St.nx : St → Pos | .mk _ nx => nx
theorem St.at_put (σ : St) (b : Pos) (ob : Obj) (p : Pos) : (σ.put b ob).at p = if p = b then ob else σ.at p := by
  cases σ; exact T.get_set ..
theorem St.nx_put (σ : St) (b : Pos) (ob : Obj) : (σ.put b ob).nx = σ.nx := by cases σ; rfl
noncomputable def St.add (σ : St) (ob : Obj) : St := match σ with | .mk o nx => .mk (T.set .dead ob o nx) nx.succ
theorem St.new_eq {β : Type} (σ : St) (ob : Obj) (k : Pos → St → β) : σ.new ob k = k σ.nx (σ.add ob) := by cases σ; rfl
theorem St.at_add (σ : St) (ob : Obj) (p : Pos) : (σ.add ob).at p = if p = σ.nx then ob else σ.at p := by
  cases σ; exact T.get_set ..
theorem St.nx_add (σ : St) (ob : Obj) : (σ.add ob).nx = σ.nx.succ := by cases σ; rfl
theorem St.row_ok {σ : St} {b : Pos} {k : List V → Nat → R} {v : V} {σ' : St} (h : σ.row b .no k = .ok v σ') : ∃ cs t, σ.at b = .cells cs t ∧ k cs t = .ok v σ' := by
  cases σ with
  | mk o nx =>
    change Obj.onC (T.get .dead o b) .no k = _ at h
    show ∃ cs t, T.get .dead o b = _ ∧ _
    cases hb : T.get .dead o b with
    | cells cs t => rw [hb] at h; exact ⟨cs, t, rfl, h⟩
    | _ => rw [hb] at h; cases h
end Den

namespace Den
open Go

/-- where an abstract block lies: the block, how far in, how many elements more it has room for. -/
abbrev Inj := Pos → Option (Nat × Nat × Nat)

mutual
inductive VR (ι : Inj) : V → Value → Prop
  | b (x : Bool) : VR ι (.b x) (.bool x)
  | i (k : IntKind) (n : Int) : VR ι (.i k n) (.int k n)
  | s (l : List UInt8) (x : ByteArray) : x.data.toList = l → VR ι (.s l) (.string x)
  | p0 : VR ι .p0 (.pointer none)
  | p {b : Pos} {o B d X : Nat} : ι b = some (B, d, X) → VR ι (.p b o) (.pointer (some ⟨B, d + o, none⟩))
  | s0 : VR ι .s0 (.slice none 0 0)
  | sl {b : Pos} {o len cap : Nat} {opn : Bool} {B d X : Nat} {a : Addr} {c : Nat} : ι b = some (B, d, X) → c = cap + (cond opn X 0) → len ≤ cap → (c = 0 ∨ a = ⟨B, d + o, none⟩) →
      VR ι (.sl b o len cap opn) (.slice (some a) len c)
  | m0 : VR ι .m0 (.map none)
  | m {r : Pos} {B d X : Nat} : ι r = some (B, d, X) → VR ι (.m r) (.map (some B))
  | f {f : Pos} {F : Nat} {fs cs : V} {Fs Cs : Array Value} : f.num = F → VL ι fs Fs.toList → VL ι cs Cs.toList → VR ι (.f f fs cs) (.func (.func F) Fs Cs)
  | y {l : Pos} {L d X : Nat} : ι l = some (L, d, X) → VR ι (.y l) (.func (.yield L) #[] #[])
  | f0 : VR ι .f0 .nilFunc
  | it {t : TypeId} {v : V} {v' : Value} : VR ι v v' → VR ι (.it t v) (.iface t v')
  | i0 : VR ι .i0 .nilIface
  | ag {l : V} {cs : Array Value} : VL ι l cs.toList → VR ι (.ag l) (.agg cs)
  | tu {l : V} {cs : Array Value} : VL ι l cs.toList → VR ι (.tu l) (.tuple cs)
inductive VL (ι : Inj) : V → List Value → Prop
  | nl : VL ι .nl []
  | co {x r : V} {v : Value} {vs : List Value} : VR ι x v → VL ι r vs → VL ι (.co x r) (v :: vs)
end

def Inj.le (ι ι' : Inj) : Prop := ∀ p l, ι p = some l → ι' p = some l
theorem Inj.le.refl (ι : Inj) : ι.le ι := fun _ _ h => h
theorem Inj.le.trans {a b c : Inj} (h : a.le b) (k : b.le c) : a.le c := fun p l e => k p l (h p l e)

mutual
theorem VR.mono {ι ι' : Inj} (h : ι.le ι') {v : V} {v' : Value} (r : VR ι v v') : VR ι' v v' :=
  match r with
  | .b x => .b x
  | .i k n => .i k n
  | .s l x e => .s l x e
  | .p0 => .p0
  | .p e => .p (h _ _ e)
  | .s0 => .s0
  | .sl e c l a => .sl (h _ _ e) c l a
  | .m0 => .m0
  | .m e => .m (h _ _ e)
  | .f e a b => .f e (a.mono h) (b.mono h)
  | .y e => .y (h _ _ e)
  | .f0 => .f0
  | .it r => .it (r.mono h)
  | .i0 => .i0
  | .ag l => .ag (l.mono h)
  | .tu l => .tu (l.mono h)
theorem VL.mono {ι ι' : Inj} (h : ι.le ι') {l : V} {l' : List Value} (r : VL ι l l') : VL ι' l l' :=
  match r with
  | .nl => .nl
  | .co a b => .co (a.mono h) (b.mono h)
end

/-- lists of values. -/
inductive CL (ι : Inj) : List V → List Value → Prop
  | nil : CL ι [] []
  | cons {x : V} {v : Value} {r : List V} {vs : List Value} : VR ι x v → CL ι r vs → CL ι (x :: r) (v :: vs)
theorem VL.cl {ι : Inj} {l : V} {l' : List Value} (h : VL ι l l') : CL ι l.lst l' := by
  induction l' generalizing l with
  | nil => cases h; exact .nil
  | cons v vs ih => cases h with | co a b => exact .cons a (ih b)
theorem CL.vl {ι : Inj} {l : List V} {l' : List Value} (h : CL ι l l') : VL ι (mkl l) l' := by
  induction h with
  | nil => exact .nl
  | cons a _ ih => exact .co a ih
theorem CL.mono {ι ι' : Inj} (h : ι.le ι') {l : List V} {l' : List Value} (r : CL ι l l') : CL ι' l l' := by
  induction r with
  | nil => exact .nil
  | cons a _ ih => exact .cons (a.mono h) ih
theorem CL.length {ι : Inj} {l : List V} {l' : List Value} (r : CL ι l l') : l.length = l'.length := by
  induction r with
  | nil => rfl
  | cons _ _ ih => simp [ih]
theorem CL.get {ι : Inj} {l : List V} {l' : List Value} (r : CL ι l l') : ∀ {k : Nat} {v : V}, l[k]? = some v → ∃ v', l'[k]? = some v' ∧ VR ι v v' := by
  induction r with
  | nil => intro k v h; simp at h
  | cons a _ ih =>
    intro k v h
    cases k with
    | zero => simp at h; subst h; exact ⟨_, rfl, a⟩
    | succ k => exact ih (by simpa using h)
theorem CL.of_get {ι : Inj} : ∀ {l : List V} {l' : List Value}, l.length = l'.length → (∀ (k : Nat) (v : V), l[k]? = some v → ∃ v', l'[k]? = some v' ∧ VR ι v v') → CL ι l l'
  | [], [], _, _ => .nil
  | [], _ :: _, h, _ | _ :: _, [], h, _ => by simp at h
  | x :: l, v :: l', hl, h => by
    obtain ⟨v', h1, h2⟩ := h 0 x rfl
    simp at h1; subst h1
    exact .cons h2 (CL.of_get (by simpa using hl) fun k v e => h (k + 1) v (by simpa using e))
theorem CL.append {ι : Inj} {a b : List V} {a' b' : List Value} (h : CL ι a a') (k : CL ι b b') : CL ι (a ++ b) (a' ++ b') := by
  induction h with
  | nil => exact k
  | cons x _ ih => exact .cons x ih
theorem VL.app {ι : Inj} {a b : V} {a' b' : List Value} (h : VL ι a a') (k : VL ι b b') : VL ι (V.app a b) (a' ++ b') := by
  have key : ∀ {l : List V} {l' : List Value}, CL ι l l' → VL ι (List.rec (motive := fun _ => V) b (fun x _ r => .co x r) l) (l' ++ b') := by
    intro l l' hc
    induction hc with
    | nil => exact k
    | cons x _ ih => exact .co x ih
  exact key h.cl

/-- the cells of values. -/
theorem VR.cells {ι : Inj} {v : V} {v' : Value} (h : VR ι v v') : CL ι (cellsOf v) v'.cells.toList := by
  cases h with
  | ag l => exact l.cl
  | b x => exact .cons (.b x) .nil
  | i k n => exact .cons (.i k n) .nil
  | s l x e => exact .cons (.s l x e) .nil
  | p0 => exact .cons .p0 .nil
  | p e => exact .cons (.p e) .nil
  | s0 => exact .cons .s0 .nil
  | sl e c l a => exact .cons (.sl e c l a) .nil
  | m0 => exact .cons .m0 .nil
  | m e => exact .cons (.m e) .nil
  | f e a b => exact .cons (.f e a b) .nil
  | y e => exact .cons (.y e) .nil
  | f0 => exact .cons .f0 .nil
  | it r => exact .cons (.it r) .nil
  | i0 => exact .cons .i0 .nil
  | tu l => exact .cons (.tu l) .nil

/-- entries of maps. -/
inductive ER (ι : Inj) : List (V × V × Nat) → List MapEntry → Prop
  | nil : ER ι [] []
  | cons {k v : V} {n : Nat} {e : MapEntry} {r : List (V × V × Nat)} {es : List MapEntry} : VR ι k e.key → VR ι v e.val → e.born = n → ER ι r es → ER ι ((k, v, n) :: r) (e :: es)
theorem ER.mono {ι ι' : Inj} (h : ι.le ι') {l : List (V × V × Nat)} {l' : List MapEntry} (r : ER ι l l') : ER ι' l l' := by
  induction r with
  | nil => exact .nil
  | cons a b c _ ih => exact .cons (a.mono h) (b.mono h) c ih

/-- temporaries: at least N of them. -/
structure TR (ι : Inj) (N : Nat) (tm : T V) (tmps : Array Value) : Prop where
  get : ∀ p, VR ι (tg tm p) (tmps.getD p.num undef)
  size : N ≤ tmps.size
theorem TR.mono {ι ι' : Inj} {N : Nat} {tm : T V} {tmps : Array Value} (h : ι.le ι') (r : TR ι N tm tmps) : TR ι' N tm tmps := ⟨fun p => (r.get p).mono h, r.size⟩
theorem VR.un (ι : Inj) : VR ι un undef := .tu .nl
theorem TR.set {ι : Inj} {N : Nat} {tm : T V} {tmps : Array Value} (r : TR ι N tm tmps) {p : Pos} {v : V} {v' : Value} (hv : VR ι v v') (hp : p.num < N) :
    TR ι N (T.set Den.un v tm p) (tmps.setIfInBounds p.num v') := by
  refine ⟨fun q => ?_, by simpa using r.size⟩
  have hs := r.size
  show VR ι (T.get Den.un (T.set Den.un v tm p) q) _
  rw [T.get_set]
  by_cases e : q = p
  · subst e
    have : q.num < tmps.size := by omega
    simp [Array.getD, this]; exact hv
  · rw [if_neg e]
    have hne : p.num ≠ q.num := fun h => e (Pos.num_inj h).symm
    have := r.get q
    simp only [Array.getD_eq_getD_getElem?] at this ⊢
    rw [Array.getElem?_setIfInBounds_ne hne]
    exact this
end Den

namespace Den
open Go

def posF : Nat → Nat → Pos
  | 0, _ => .h
  | f + 1, k => if k = 0 then .h else if k % 2 = 1 then .o (posF f (k / 2)) else .i (posF f (k / 2 - 1))
def pos (k : Nat) : Pos := posF (k + 1) k
theorem num_posF : ∀ f k, k < f → (posF f k).num = k
  | 0, _, h => by omega
  | f + 1, k, h => by
    unfold posF
    by_cases h0 : k = 0
    · simp [h0, Pos.num]
    · rw [if_neg h0]
      by_cases h1 : k % 2 = 1
      · rw [if_pos h1]; simp only [Pos.num]; rw [num_posF f _ (by omega)]; omega
      · rw [if_neg h1]; simp only [Pos.num]; rw [num_posF f _ (by omega)]; omega
theorem num_pos (k : Nat) : (pos k).num = k := num_posF _ _ (by omega)

/-- kinds of types. -/
inductive TK
  | bad | oth | int (k : IntKind) | bool | str | ptr (e : TypeId) | func | slice (e : TypeId) | arr (n : Nat) (e : TypeId) | strct (fs : List (Nat × TypeId)) | map (key e : TypeId)
  deriving Inhabited
structure TI where
  k : TK
  size : Nat
  bytes : Nat
  z : List V
  eqok : Bool
instance : Inhabited TI := ⟨⟨.bad, 0, 0, [], false⟩⟩
abbrev Env := TypeId → TI

def TK.agg : TK → Bool
  | .arr .. | .strct _ => true
  | _ => false
def TK.isBad : TK → Bool
  | .bad => true
  | _ => false
def TK.isInt : TK → Bool
  | .int _ => true
  | _ => false
/-- may be compared with nil. -/
def TK.nilable : TK → Bool
  | .ptr _ | .func | .slice _ | .map .. => true
  | _ => false
def TK.kd : TK → Nat
  | .ptr _ => 1
  | .slice _ => 3
  | .map .. => 5
  | .func => 7
  | _ => 0

/-- what the table says of a type is so. -/
def KAt (d : Option TypeDesc) : TK → Prop
  | .bad => True
  | .int k => d = some (.int k)
  | .bool => d = some .bool
  | .str => d = some .string
  | .ptr e => d = some (.pointer e)
  | .func => ∃ a b c, d = some (.func a b c)
  | .slice e => d = some (.slice e)
  | .arr n e => d = some (.array n e)
  | .strct fs => ∃ f, d = some (.struct f) ∧ f.toList.map (fun x => (x.offset, x.type)) = fs
  | .oth => ∃ e, d = some e ∧ (match e with | .struct _ | .array _ _ => false | _ => true) = true
  | .map k e => d = some (.map k e)
structure TyAt (P : Program) (t : TypeId) (i : TI) : Prop where
  und : KAt (P.underlying t) i.k
  info : ∃ f z, P.info? t = some f ∧ f.size = i.size ∧ f.bytes = i.bytes ∧ f.zero = some z ∧ (∀ ι, CL ι i.z z.cells.toList) ∧ i.z.length = i.size ∧ (i.k.agg = false → ∃ v, z.cells = #[v] ∧ z = v)
  eq : i.eqok = true → P.eqGuardType P.depth t = false ∧ ∀ f, P.underlying t = some (.struct f) → P.stoodInHeld t = false ∧ ∀ x ∈ f.toList, x.name ≠ "_"
def TyOK (P : Program) (E : Env) : Prop := ∀ t, (E t).k.isBad = false → TyAt P t (E t)

def cV : Value → Option V
  | .bool b => some (.b b)
  | .int k n => some (.i k n)
  | .string s => some (.s s.data.toList)
  | .pointer none => some .p0
  | .slice none 0 0 => some .s0
  | .map none => some .m0
  | .nilFunc => some .f0
  | .nilIface => some .i0
  | _ => none
def cOpd : Operand → Option Opd
  | .tmp t => some (.t (pos t))
  | .const v => match cV v with | some x => some (.c x) | none => none
  | .func f => some (.c (.f (pos f) .nl .nl))
  | .global _ => none
def cOpds : List Operand → Option (List Opd)
  | [] => some []
  | x :: r => match cOpd x, cOpds r with | some y, some ys => some (y :: ys) | _, _ => none
def cOpdO : Option Operand → Option (Option Opd)
  | none => some none
  | some x => match cOpd x with | some y => some (some y) | none => none
def isNilC : Operand → Bool
  | .const (.pointer none) | .const (.slice none _ _) | .const (.map none) | .const .nilFunc => true
  | _ => false
def field? (fs : List (Nat × TypeId)) (i : Nat) : Option (Nat × TypeId) := fs[i]?
def cParts (E : Env) (fs : List (Nat × TypeId)) : List (Nat × Operand) → Option (List (Nat × Nat × Opd))
  | [] => some []
  | (i, x) :: r => match fs[i]?, cOpd x, cParts E fs r with
    | some (off, t), some y, some ys => if (E t).k.isBad then none else some ((off, (E t).size, y) :: ys)
    | _, _, _ => none
def cPartsA (esz : Nat) : List (Nat × Operand) → Option (List (Nat × Nat × Opd))
  | [] => some []
  | (i, x) :: r => match cOpd x, cPartsA esz r with
    | some y, some ys => some ((i * esz, esz, y) :: ys)
    | _, _ => none
def flat (E : Env) : List (Nat × TypeId) → Nat → Bool
  | [], _ => true
  | (off, t) :: r, n => (E t).k.isInt && off == n && flat E r (n + 1)

def cBin (op : BinOp) : Bool := match op with
  | .add | .sub | .mul | .quo | .rem | .and | .or | .xor | .shl | .shr | .andNot | .eql | .neq | .lss | .leq | .gtr | .geq => true

/-- an operation; x: the number of the atomic adding function. -/
def cOp (E : Env) (xadd : FuncId) (o : Op) : Option AOp :=
  match o with
  | .move x | .assign x => (cOpd x).map .mv
  | .pick c a b => match cOpd c, cOpd a, cOpd b with | some c, some a, some b => some (.pick c a b) | _, _, _ => none
  | .alloc t => if (E t).k.isBad then none else some (.alloc (E t).z)
  | .box t x => if (E t).k.isBad then none else (cOpd x).map (.box (E t).size)
  | .build t ps => match (E t).k with
    | .strct fs => if fs.all (fun x => !(E x.2).k.isBad) then (cParts E fs ps.toList).map (.build (E t).z) else none
    | .arr _ e => if (E e).k.isBad then none else (cPartsA (E e).size ps.toList).map (.build (E t).z)
    | _ => none
  | .buildSlice t n ps => match (E t).k with
    | .slice e => if (E e).k.isBad || 16777216 < n * (E e).size then none else (cPartsA (E e).size ps.toList).map (.buildS (E e).size (E e).z n)
    | _ => none
  | .load t a => if (E t).k.isBad then none else (cOpd a).map (if (E t).k.agg then .loadA (E t).size else .load)
  | .store t a x => if (E t).k.isBad then none else match cOpd a, cOpd x with | some a, some x => some (.store (E t).size a x) | _, _ => none
  | .nilCheck x => (cOpd x).map .nilc
  | .binOp op t x y _ => match cOpd x, cOpd y with
    | some a, some b => match (E t).k, op with
      | .strct fs, .eql => if (E t).eqok && flat E fs 0 then some (.eqa fs.length false a b) else none
      | .strct fs, .neq => if (E t).eqok && flat E fs 0 then some (.eqa fs.length true a b) else none
      | .arr n e, .eql => if (E t).eqok && (E e).k.isInt && (E e).size == 1 then some (.eqa n false a b) else none
      | .arr n e, .neq => if (E t).eqok && (E e).k.isInt && (E e).size == 1 then some (.eqa n true a b) else none
      | .bool, .eql => some (.eqb false a b)
      | .bool, .neq => some (.eqb true a b)
      | k, .eql => if k.nilable then (if isNilC x || isNilC y then some (.eqn k.kd false a b) else none) else if k.isInt then some (.bin .eql a b) else none
      | k, .neq => if k.nilable then (if isNilC x || isNilC y then some (.eqn k.kd true a b) else none) else if k.isInt then some (.bin .neq a b) else none
      | k, op => if k.isInt then some (.bin op a b) else none
    | _, _ => none
  | .unOp .not _ x => (cOpd x).map .not
  | .unOp .neg _ x => (cOpd x).map .neg
  | .unOp .xor _ x => (cOpd x).map .com
  | .convert s d x => match (E s).k, (E d).k with
    | .int _, .int k => (cOpd x).map (.conv k)
    | _, _ => none
  | .sliceToArrayPointer t x => match (E t).k with
    | .arr n _ => if n = 0 then none else (cOpd x).map (.s2a n)
    | _ => none
  | .makeFunc (.func f) a b => match cOpds a.toList, cOpds b.toList with | some a, some b => some (.mkf (pos f) a b) | _, _ => none
  | .makeMap _ none => some .mkm
  | .makeSlice t l c => match (E t).k with
    | .slice e => if (E e).k.isBad then none else match cOpd l, cOpd c with | some l, some c => some (.mks (E e).bytes (E e).z l c) | _, _ => none
    | _ => none
  | .slice t x l h m => match (E t).k, cOpd x, cOpdO l, cOpdO h, cOpdO m with
    | .arr n e, some x, some l, some h, some m => if (E e).k.isBad || (h.isNone && m.isSome) then none else some (.sliceA (E e).size n x l h m)
    | .slice e, some x, some l, some h, some m => if (E e).k.isBad || (h.isNone && m.isSome) then none else some (.sliceS (E e).size x l h m)
    | _, _, _, _, _ => none
  | .fieldAddr t x f => match (E t).k, cOpd x with
    | .strct fs, some x => match fs[f]? with
      | some (off, u) => if (E u).k.isBad || (E u).size == 0 then none else some (.fieldA off x)
      | none => none
    | _, _ => none
  | .field t x f => match (E t).k, cOpd x with
    | .strct fs, some x => match fs[f]? with
      | some (off, u) => if (E u).k.isBad then none else some (if (E u).k.agg then .fieldG off (E u).size x else .field off x)
      | none => none
    | _, _ => none
  | .indexAddr t x i => match (E t).k, cOpd x, cOpd i with
    | .arr n e, some x, some i => if (E e).k.isBad then none else some (.idxA (E e).size n x i)
    | .slice e, some x, some i => if (E e).k.isBad then none else some (.idxS (E e).size x i)
    | _, _, _ => none
  | .index t x i => match (E t).k, cOpd x, cOpd i with
    | .arr n e, some x, some i => if (E e).k.isBad then none else some (.idxV (E e).size n (E e).k.agg x i)
    | .str, some x, some i => some (.idxC x i)
    | _, _, _ => none
  | .mapUpdate t m k v => match (E t).k, cOpd m, cOpd k, cOpd v with
    | .map key _, some m, some k, some v => if (E key).k.isInt then some (.mapUp m k v) else none
    | _, _, _, _ => none
  | .range t x => match (E t).k with
    | .map .. => (cOpd x).map .range
    | _ => none
  | .extract x i => match cOpd x with | some x => some (.ext x i) | none => none
  | .call c => match c.callee with
    | .value (.func f) => if f = xadd then (match cOpds c.args.toList with | some [a, x] => some (.xadd a x) | _ => none) else (cOpds c.args.toList).map (.callF (pos f))
    | .value f => match cOpd f, cOpds c.args.toList with | some f, some a => some (.callV f a) | _, _ => none
    | .builtin b => match b, c.argTypes[0]? with
      | .len, some t => match (E t).k with
        | .arr n _ => if c.args.size = 0 then none else some (.mv (.c (.i .i64 n)))
        | .slice _ => (cOpds c.args.toList).map (.bi .len)
        | .map .. => (cOpds c.args.toList).map (.bi .lenM)
        | _ => none
      | .cap, some t => match (E t).k with
        | .slice _ => (cOpds c.args.toList).map (.bi .cap)
        | _ => none
      | .append, some t => match (E t).k, c.argTypes[1]? with
        | .slice e, some u => if (E e).k.isBad then none else match (E u).k with
          | .int .i64 => (cOpds c.args.toList).map (.bi (.append (E e).size (E e).bytes (E e).z true))
          | .slice _ => (cOpds c.args.toList).map (.bi (.append (E e).size (E e).bytes [] false))
          | _ => none
        | _, _ => none
      | .copy, some t => match (E t).k with
        | .slice e => if (E e).k.isBad then none else (cOpds c.args.toList).map (.bi (.copy (E e).size))
        | _ => none
      | .clear, some t => match (E t).k with
        | .map .. => (cOpds c.args.toList).map (.bi .clearMap)
        | .slice e => if (E e).k.isBad then none else (cOpds c.args.toList).map (.bi (.clearSl (E e).z))
        | _ => none
      | _, _ => none
    | _ => none
  | _ => none
end Den

namespace Den
open Go

def Wput (w : World) (B : Nat) (O : Go.Obj) : World := { w with heap := w.heap.setIfInBounds B O }
def Wadd (w : World) (O : Go.Obj) : World := { w with heap := w.heap.push O }
theorem Wput_get (w : World) (B : Nat) (O : Go.Obj) (j : Nat) : (Wput w B O).heap[j]? = if j = B ∧ B < w.heap.size then some O else w.heap[j]? := by
  simp only [Wput]
  by_cases e : j = B
  · subst e
    by_cases h : j < w.heap.size
    · simp [h]
    · simp [h]
  · rw [if_neg (fun x => e x.1), Array.getElem?_setIfInBounds_ne (fun x => e x.symm)]
theorem Wadd_get (w : World) (O : Go.Obj) (j : Nat) : (Wadd w O).heap[j]? = if j = w.heap.size then some O else w.heap[j]? := by
  simp only [Wadd]; rw [Array.getElem?_push]

/-- how jumps are told. -/
def exC : Ex → Option Code
  | .nrm => none
  | .ex i => some (.exit i)
  | .ret => some .ret
def stC : LoopState → Nat
  | .ready => 0
  | .busy => 1
  | .done => 2
  | .exhausted => 3

/-- what holds of the code of loops, and what is known of blocks that are never written, is left open here. -/
structure CRel where
  rel : Code → C → Nat → Prop
  snap : Nat → Option Go.Obj

/-- an abstract object, and what stands in the block. -/
inductive OR (CR : CRel) (ι : Inj) (d X : Nat) : Obj → Go.Obj → Prop
  | cells {cs : List V} {t : Nat} {Cs : Array Value} {e : TypeId} {fz : Nat × Nat} :
      (∀ k v, cs[k]? = some v → ∃ v', Cs[d + k]? = some v' ∧ VR ι v v') → (t = 0 → X = 0) → d + cs.length + X * t ≤ Cs.size → (t < roT → ∀ k, k < Cs.size → ¬ (fz.1 ≤ k ∧ k < fz.2)) →
      OR CR ι d X (.cells cs t) (.cells Cs e fz)
  | map {es : List (V × V × Nat)} {c : Nat} {E : Array MapEntry} : ER ι es E.toList → OR CR ι d X (.map es c) (.map E c)
  | iter0 {s st : Nat} {seen : List Nat} {se : Array Nat} : d = 0 → se.toList = seen → OR CR ι d X (.iter none s seen st) (.mapIter none s se st)
  | iter {s st : Nat} {seen : List Nat} {se : Array Nat} {r : Pos} {B d' X' : Nat} : d = 0 → se.toList = seen → ι r = some (B, d', X') → OR CR ι d X (.iter (some r) s seen st) (.mapIter (some B) s se st)
  | loop {s : LoopState} {tm : T V} {pend : Ex} {ps : List Pos} {as bo : C} {L : Loop} {N : Nat} : L.state = s → L.pending = exC pend → L.params.toList = ps.map Pos.num → (∀ p ∈ ps, p.num < N) → TR ι N tm L.tmps →
      CR.rel L.assign as N → CR.rel L.body bo N → OR CR ι d X (.loop (stC s) tm pend ps as bo) (.loop L)

theorem OR.mono {CR : CRel} {ι ι' : Inj} (h : ι.le ι') {d X : Nat} {o : Obj} {O : Go.Obj} (r : OR CR ι d X o O) : OR CR ι' d X o O := by
  cases r with
  | cells a b c f => exact .cells (fun k v e => let ⟨v', h1, h2⟩ := a k v e; ⟨v', h1, h2.mono h⟩) b c f
  | map a => exact .map (a.mono h)
  | iter0 z a => exact .iter0 z a
  | iter z a b => exact .iter z a (h _ _ b)
  | loop a b c n t x y => exact .loop a b c n (t.mono h) x y

def Obj.isDead : Obj → Bool
  | .dead => true
  | _ => false

structure Rel (CR : CRel) (ι : Inj) (σ : St) (w : World) : Prop where
  dom : ∀ p l, ι p = some l → p.num < σ.nx.num
  out : ∀ p, σ.nx.num ≤ p.num → σ.at p = .dead
  obj : ∀ p B d X, ι p = some (B, d, X) → (σ.at p).isDead = false → ∃ O, w.heap[B]? = some O ∧ OR CR ι d X (σ.at p) O
  inj : ∀ p q B d X d' X', ι p = some (B, d, X) → ι q = some (B, d', X') → (σ.at p).isDead = false → (σ.at q).isDead = false → CR.snap B = none → p = q
  lt : ∀ p B d X, ι p = some (B, d, X) → B < w.heap.size
  ro : ∀ p B d X, ι p = some (B, d, X) → CR.snap B ≠ none → (σ.at p).isDead = false → ∃ cs, σ.at p = .cells cs roT
  snap : ∀ B O, CR.snap B = some O → w.heap[B]? = some O

/-- what is asked of a state by what only reads. -/
def RelO (CR : CRel) (ι : Inj) (σ : St) (w : World) : Prop := ∀ p B d X, ι p = some (B, d, X) → (σ.at p).isDead = false → ∃ O, w.heap[B]? = some O ∧ OR CR ι d X (σ.at p) O
theorem Rel.toO {CR : CRel} {ι : Inj} {σ : St} {w : World} (h : Rel CR ι σ w) : RelO CR ι σ w := h.obj

/-- what a run may have done. -/
structure Step (ι : Inj) (w : World) (ι' : Inj) (w' : World) : Prop where
  le : ι.le ι'
  new : ∀ p B d X, ι' p = some (B, d, X) → (∃ q d' X', ι q = some (B, d', X')) ∨ w.heap.size ≤ B
  size : w.heap.size ≤ w'.heap.size
  same : ∀ B, B < w.heap.size → (∀ p d X, ι p ≠ some (B, d, X)) → w'.heap[B]? = w.heap[B]?
  os : w'.os = w.os
  output : w'.output = w.output
theorem Step.refl (ι : Inj) (w : World) : Step ι w ι w := ⟨.refl _, fun p B d X h => .inl ⟨p, d, X, h⟩, Nat.le_refl _, fun _ _ _ => rfl, rfl, rfl⟩
theorem Step.trans {ι₁ ι₂ ι₃ : Inj} {w₁ w₂ w₃ : World} (h : Step ι₁ w₁ ι₂ w₂) (k : Step ι₂ w₂ ι₃ w₃) : Step ι₁ w₁ ι₃ w₃ := by
  refine ⟨h.le.trans k.le, fun p B d X e => ?_, Nat.le_trans h.size k.size, fun B hB hn => ?_, k.os.trans h.os, k.output.trans h.output⟩
  · rcases k.new p B d X e with ⟨q, d', X', e'⟩ | hl
    · exact h.new q B d' X' e'
    · exact .inr (Nat.le_trans h.size hl)
  · rw [k.same B (Nat.lt_of_lt_of_le hB h.size) (fun p d X e => ?_), h.same B hB hn]
    rcases h.new p B d X e with ⟨q, d', X', e'⟩ | hl
    · exact hn q d' X' e'
    · omega

/-- a draw. -/
def Wdrew (w : World) : World := { w with drawn := w.drawn + 1 }
theorem Rel.world {CR : CRel} {ι : Inj} {σ : St} {w w' : World} (h : Rel CR ι σ w) (e : w'.heap = w.heap) : Rel CR ι σ w' :=
  ⟨h.dom, h.out, fun p B d X hp hd => by rw [e]; exact h.obj p B d X hp hd, h.inj, fun p B d X hp => by rw [e]; exact h.lt p B d X hp, h.ro, fun B O hO => by rw [e]; exact h.snap B O hO⟩
theorem Step.world {ι : Inj} {w w' : World} (e : w'.heap = w.heap) (o : w'.os = w.os) (u : w'.output = w.output) : Step ι w ι w' :=
  ⟨.refl _, fun p B d X h => .inl ⟨p, d, X, h⟩, by rw [e]; exact Nat.le_refl _, fun B _ _ => by rw [e], o, u⟩

section
variable {CR : CRel} {ι : Inj} {σ : St} {w : World}

/-- a block is written. -/
theorem Rel.put (h : Rel CR ι σ w) {p : Pos} {B d X : Nat} (hp : ι p = some (B, d, X)) (hl : (σ.at p).isDead = false) (hw : ∀ cs, σ.at p ≠ .cells cs roT) {ob : Obj} {O : Go.Obj} (ho : OR CR ι d X ob O) :
    Rel CR ι (σ.put p ob) (Wput w B O) ∧ Step ι w ι (Wput w B O) := by
  have hB := h.lt p B d X hp
  have hs : (Wput w B O).heap.size = w.heap.size := by simp [Wput]
  have hz : CR.snap B = none := by
    cases hz : CR.snap B with
    | none => rfl
    | some O' =>
      obtain ⟨cs, hcs⟩ := h.ro p B d X hp (by rw [hz]; simp) hl
      exact absurd hcs (hw cs)
  refine ⟨⟨fun q l e => by rw [St.nx_put]; exact h.dom q l e, fun q hq => ?_, fun q B' d' X' hq hd => ?_, fun q q' B' d' X' d'' X'' hq hq' hd hd' => ?_, fun q B' d' X' hq => by rw [hs]; exact h.lt q B' d' X' hq, fun q B' d' X' hq hz' hd => ?_, fun B' O' hO' => ?_⟩, ?_⟩
  · rw [St.nx_put] at hq
    rw [St.at_put, if_neg (fun e => ?_)]
    · exact h.out q hq
    · subst e; have := h.dom _ _ hp; omega
  · rw [St.at_put] at hd ⊢
    by_cases e : q = p
    · subst e
      rw [hp] at hq; cases hq
      rw [if_pos rfl]
      exact ⟨O, by rw [Wput_get, if_pos ⟨rfl, hB⟩], ho⟩
    · rw [if_neg e] at hd ⊢
      obtain ⟨O', h1, h2⟩ := h.obj q B' d' X' hq hd
      refine ⟨O', ?_, h2⟩
      rw [Wput_get, if_neg (fun x => ?_)]
      · exact h1
      · obtain ⟨rfl, _⟩ := x; exact e (h.inj q p _ _ _ _ _ hq hp hd hl hz)
  · intro hz0
    have key : ∀ q, ((σ.put p ob).at q).isDead = false → (σ.at q).isDead = false := by
      intro q hq
      rw [St.at_put] at hq
      by_cases e : q = p
      · subst e; exact hl
      · rw [if_neg e] at hq; exact hq
    exact h.inj q q' B' d' X' d'' X'' hq hq' (key q hd) (key q' hd') hz0
  · rw [St.at_put] at hd ⊢
    by_cases e : q = p
    · subst e
      rw [hp] at hq; cases hq
      exact absurd hz hz'
    · rw [if_neg e] at hd ⊢
      exact h.ro q B' d' X' hq hz' hd
  · rw [Wput_get, if_neg (fun x => by obtain ⟨rfl, _⟩ := x; rw [hz] at hO'; cases hO')]
    exact h.snap B' O' hO'
  · exact ⟨.refl _, fun q B' d' X' e => .inl ⟨q, d', X', e⟩, by rw [hs]; exact Nat.le_refl _, fun B' _ hn => by
      rw [Wput_get, if_neg (fun x => ?_)]
      obtain ⟨rfl, _⟩ := x; exact hn p d X hp, rfl, rfl⟩

def Inj.upd (ι : Inj) (p : Pos) (l : Nat × Nat × Nat) : Inj := fun q => if q = p then some l else ι q
theorem Rel.fresh (h : Rel CR ι σ w) : ι σ.nx = none := by
  cases e : ι σ.nx with
  | none => rfl
  | some l => have := h.dom _ _ e; omega
theorem Inj.upd_le {p : Pos} {l : Nat × Nat × Nat} (h : ι p = none) : ι.le (ι.upd p l) := by
  intro q l' e
  simp only [Inj.upd]
  rw [if_neg (fun x => by subst x; rw [h] at e; cases e)]; exact e
/-- a block is made, somewhere. -/
theorem Rel.addAt (h : Rel CR ι σ w) {B d X : Nat} {ob : Obj} {O : Go.Obj} {w' : World} (hw : w'.heap[B]? = some O) (hs : w.heap.size ≤ w'.heap.size)
    (hsame : ∀ q B' d' X', ι q = some (B', d', X') → (σ.at q).isDead = false → B' ≠ B ∧ w'.heap[B']? = w.heap[B']?)
    (hz : CR.snap B = none) (hsn : ∀ B0, CR.snap B0 ≠ none → w'.heap[B0]? = w.heap[B0]?)
    (ho : OR CR (ι.upd σ.nx (B, d, X)) d X ob O) : Rel CR (ι.upd σ.nx (B, d, X)) (σ.add ob) w' := by
  have hf := h.fresh
  have hn := Pos.num_succ σ.nx
  have hB : B < w'.heap.size := by
    rcases Nat.lt_or_ge B w'.heap.size with x | x
    · exact x
    · rw [Array.getElem?_eq_none x] at hw; cases hw
  refine ⟨fun q l e => ?_, fun q hq => ?_, fun q B' d' X' hq hd => ?_, fun q q' B' d' X' d'' X'' hq hq' hd hd' hz0 => ?_, fun q B' d' X' hq => ?_, fun q B' d' X' hq hz' hd => ?_, fun B' O' hO' => by rw [hsn B' (by rw [hO']; simp)]; exact h.snap B' O' hO'⟩
  · rw [St.nx_add, hn]
    simp only [Inj.upd] at e
    by_cases x : q = σ.nx
    · subst x; omega
    · rw [if_neg x] at e; have := h.dom _ _ e; omega
  · rw [St.nx_add, hn] at hq
    rw [St.at_add, if_neg (fun x => by subst x; omega)]
    exact h.out q (by omega)
  · rw [St.at_add] at hd ⊢
    simp only [Inj.upd] at hq
    by_cases x : q = σ.nx
    · subst x
      rw [if_pos rfl] at hq ⊢; cases hq
      exact ⟨O, hw, ho⟩
    · rw [if_neg x] at hq hd ⊢
      obtain ⟨O', h1, h2⟩ := h.obj q B' d' X' hq hd
      exact ⟨O', by rw [(hsame q B' d' X' hq hd).2]; exact h1, h2.mono (Inj.upd_le hf)⟩
  · rw [St.at_add] at hd hd'
    simp only [Inj.upd] at hq hq'
    by_cases x : q = σ.nx
    · by_cases y : q' = σ.nx
      · rw [x, y]
      · rw [if_pos x] at hq; rw [if_neg y] at hq' hd'; cases hq
        exact absurd rfl (hsame q' _ _ _ hq' hd').1
    · by_cases y : q' = σ.nx
      · rw [if_neg x] at hq hd; rw [if_pos y] at hq'; cases hq'
        exact absurd rfl (hsame q _ _ _ hq hd).1
      · rw [if_neg x] at hq hd; rw [if_neg y] at hq' hd'
        exact h.inj q q' B' d' X' d'' X'' hq hq' hd hd' hz0
  · simp only [Inj.upd] at hq
    by_cases x : q = σ.nx
    · rw [if_pos x] at hq; cases hq; exact hB
    · rw [if_neg x] at hq; exact Nat.lt_of_lt_of_le (h.lt _ _ _ _ hq) hs
  · rw [St.at_add] at hd ⊢
    simp only [Inj.upd] at hq
    by_cases x : q = σ.nx
    · rw [if_pos x] at hq; cases hq; exact absurd hz hz'
    · rw [if_neg x] at hq hd ⊢; exact h.ro q B' d' X' hq hz' hd
theorem Rel.snapLt (h : Rel CR ι σ w) : ∀ B0, CR.snap B0 ≠ none → B0 < w.heap.size := fun B0 h0 => by
  cases hO : CR.snap B0 with
  | none => exact absurd hO h0
  | some O =>
    have := h.snap B0 O hO
    rcases Nat.lt_or_ge B0 w.heap.size with x | x
    · exact x
    · rw [Array.getElem?_eq_none x] at this; cases this
theorem Rel.add (h : Rel CR ι σ w) {X : Nat} {ob : Obj} {O : Go.Obj} (ho : OR CR (ι.upd σ.nx (w.heap.size, 0, X)) 0 X ob O) :
    Rel CR (ι.upd σ.nx (w.heap.size, 0, X)) (σ.add ob) (Wadd w O) ∧ Step ι w (ι.upd σ.nx (w.heap.size, 0, X)) (Wadd w O) := by
  have hs : (Wadd w O).heap.size = w.heap.size + 1 := by simp [Wadd]
  have hlt : ∀ B0, CR.snap B0 ≠ none → B0 < w.heap.size := h.snapLt
  have hz0 : CR.snap w.heap.size = none := Classical.byContradiction fun x => by have := hlt _ x; omega
  refine ⟨h.addAt (by rw [Wadd_get, if_pos rfl]) (by omega) (fun q B' d' X' hq _ => ?_) hz0 (fun B0 h0 => ?_) ho, Inj.upd_le h.fresh, fun q B d' X' e => ?_, by omega, fun B hB _ => by rw [Wadd_get, if_neg (by omega)], rfl, rfl⟩
  · have := h.lt _ _ _ _ hq
    exact ⟨by omega, by rw [Wadd_get, if_neg (by omega)]⟩
  · have := hlt B0 h0
    rw [Wadd_get, if_neg (by omega)]
  · simp only [Inj.upd] at e
    by_cases x : q = σ.nx
    · rw [if_pos x] at e; cases e; exact .inr (Nat.le_refl _)
    · rw [if_neg x] at e; exact .inl ⟨q, d', X', e⟩
theorem upd_self (ι : Inj) (p : Pos) (l : Nat × Nat × Nat) : (ι.upd p l) p = some l := by simp [Inj.upd]
/-- a block is given up. -/
theorem Rel.kill (h : Rel CR ι σ w) (p : Pos) (hp : p.num < σ.nx.num) : Rel CR ι (σ.put p .dead) w := by
  refine ⟨fun q l e => by rw [St.nx_put]; exact h.dom q l e, fun q hq => ?_, fun q B' d' X' hq hd => ?_, fun q q' B' d' X' d'' X'' hq hq' hd hd' hz0 => ?_, h.lt, fun q B' d' X' hq hz' hd => ?_, h.snap⟩
  · rw [St.nx_put] at hq
    rw [St.at_put]
    by_cases e : q = p
    · rw [if_pos e]
    · rw [if_neg e]; exact h.out q hq
  · rw [St.at_put] at hd ⊢
    by_cases e : q = p
    · rw [if_pos e] at hd; cases hd
    · rw [if_neg e] at hd ⊢; exact h.obj q B' d' X' hq hd
  · have key : ∀ q, ((σ.put p .dead).at q).isDead = false → (σ.at q).isDead = false := by
      intro q hq
      rw [St.at_put] at hq
      by_cases e : q = p
      · rw [if_pos e] at hq; cases hq
      · rw [if_neg e] at hq; exact hq
    exact h.inj q q' B' d' X' d'' X'' hq hq' (key q hd) (key q' hd') hz0
  · rw [St.at_put] at hd ⊢
    by_cases e : q = p
    · rw [if_pos e] at hd; cases hd
    · rw [if_neg e] at hd ⊢; exact h.ro q B' d' X' hq hz' hd
end
end Den

namespace Den
open Go

theorem addr_add (B s i : Nat) : (⟨B, s, none⟩ : Addr).add i = ⟨B, s + i, none⟩ := by
  unfold Addr.add; split <;> simp_all

section
variable {P : Program} {CR : CRel} {ι : Inj} {σ : St} {w : World}

theorem RelO.row (h : RelO CR ι σ w) {b : Pos} {B d X : Nat} (hb : ι b = some (B, d, X)) {cs : List V} {t : Nat} (hc : σ.at b = .cells cs t) :
    ∃ Cs e fz, w.heap[B]? = some (.cells Cs e fz) ∧ (∀ k v, cs[k]? = some v → ∃ v', Cs[d + k]? = some v' ∧ VR ι v v') ∧ (t = 0 → X = 0) ∧ d + cs.length + X * t ≤ Cs.size ∧ (t < roT → ∀ k, k < Cs.size → ¬ (fz.1 ≤ k ∧ k < fz.2)) := by
  obtain ⟨O, h1, h2⟩ := h b B d X hb (by rw [hc]; rfl)
  rw [hc] at h2
  cases h2 with
  | cells a b c f => exact ⟨_, _, _, h1, a, b, c, f⟩
theorem Rel.row (h : Rel CR ι σ w) {b : Pos} {B d X : Nat} (hb : ι b = some (B, d, X)) {cs : List V} {t : Nat} (hc : σ.at b = .cells cs t) :
    ∃ Cs e fz, w.heap[B]? = some (.cells Cs e fz) ∧ (∀ k v, cs[k]? = some v → ∃ v', Cs[d + k]? = some v' ∧ VR ι v v') ∧ (t = 0 → X = 0) ∧ d + cs.length + X * t ≤ Cs.size ∧ (t < roT → ∀ k, k < Cs.size → ¬ (fz.1 ≤ k ∧ k < fz.2)) := h.toO.row hb hc
theorem cell_of {B k : Nat} {Cs : Array Value} {e : TypeId} {fz : Nat × Nat} (h : w.heap[B]? = some (.cells Cs e fz)) : w.cell? ⟨B, k, none⟩ = Cs[k]? := by
  simp [World.cell?, h]
theorem RelO.cell (h : RelO CR ι σ w) {b : Pos} {B d X : Nat} (hb : ι b = some (B, d, X)) {cs : List V} {t : Nat} (hc : σ.at b = .cells cs t) {k : Nat} {v : V} (hk : cs[k]? = some v) :
    ∃ v', w.cell? ⟨B, d + k, none⟩ = some v' ∧ VR ι v v' := by
  obtain ⟨Cs, e, fz, h1, h2, _⟩ := h.row hb hc
  rw [cell_of h1]; exact h2 k v hk
theorem Rel.cell (h : Rel CR ι σ w) {b : Pos} {B d X : Nat} (hb : ι b = some (B, d, X)) {cs : List V} {t : Nat} (hc : σ.at b = .cells cs t) {k : Nat} {v : V} (hk : cs[k]? = some v) :
    ∃ v', w.cell? ⟨B, d + k, none⟩ = some v' ∧ VR ι v v' := h.toO.cell hb hc hk
/-- several cells, as a list. -/
theorem RelO.cells (h : RelO CR ι σ w) {b : Pos} {B d X : Nat} (hb : ι b = some (B, d, X)) {cs : List V} {t : Nat} (hc : σ.at b = .cells cs t) {o n : Nat} {xs : List V} (hs : sub cs o n = .ok xs) :
    ∃ xs' : List Value, CL ι xs xs' ∧ ∀ w' : World, w'.heap = w.heap → (loadCells ⟨B, d + o, none⟩ n).run P w' = .ok xs'.toArray w' := by
  obtain ⟨_, hl⟩ := sub_ok hs
  have key : ∀ k, k < n → ∃ v', w.cell? ⟨B, d + o + k, none⟩ = some v' ∧ ∀ v, xs[k]? = some v → VR ι v v' := by
    intro k hk
    have hg := sub_get hs k hk
    cases hv : xs[k]? with
    | none => rw [List.getElem?_eq_none_iff] at hv; omega
    | some v =>
      obtain ⟨v', h1, h2⟩ := h.cell hb hc (hg ▸ hv : cs[o + k]? = some v)
      exact ⟨v', by rw [Nat.add_assoc]; exact h1, fun u hu => by cases hu; exact h2⟩
  let f : Nat → Value := fun k => (w.cell? ⟨B, d + o + k, none⟩).getD undef
  refine ⟨(List.range n).map f, CL.of_get (by simpa using hl) (fun k v hv => ?_), ?_⟩
  · have hk : k < n := by
      rcases Nat.lt_or_ge k n with x | x
      · exact x
      · rw [List.getElem?_eq_none (by omega)] at hv; cases hv
    obtain ⟨v', h1, h2⟩ := key k hk
    exact ⟨v', by simp [f, hk, h1], h2 v hv⟩
  · intro w' hw
    refine run_loadCells w' _ n f (fun j hj => ?_)
    obtain ⟨v', h1, _⟩ := key j hj
    have h2 : w'.cell? ⟨B, d + o + j, none⟩ = some v' := by rw [← h1]; simp only [World.cell?, hw]
    rw [addr_add, h2]; simp [f, h1]

def isOne : Value → Bool
  | .agg _ | .tuple _ => false
  | _ => true
theorem Rel.cells (h : Rel CR ι σ w) {b : Pos} {B d X : Nat} (hb : ι b = some (B, d, X)) {cs : List V} {t : Nat} (hc : σ.at b = .cells cs t) {o n : Nat} {xs : List V} (hs : sub cs o n = .ok xs) :
    ∃ xs' : List Value, CL ι xs xs' ∧ ∀ w' : World, w'.heap = w.heap → (loadCells ⟨B, d + o, none⟩ n).run P w' = .ok xs'.toArray w' := h.toO.cells hb hc hs
/-- a row with values over some cells. -/
def ovr (Cs : Array Value) (s : Nat) : List Value → Array Value
  | [] => Cs
  | v :: vs => ovr (Cs.setIfInBounds s v) (s + 1) vs
theorem ovr_size : ∀ (vs : List Value) (Cs : Array Value) (s : Nat), (ovr Cs s vs).size = Cs.size
  | [], _, _ => rfl
  | v :: vs, Cs, s => by rw [ovr, ovr_size vs]; simp
theorem ovr_get : ∀ (vs : List Value) (Cs : Array Value) (s k : Nat), s + vs.length ≤ Cs.size → (ovr Cs s vs)[k]? = if s ≤ k ∧ k < s + vs.length then vs[k - s]? else Cs[k]?
  | [], Cs, s, k, _ => by rw [if_neg (by simp only [List.length_nil]; omega)]; rfl
  | v :: vs, Cs, s, k, h => by
    simp only [List.length_cons] at h ⊢
    simp only [ovr]
    rw [ovr_get vs _ _ _ (by simp; omega)]
    by_cases a : s + 1 ≤ k ∧ k < s + 1 + vs.length
    · rw [if_pos a, if_pos (by omega)]
      have : k - s = (k - (s + 1)) + 1 := by omega
      rw [this]; simp
    · rw [if_neg a]
      by_cases b : k = s
      · subst b
        rw [if_pos (by omega)]
        simp [show k < Cs.size from by omega]
      · rw [if_neg (by omega), Array.getElem?_setIfInBounds_ne (fun x => b x.symm)]
theorem setCell_eq {B s : Nat} {Cs : Array Value} {e : TypeId} {fz : Nat × Nat} (h : w.heap[B]? = some (.cells Cs e fz)) (v : Value) :
    w.setCell ⟨B, s, none⟩ v = Wput w B (.cells (Cs.setIfInBounds s v) e fz) := by
  have hB : B < w.heap.size := by
    rcases Nat.lt_or_ge B w.heap.size with x | x
    · exact x
    · rw [Array.getElem?_eq_none x] at h; cases h
  simp only [World.setCell, Wput]
  congr 1
  apply Array.ext_getElem?
  intro i
  rw [Array.getElem?_modify, Array.getElem?_setIfInBounds]
  by_cases x : B = i
  · subst x; rw [if_pos rfl, if_pos rfl, h]; simp [hB]
  · rw [if_neg x, if_neg x]
theorem Wput_self {B : Nat} {O : Go.Obj} (h : w.heap[B]? = some O) : Wput w B O = w := by
  cases w with
  | mk heap tape drawn os output =>
    simp only [Wput]
    congr 1
    apply Array.ext_getElem?
    intro i
    rw [Array.getElem?_setIfInBounds]
    by_cases x : B = i
    · subst x
      simp only at h
      rw [if_pos rfl]
      by_cases y : B < heap.size
      · rw [if_pos y, h]
      · rw [if_neg y, Array.getElem?_eq_none (by omega)]
    · rw [if_neg x]
theorem Wput_put (B : Nat) (O O' : Go.Obj) : Wput (Wput w B O) B O' = Wput w B O' := by
  simp [Wput]
theorem run_storeCells {B s : Nat} {e : TypeId} {fz : Nat × Nat} : ∀ (vs : List Value) (i : Nat) (w : World) (Cs : Array Value), w.heap[B]? = some (.cells Cs e fz) → s + i + vs.length ≤ Cs.size →
    (∀ k, k < Cs.size → ¬ (fz.1 ≤ k ∧ k < fz.2)) → (∀ v ∈ vs, isOne v = true) → (storeCells ⟨B, s, none⟩ vs i).run P w = .ok () (Wput w B (.cells (ovr Cs (s + i) vs) e fz))
  | [], i, w, Cs, h, _, _, _ => by simp [storeCells, ovr, Wput_self h]
  | v :: vs, i, w, Cs, h, hl, hf, ho => by
    simp only [List.length_cons] at hl
    have hc : w.cell? ⟨B, s + i, none⟩ = some (Cs[s + i]'(by omega)) := by rw [cell_of h]; simp
    have hfz : w.frozen? ⟨B, s + i, none⟩ = false := by
      simp only [World.frozen?, h]
      have := hf (s + i) (by omega)
      simp only [Bool.and_eq_false_iff, decide_eq_false_iff_not]
      by_cases x : fz.1 ≤ s + i
      · exact .inr (fun y => this ⟨x, y⟩)
      · exact .inl x
    have h1 : isOne v = true := ho v (by simp)
    have hB : B < w.heap.size := by
      rcases Nat.lt_or_ge B w.heap.size with x | x
      · exact x
      · rw [Array.getElem?_eq_none x] at h; cases h
    have hst : (store ((⟨B, s, none⟩ : Addr).add i) v).run P w = .ok () (Wput w B (.cells (Cs.setIfInBounds (s + i) v) e fz)) := by
      rw [addr_add, ← setCell_eq h]
      cases v <;> first | (cases h1; done) | simp [Go.store, Sem.run, hc, hfz]
    simp only [storeCells, Sem.run_bind, hst, Result.andThen_ok]
    rw [run_storeCells vs (i + 1) _ (Cs.setIfInBounds (s + i) v) (by rw [Wput_get, if_pos ⟨rfl, hB⟩]) (by simp; omega) (by simpa using hf) (fun u hu => ho u (by simp [hu]))]
    rw [Wput_put, ovr, Nat.add_assoc s i 1]
theorem one_oneCell {ι : Inj} {v : V} {v' : Value} (h : VR ι v v') (ho : v.one = true) : isOne v' = true := by
  cases h <;> first | rfl | cases ho
theorem CL.ones {ι : Inj} {l : List V} {l' : List Value} (h : CL ι l l') (ho : ∀ x ∈ l, x.one = true) : ∀ v ∈ l', isOne v = true := by
  induction h with
  | nil => simp
  | cons a _ ih =>
    intro v hv
    rcases List.mem_cons.1 hv with e | e
    · subst e; exact one_oneCell a (ho _ (by simp))
    · exact ih (fun x hx => ho x (by simp [hx])) v e
/-- cells of a block are written. -/
theorem Rel.store (h : Rel CR ι σ w) {b : Pos} {B d X : Nat} (hb : ι b = some (B, d, X)) {cs : List V} {t : Nat} (hc : σ.at b = .cells cs t) {o : Nat} {xs cs' : List V} (hs : setsAt cs o xs = .ok cs') (ht : t < roT)
    {xs' : List Value} (hx : CL ι xs xs') :
    ∃ w', (storeCells ⟨B, d + o, none⟩ xs').run P w = .ok () w' ∧ Rel CR ι (σ.put b (.cells cs' t)) w' ∧ Step ι w ι w' := by
  obtain ⟨Cs, e, fz, h1, h2, h3, h4, h5⟩ := h.row hb hc
  obtain ⟨hl, _, ho⟩ := setsAt_ok _ _ _ _ hs
  have hlen := hx.length
  have hsz : cs'.length = cs.length := setsAt_length hs
  have hor : OR CR ι d X (.cells cs' t) (.cells (ovr Cs (d + o) xs') e fz) := by
    refine .cells (fun k v hv => ?_) h3 (by rw [ovr_size, hsz]; exact h4) (by rw [ovr_size]; exact h5)
    rw [setsAt_get hs] at hv
    rw [ovr_get _ _ _ _ (by omega)]
    by_cases a : o ≤ k ∧ k < o + xs.length
    · rw [if_pos a] at hv
      rw [if_pos (by omega), show d + k - (d + o) = k - o from by omega]
      exact hx.get hv
    · rw [if_neg a] at hv
      rw [if_neg (by omega)]
      exact h2 k v hv
  obtain ⟨r1, r2⟩ := h.put hb (by rw [hc]; rfl) (fun cs e => by rw [hc] at e; cases e; exact absurd ht (Nat.lt_irrefl _)) hor
  exact ⟨_, by simpa using run_storeCells (P := P) (s := d + o) xs' 0 w Cs h1 (by omega) (h5 ht) (hx.ones ho), r1, r2⟩
end

/-! what the table says, as runs -/
theorem run_tinfo {P : Program} {t : TypeId} {i : TypeInfo} (h : P.info? t = some i) (w : World) : (typeInfo t).run P w = .ok i w := by
  unfold typeInfo
  rw [Sem.run_bind]
  simp [program, Sem.run, h]
section
variable {P : Program} {E : Env} (hE : TyOK P E) {t : TypeId} (w : World)
include hE
theorem TyOK.size (ht : (E t).k.isBad = false) : (Go.sizeOf t).run P w = .ok (E t).size w := by
  obtain ⟨f, z, h1, h2, _⟩ := (hE t ht).info
  simp [Go.sizeOf, run_tinfo h1, h2]
theorem TyOK.tinfo (ht : (E t).k.isBad = false) : ∃ f, (typeInfo t).run P w = .ok f w ∧ f.bytes = (E t).bytes ∧ f.size = (E t).size := by
  obtain ⟨f, z, h1, h2, h3, _⟩ := (hE t ht).info
  exact ⟨f, run_tinfo h1 w, h3, h2⟩
theorem TyOK.zero (ht : (E t).k.isBad = false) : ∃ z, (zeroValue t).run P w = .ok z w ∧ (∀ ι, CL ι (E t).z z.cells.toList) ∧ (E t).z.length = (E t).size := by
  obtain ⟨f, z, h1, _, _, h4, h5, h6, _⟩ := (hE t ht).info
  exact ⟨z, by simp [zeroValue, run_tinfo h1, h4], h5, h6⟩
theorem TyOK.isAgg (ht : (E t).k.isBad = false) : (isAgg t).run P w = .ok (E t).k.agg w := by
  have hk := (hE t ht).und
  have key : ∀ d b, P.underlying t = some d → (match d with | .struct _ | .array _ _ => true | _ => false) = b → (Go.isAgg t).run P w = .ok b w := by
    intro d b hd hb
    simp only [Go.isAgg, Sem.run_bind, run_underlying hd, Result.andThen_ok]
    subst hb
    cases d <;> rfl
  cases hkk : (E t).k with
  | bad => rw [hkk] at ht; cases ht
  | int k => rw [hkk] at hk; exact key _ _ hk rfl
  | bool => rw [hkk] at hk; exact key _ _ hk rfl
  | str => rw [hkk] at hk; exact key _ _ hk rfl
  | ptr e => rw [hkk] at hk; exact key _ _ hk rfl
  | func => rw [hkk] at hk; obtain ⟨_, _, _, hk⟩ := hk; exact key _ _ hk rfl
  | slice e => rw [hkk] at hk; exact key _ _ hk rfl
  | arr n e => rw [hkk] at hk; exact key _ _ hk rfl
  | strct fs => rw [hkk] at hk; obtain ⟨_, hk, _⟩ := hk; exact key _ _ hk rfl
  | oth => rw [hkk] at hk; obtain ⟨e, hk, h2⟩ := hk; exact key _ _ hk (by cases e <;> first | rfl | cases h2)
  | map k e => rw [hkk] at hk; exact key _ _ hk rfl
end
end Den

namespace Den
open Go

section inv
variable {v : V} {a : V} {s : St}
theorem onB_ok {k : Bool → R} (h : v.onB .no k = .ok a s) : ∃ x, v = .b x ∧ k x = .ok a s := by
  cases v <;> first | exact ⟨_, rfl, h⟩ | cases h
theorem onI_ok {k : IntKind → Int → R} (h : v.onI .no k = .ok a s) : ∃ x y, v = .i x y ∧ k x y = .ok a s := by
  cases v <;> first | exact ⟨_, _, rfl, h⟩ | cases h
theorem onS_ok {k : List UInt8 → R} (h : v.onS .no k = .ok a s) : ∃ x, v = .s x ∧ k x = .ok a s := by
  cases v <;> first | exact ⟨_, rfl, h⟩ | cases h
theorem onP_ok {k : Pos → Nat → R} (h : v.onP .no k = .ok a s) : ∃ x y, v = .p x y ∧ k x y = .ok a s := by
  cases v <;> first | exact ⟨_, _, rfl, h⟩ | cases h
theorem onSl_ok {z : R} {k : Pos → Nat → Nat → Nat → Bool → R} (h : v.onSl .no z k = .ok a s) : (v = .s0 ∧ z = .ok a s) ∨ ∃ b o n c q, v = .sl b o n c q ∧ k b o n c q = .ok a s := by
  cases v <;> first | exact .inr ⟨_, _, _, _, _, rfl, h⟩ | exact .inl ⟨rfl, h⟩ | cases h
theorem onM_ok {z : R} {k : Pos → R} (h : v.onM .no z k = .ok a s) : (v = .m0 ∧ z = .ok a s) ∨ ∃ b, v = .m b ∧ k b = .ok a s := by
  cases v <;> first | exact .inr ⟨_, rfl, h⟩ | exact .inl ⟨rfl, h⟩ | cases h
theorem onAg_ok {k : V → R} (h : v.onAg .no k = .ok a s) : ∃ x, v = .ag x ∧ k x = .ok a s := by
  cases v <;> first | exact ⟨_, rfl, h⟩ | cases h
theorem onTu_ok {k : V → R} (h : v.onTu .no k = .ok a s) : ∃ x, v = .tu x ∧ k x = .ok a s := by
  cases v <;> first | exact ⟨_, rfl, h⟩ | cases h
theorem onF_ok {k : Pos → V → V → R} {y : Pos → R} (h : v.onF .no k y = .ok a s) : (∃ f x z, v = .f f x z ∧ k f x z = .ok a s) ∨ ∃ l, v = .y l ∧ y l = .ok a s := by
  cases v <;> first | exact .inl ⟨_, _, _, rfl, h⟩ | exact .inr ⟨_, rfl, h⟩ | cases h
theorem onN_ok {k : Nat → R} (h : v.onN .no k = .ok a s) : ∃ x n, v = .i x (Int.ofNat n) ∧ k n = .ok a s := by
  obtain ⟨x, y, e, h⟩ := onI_ok h
  subst e
  cases y with
  | ofNat n => exact ⟨_, _, rfl, h⟩
  | negSucc n => cases h
theorem ol_ok {o : OL} {k : List V → R} (h : o.bnd .no k = .ok a s) : ∃ xs, o = .ok xs ∧ k xs = .ok a s := by
  cases o with
  | no => cases h
  | ok xs => exact ⟨xs, rfl, h⟩
theorem ol_ok' {o : OL} {k : List V → OL} {xs : List V} (h : o.bnd .no k = .ok xs) : ∃ ys, o = .ok ys ∧ k ys = .ok xs := by
  cases o with
  | no => cases h
  | ok ys => exact ⟨ys, rfl, h⟩
theorem cond_ok {c : Bool} {x : R} (h : cond c x .no = .ok a s) : c = true ∧ x = .ok a s := by
  cases c with
  | false => cases h
  | true => exact ⟨rfl, h⟩
theorem cond_ok' {c : Bool} {x : OL} {xs : List V} (h : cond c x .no = .ok xs) : c = true ∧ x = .ok xs := by
  cases c with
  | false => cases h
  | true => exact ⟨rfl, h⟩
theorem cond_no {c : Bool} {x : R} (h : cond c .no x = .ok a s) : c = false ∧ x = .ok a s := by
  cases c with
  | false => exact ⟨rfl, h⟩
  | true => cases h
theorem wr_ok {t : Nat} {r : R} (h : wr t r = .ok a s) : t < roT ∧ r = .ok a s := by
  unfold wr at h
  cases e : Nat.blt t roT with
  | false => rw [e] at h; cases h
  | true => rw [e] at h; exact ⟨by simpa [Nat.blt_eq] using e, h⟩
theorem okv_ok {σ : St} {x : V} (h : okv σ x = .ok a s) : x = a ∧ σ = s := by cases h; exact ⟨rfl, rfl⟩
theorem getAt_ok {l : List V} {n : Nat} {k : V → R} (h : getAt l n .no k = .ok a s) : ∃ x, l[n]? = some x ∧ k x = .ok a s := by
  rw [getAt_eq] at h
  cases e : l[n]? with
  | none => rw [e] at h; cases h
  | some x => rw [e] at h; exact ⟨x, rfl, h⟩
end inv

/-- behind an operation. -/
def Post (CR : CRel) (ι : Inj) (w : World) (σ' : St) (v : V) (v' : Value) (w' : World) : Prop := ∃ ι', Step ι w ι' w' ∧ Rel CR ι' σ' w' ∧ VR ι' v v'

/-- behind an operation that changes nothing. -/
def Stl (ι : Inj) (w : World) (σ σ' : St) (v : V) (v' : Value) (w' : World) : Prop := σ' = σ ∧ w' = w ∧ VR ι v v'
/-- behind an operation that makes one object. -/
def New (CR : CRel) (ι : Inj) (w : World) (σ σ' : St) (v : V) (v' : Value) (w' : World) : Prop :=
  ∃ ob O X, ob.isDead = false ∧ σ' = σ.add ob ∧ w' = Wadd w O ∧ OR CR (ι.upd σ.nx (w.heap.size, 0, X)) 0 X ob O ∧ VR (ι.upd σ.nx (w.heap.size, 0, X)) v v'

section
variable {P : Program} {CR : CRel} {ι : Inj} {σ σ' : St} {w : World} {v : V}
theorem Stl.post {v' : Value} {w' : World} (h : Stl ι w σ σ' v v' w') (hR : Rel CR ι σ w) : Post CR ι w σ' v v' w' := by
  obtain ⟨rfl, rfl, h⟩ := h; exact ⟨ι, .refl _ _, hR, h⟩
theorem New.post {v' : Value} {w' : World} (h : New CR ι w σ σ' v v' w') (hR : Rel CR ι σ w) : Post CR ι w σ' v v' w' := by
  obtain ⟨ob, O, X, _, rfl, rfl, h1, h2⟩ := h
  obtain ⟨r1, r2⟩ := hR.add h1
  exact ⟨_, r2, r1, h2⟩
theorem Post.pure (h : Rel CR ι σ w) {v' : Value} (hv : VR ι v v') : Post CR ι w σ v v' w := ⟨ι, .refl _ _, h, hv⟩

/-- what an operation of the model gives. -/
def Upon (P : Program) (K : Value → World → Prop) : Result Next → Prop
  | .ok (.value v) w' => K v w'
  | .ok .skip w' => K undef w'
  | .ok (.enter f args) w' => CallsIn Fence.wide 0 P f args w' fun e w'' => ∃ v, e = .returned v ∧ K v w''
  | .ok (.round l f tmps as bo) w' => RoundIn Fence.wide 0 P l f tmps as bo w' fun e w'' => ∃ v, e = .returned v ∧ K v w''
  | _ => False

theorem Upon.mono {K K' : Value → World → Prop} {r : Result Next} (h : Upon P K r) (k : ∀ v' w', K v' w' → K' v' w') : Upon P K' r := by
  unfold Upon at h ⊢
  split at h
  · exact k _ _ h
  · exact k _ _ h
  · exact h.mono fun e w'' ⟨v, e1, e2⟩ => ⟨v, e1, k _ _ e2⟩
  · exact h.mono fun e w'' ⟨v, e1, e2⟩ => ⟨v, e1, k _ _ e2⟩
  · exact h.elim
theorem upS {r : Result Next} (h : Upon P (Stl ι w σ σ' v) r) (hR : Rel CR ι σ w) : Upon P (Post CR ι w σ' v) r := h.mono fun _ _ k => k.post hR
theorem upN {r : Result Next} (h : Upon P (New CR ι w σ σ' v) r) (hR : Rel CR ι σ w) : Upon P (Post CR ι w σ' v) r := h.mono fun _ _ k => k.post hR

theorem upV {K : Value → World → Prop} {s : Sem Value} {v' : Value} {w' : World} (h : s.run P w = .ok v' w') (k : K v' w') : Upon P K ((do Pure.pure (Next.value (← s)) : Sem Next).run P w) := by
  rw [Sem.run_bind, h]; exact k
theorem upU {K : Value → World → Prop} {s : Sem Unit} {w' : World} (h : s.run P w = .ok () w') (k : K undef w') : Upon P K ((do s; Pure.pure Next.skip : Sem Next).run P w) := by
  rw [Sem.run_bind, h]; exact k
theorem upP {K : Value → World → Prop} {v' : Value} (k : K v' w) : Upon P K ((Pure.pure (Next.value v') : Sem Next).run P w) := k

/-- a new row. -/
theorem Rel.row_new (h : Rel CR ι σ w) {xs : List V} {xs' : List Value} (hx : CL ι xs xs') {arr : Array Value} (ha : ∀ (k : Nat) (v : Value), xs'[k]? = some v → arr[k]? = some v) {X t : Nat} (hs : xs'.length + X * t ≤ arr.size) (h0 : t = 0 → X = 0) (e : TypeId) :
    Rel CR (ι.upd σ.nx (w.heap.size, 0, X)) (σ.add (.cells xs t)) (Wadd w (.cells arr e)) ∧ Step ι w (ι.upd σ.nx (w.heap.size, 0, X)) (Wadd w (.cells arr e)) := by
  refine h.add (.cells (fun k v hv => ?_) h0 (by rw [hx.length]; omega) (fun k _ => by simp))
  obtain ⟨v', h1, h2⟩ := hx.get hv
  exact ⟨v', by rw [Nat.zero_add]; exact ha k v' h1, h2.mono (Inj.upd_le h.fresh)⟩
theorem run_newRow (e : TypeId) (arr : Array Value) : (newRow e arr).run P w = .ok ⟨w.heap.size, 0, none⟩ (Wadd w (.cells arr e)) := by
  simp [newRow, newObj, Sem.run, Wadd]
theorem OR.row {xs : List V} {xs' : List Value} (hn : ι σ.nx = none) (hx : CL ι xs xs') {arr : Array Value} (ha : ∀ (k : Nat) (v : Value), xs'[k]? = some v → arr[k]? = some v) {X t : Nat} (hs : xs'.length + X * t ≤ arr.size) (h0 : t = 0 → X = 0) (e : TypeId) :
    OR CR (ι.upd σ.nx (w.heap.size, 0, X)) 0 X (.cells xs t) (.cells arr e) := by
  refine .cells (fun k v hv => ?_) h0 (by rw [hx.length]; omega) (fun k _ => by simp)
  obtain ⟨v', h1, h2⟩ := hx.get hv
  exact ⟨v', by rw [Nat.zero_add]; exact ha k v' h1, h2.mono (Inj.upd_le hn)⟩
/-- a new variable. -/
theorem var_new (hn : ι σ.nx = none) {xs : List V} {arr : Array Value} (hx : CL ι xs arr.toList) (e : TypeId) :
    New CR ι w σ (σ.add (.cells xs 0)) (.p σ.nx 0) (.pointer (some ⟨w.heap.size, 0, none⟩)) (Wadd w (.cells arr e)) :=
  ⟨_, _, 0, rfl, rfl, rfl, OR.row hn hx (fun k v hv => by simpa using hv) (by simp) (fun _ => rfl) e, .p (d := 0) (upd_self ..)⟩

variable {E : Env} (hE : TyOK P E)
include hE

theorem ok_alloc {t : TypeId} (ht : (E t).k.isBad = false) (hn : ι σ.nx = none) : ∃ v' w', (Instr.alloc t true (.tuple #[])).run P w = .ok v' w' ∧ New CR ι w σ (σ.add (.cells (E t).z 0)) (.p σ.nx 0) v' w' := by
  obtain ⟨z, h1, h2, _⟩ := hE.zero w ht
  refine ⟨_, _, ?_, var_new hn (h2 ι) t⟩
  simp [Instr.alloc, h1, newVar, run_newRow]
omit hE in
theorem ok_box (t : TypeId) (hn : ι σ.nx = none) {x : V} {x' : Value} (hx : VR ι x x') : ∃ v' w', (Instr.box t x').run P w = .ok v' w' ∧ New CR ι w σ (σ.add (.cells (cellsOf x) 0)) (.p σ.nx 0) v' w' := by
  refine ⟨_, _, ?_, var_new hn hx.cells t⟩
  simp [Instr.box, newVar, run_newRow]

theorem ok_load {t : TypeId} (ht : (E t).k.isBad = false) (hg : (E t).k.agg = false) (h : RelO CR ι σ w) {b : Pos} {o : Nat} {x' : Value} (hx : VR ι (.p b o) x') {cs : List V} {n : Nat} (hc : σ.at b = .cells cs n)
    {v : V} (hk : cs[o]? = some v) : ∃ v', (Instr.loadAt t x').run P w = .ok v' w ∧ VR ι v v' := by
  cases hx with
  | p hb =>
    obtain ⟨v', h1, h2⟩ := h.cell hb hc hk
    refine ⟨v', ?_, h2⟩
    simp [Instr.loadAt, Instr.sureAddr, loadVar, hE.isAgg w ht, hg, h1]
theorem ok_loadA {t : TypeId} (ht : (E t).k.isBad = false) (hg : (E t).k.agg = true) (h : RelO CR ι σ w) {b : Pos} {o : Nat} {x' : Value} (hx : VR ι (.p b o) x') {cs : List V} {n : Nat} (hc : σ.at b = .cells cs n)
    {xs : List V} (hk : sub cs o (E t).size = .ok xs) : ∃ v', (Instr.loadAt t x').run P w = .ok v' w ∧ VR ι (.ag (mkl xs)) v' := by
  cases hx with
  | p hb =>
    obtain ⟨xs', h1, h2'⟩ := h.cells (P := P) hb hc hk
    have h2 := h2' w rfl
    refine ⟨.agg xs'.toArray, ?_, .ag (by simpa using h1.vl)⟩
    simp [Instr.loadAt, Instr.sureAddr, loadVar, hE.isAgg w ht, hg, hE.size w ht, h2]
theorem ok_store {t : TypeId} (ht : (E t).k.isBad = false) (h : Rel CR ι σ w) {b : Pos} {o : Nat} {a' : Value} (ha : VR ι (.p b o) a') {cs cs' : List V} {n : Nat} (hc : σ.at b = .cells cs n)
    {x : V} {x' : Value} (hx : VR ι x x') (hl : (cellsOf x).length = (E t).size) (hs : setsAt cs o (cellsOf x) = .ok cs') (hro : n < roT) :
    ∃ w', (Instr.storeAt t a' x').run P w = .ok () w' ∧ Post CR ι w (σ.put b (.cells cs' n)) un undef w' := by
  cases ha with
  | p hb =>
    obtain ⟨w', h1, h2, h3⟩ := h.store (P := P) hb hc hs hro hx.cells
    refine ⟨w', ?_, ⟨ι, h3, h2, .un _⟩⟩
    have := hx.cells.length
    simp only [Array.length_toList] at this
    simp [Instr.storeAt, Instr.sureAddr, storeVar, hE.size w ht, ← this, hl, h1]
end
end Den

namespace Den
open Go

/-! numbers -/
theorem lim_eq (k : IntKind) (m : Nat) (h : m < lim k) : k.wrap (Int.ofNat m) = Int.ofNat m := by
  cases k <;> simp [lim, IntKind.wrap, IntKind.bits, IntKind.signed] at h ⊢ <;> omega
theorem wrapF_eq (k : IntKind) (n : Int) : wrapF k n = k.wrap n := by
  cases n with
  | negSucc m => rfl
  | ofNat m =>
    show cond (Nat.blt m (lim k)) _ _ = _
    cases h : Nat.blt m (lim k) with
    | false => rfl
    | true => exact (lim_eq k m (by simpa [Nat.blt_eq] using h)).symm
theorem kb_eq {k k' : IntKind} (h : Nat.beq (kb k) (kb k') = true) : k = k' := by
  cases k <;> cases k' <;> first | rfl | cases h
theorem iltb_eq (a b : Int) : iltb a b = decide (a < b) := by
  cases a with
  | ofNat m => cases b with
    | ofNat n => show Nat.blt m n = _; rw [Bool.eq_iff_iff]; simp [Nat.blt_eq]
    | negSucc n => show false = _; symm; rw [decide_eq_false_iff_not]; simp; omega
  | negSucc m => cases b with
    | ofNat n => show true = _; symm; rw [decide_eq_true_iff]; simp; omega
    | negSucc n => show Nat.blt n m = _; rw [Bool.eq_iff_iff]; simp [Nat.blt_eq]; omega
theorem ieqb_eq (a b : Int) : ieqb a b = (a == b) := by
  cases a with
  | ofNat m => cases b with
    | ofNat n => show Nat.beq m n = _; rw [Bool.eq_iff_iff]; simp; omega
    | negSucc n => show false = _; symm; simp
  | negSucc m => cases b with
    | ofNat n => show false = _; symm; simp
    | negSucc n => show Nat.beq n m = _; rw [Bool.eq_iff_iff]; simp; omega

theorem bv_small (k : IntKind) (m : Nat) (h : m < lim k) : (BitVec.ofInt k.bits (Int.ofNat m)).toNat = m := by
  rw [show (Int.ofNat m) = ((m : Nat) : Int) from rfl, BitVec.ofInt_natCast, BitVec.toNat_ofNat]
  apply Nat.mod_eq_of_lt
  cases k <;> simp [lim, IntKind.bits] at h ⊢ <;> omega
theorem lim_pow (k : IntKind) : ∃ j, lim k = 2 ^ j := by
  cases k
  · exact ⟨7, rfl⟩
  · exact ⟨15, rfl⟩
  · exact ⟨31, rfl⟩
  · exact ⟨63, rfl⟩
  · exact ⟨8, rfl⟩
  · exact ⟨16, rfl⟩
  · exact ⟨32, rfl⟩
  · exact ⟨64, rfl⟩
theorem nr_eq (k : IntKind) (a b : Int) (slow : Int) (f : Nat → Nat → Nat) (h : ∀ m n, m < lim k → n < lim k → a = Int.ofNat m → b = Int.ofNat n → Int.ofNat (f m n) = slow) : nr k a b slow f = slow := by
  cases a with
  | negSucc m => rfl
  | ofNat m => cases b with
    | negSucc n => rfl
    | ofNat n =>
      show cond (and (Nat.blt m (lim k)) (Nat.blt n (lim k))) _ _ = _
      cases h1 : Nat.blt m (lim k) with
      | false => rfl
      | true => cases h2 : Nat.blt n (lim k) with
        | false => rfl
        | true => exact h m n (by simpa [Nat.blt_eq] using h1) (by simpa [Nat.blt_eq] using h2) rfl rfl
theorem bAnd_eq (k : IntKind) (a b : Int) : bAnd k a b = sAnd k a b := by
  refine nr_eq k a b _ _ fun m n hm hn ea eb => ?_
  subst ea; subst eb
  obtain ⟨j, hj⟩ := lim_pow k
  simp only [sAnd, BitVec.toNat_and, bv_small k m hm, bv_small k n hn]
  exact (lim_eq k _ (Nat.lt_of_le_of_lt Nat.and_le_left hm)).symm
theorem bOr_eq (k : IntKind) (a b : Int) : bOr k a b = sOr k a b := by
  refine nr_eq k a b _ _ fun m n hm hn ea eb => ?_
  subst ea; subst eb
  obtain ⟨j, hj⟩ := lim_pow k
  simp only [sOr, BitVec.toNat_or, bv_small k m hm, bv_small k n hn]
  refine (lim_eq k _ ?_).symm
  rw [hj] at hm hn ⊢; exact Nat.or_lt_two_pow hm hn
theorem bXor_eq (k : IntKind) (a b : Int) : bXor k a b = sXor k a b := by
  refine nr_eq k a b _ _ fun m n hm hn ea eb => ?_
  subst ea; subst eb
  obtain ⟨j, hj⟩ := lim_pow k
  simp only [sXor, BitVec.toNat_xor, bv_small k m hm, bv_small k n hn]
  refine (lim_eq k _ ?_).symm
  rw [hj] at hm hn ⊢; exact Nat.xor_lt_two_pow hm hn
theorem nn_eq (a b : Int) (slow : Int) (f : Nat → Nat → Int) (h : ∀ m n, a = Int.ofNat m → b = Int.ofNat n → f m n = slow) : nn a b slow f = slow := by
  cases a with
  | negSucc m => rfl
  | ofNat m => cases b with
    | negSucc n => rfl
    | ofNat n => exact h m n rfl rfl
theorem iShl_eq (k : IntKind) (a b : Int) : iShl k a b = k.wrap (a * 2 ^ (min b.toNat k.bits)) := by
  refine nn_eq a b _ _ fun m n ea eb => ?_
  subst ea; subst eb
  rw [wrapF_eq]
  congr 1
  show Int.ofNat (m <<< min n k.bits) = _
  rw [Nat.shiftLeft_eq]; simp
theorem iShr_eq (k : IntKind) (a b : Int) : iShr k a b = a.fdiv (2 ^ (min b.toNat k.bits)) := by
  refine nn_eq a b _ _ fun m n ea eb => ?_
  subst ea; subst eb
  show Int.ofNat (m >>> min n k.bits) = _
  rw [Nat.shiftRight_eq_div_pow]
  rw [Int.fdiv_eq_ediv_of_nonneg _ (Int.pow_nonneg (by decide))]
  show ((m / 2 ^ min n k.bits : Nat) : Int) = (m : Int) / 2 ^ min n k.bits
  rw [Int.natCast_ediv]; simp
theorem iQuo_eq (k : IntKind) (a b : Int) : iQuo k a b = k.wrap (a.tdiv b) := by
  refine nn_eq a b _ _ fun m n ea eb => ?_
  subst ea; subst eb
  rw [wrapF_eq]; rfl
theorem iRem_eq (a b : Int) : iRem a b = a.tmod b := by
  refine nn_eq a b _ _ fun m n ea eb => ?_
  subst ea; subst eb; rfl

section
variable {P : Program} {ι : Inj} {σ σ' : St} {w : World} {v : V}

theorem ok_binI {op : BinOp} {k : IntKind} {a b : Int} (h : binI op k a b σ = .ok v σ') (t : TypeId) (hs : Nat.beq (isShift op) 0 = true) : σ' = σ ∧ ∃ v', (binOp op t (.int k a) (.int k b)).run P w = .ok v' w ∧ VR ι v v' := by
  cases op
  case shl => cases hs
  case shr => cases hs
  case quo =>
    change cond (ieqb b 0) .no (okv σ _) = _ at h
    obtain ⟨h0, h⟩ := cond_no h
    rw [ieqb_eq] at h0
    obtain ⟨e1, e2⟩ := okv_ok h
    refine ⟨e2.symm, .int k (k.wrap (a.tdiv b)), ?_, by rw [← e1, iQuo_eq]; exact .i ..⟩
    have : ¬ b = 0 := by simpa using h0
    simp [binOp, Op.intDiv, this]
  case rem =>
    change cond (ieqb b 0) .no (okv σ _) = _ at h
    obtain ⟨h0, h⟩ := cond_no h
    rw [ieqb_eq] at h0
    obtain ⟨e1, e2⟩ := okv_ok h
    refine ⟨e2.symm, .int k (a.tmod b), ?_, by rw [← e1, iRem_eq]; exact .i ..⟩
    have : ¬ b = 0 := by simpa using h0
    simp [binOp, Op.intDiv, this]
  all_goals
    obtain ⟨e1, e2⟩ := okv_ok h
    refine ⟨e2.symm, ?_⟩
    rw [← e1]
  case add => exact ⟨_, by simp [binOp, Op.intArith]; rfl, by rw [wrapF_eq]; exact .i ..⟩
  case sub => exact ⟨_, by simp [binOp, Op.intArith]; rfl, by rw [wrapF_eq]; exact .i ..⟩
  case mul => exact ⟨_, by simp [binOp, Op.intArith]; rfl, by rw [wrapF_eq]; exact .i ..⟩
  case and => exact ⟨_, by simp [binOp, Op.intBits]; rfl, by rw [bAnd_eq]; exact .i ..⟩
  case or => exact ⟨_, by simp [binOp, Op.intBits]; rfl, by rw [bOr_eq]; exact .i ..⟩
  case xor => exact ⟨_, by simp [binOp, Op.intBits]; rfl, by rw [bXor_eq]; exact .i ..⟩
  case andNot => exact ⟨.int k (sAndNot k a b), by simp [binOp, Op.intBits, sAndNot], .i ..⟩
  case eql => exact ⟨_, by simp [binOp, Op.intCmp]; rfl, by rw [ieqb_eq]; exact .b _⟩
  case neq => exact ⟨_, by simp [binOp, Op.intCmp]; rfl, by rw [ieqb_eq]; exact .b _⟩
  case lss => exact ⟨_, by simp [binOp, Op.intCmp]; rfl, by rw [iltb_eq]; exact .b _⟩
  case leq => exact ⟨.bool (decide (a ≤ b)), by simp [binOp, Op.intCmp], by rw [iltb_eq, ← decide_not, show (decide ¬ b < a) = decide (a ≤ b) from by simp [Int.not_lt]]; exact .b _⟩
  case gtr => exact ⟨.bool (decide (a > b)), by simp [binOp, Op.intCmp], by rw [iltb_eq]; exact .b _⟩
  case geq => exact ⟨.bool (decide (a ≥ b)), by simp [binOp, Op.intCmp], by rw [iltb_eq, ← decide_not, show (decide ¬ a < b) = decide (a ≥ b) from by simp [Int.not_lt]]; exact .b _⟩
theorem ok_bin {op : BinOp} {x y : V} (h : bin op x y σ = .ok v σ') (t : TypeId) {x' y' : Value} (hx : VR ι x x') (hy : VR ι y y') : σ' = σ ∧ ∃ v', (binOp op t x' y').run P w = .ok v' w ∧ VR ι v v' := by
  unfold bin at h
  obtain ⟨k, a, ex, h1⟩ := onI_ok (v := x) h
  obtain ⟨k', b, ey, h2⟩ := onI_ok (v := y) h1
  clear h h1
  subst ex ey
  cases hx
  cases hy
  unfold binII at h2
  cases hs : Nat.beq (isShift op) 0 with
  | true =>
    rw [hs] at h2
    obtain ⟨hk, h3⟩ := cond_ok h2
    cases kb_eq hk
    exact ok_binI h3 t hs
  | false =>
    rw [hs] at h2
    obtain ⟨h0, h3⟩ := cond_no (show cond (iltb b 0) R.no _ = _ from h2)
    rw [iltb_eq] at h0
    obtain ⟨e1, e2⟩ := okv_ok h3
    refine ⟨e2.symm, ?_⟩
    rw [← e1]
    have hb : ¬ b < 0 := by simpa using h0
    cases op <;> first | (cases hs; done) | skip
    · exact ⟨_, by simp [binOp, Op.shift, hb]; rfl, by show VR ι (.i k (iShl k a b)) _; rw [iShl_eq]; exact .i ..⟩
    · exact ⟨_, by simp [binOp, Op.shift, hb]; rfl, by show VR ι (.i k (iShr k a b)) _; rw [iShr_eq]; exact .i ..⟩
end
end Den

namespace Den
open Go

section
variable {P : Program} {CR : CRel} {ι : Inj} {σ σ' : St} {w : World} {v : V}

theorem onNil_ok {x : V} {y n : R} {a : V} {s : St} (h : x.onNil .no y n = .ok a s) : (x.onNil false true false = true ∧ y = .ok a s) ∨ (x.onNil false false true = true ∧ n = .ok a s) := by
  cases x <;> first | exact .inl ⟨rfl, h⟩ | exact .inr ⟨rfl, h⟩ | cases h

theorem natOf {x : V} {x' : Value} {k : IntKind} {n : Nat} (hx : VR ι x x') (e : x = .i k (Int.ofNat n)) : x' = .int k n := by subst e; cases hx; rfl

/-- bounds of a slice. -/
theorem onO_ok {tm : T V} {x : Option Opd} {d : Nat} {k : Nat → O3} {l h m : Nat} (e : onO tm x d k = .ok l h m) :
    (x = none ∧ k d = .ok l h m) ∨ ∃ y q n, x = some y ∧ ev tm y = .i q (Int.ofNat n) ∧ k n = .ok l h m := by
  cases x with
  | none => exact .inl ⟨rfl, e⟩
  | some y =>
    refine .inr ⟨y, ?_⟩
    change (ev tm y).onN .no k = _ at e
    cases hy : ev tm y <;> rw [hy] at e <;> first | (cases e; done) | skip
    rename_i q n
    cases n with
    | ofNat n => exact ⟨q, n, rfl, rfl, e⟩
    | negSucc n => cases e
theorem cond3 {c : Bool} {x : O3} {l h m : Nat} (e : cond c x .no = .ok l h m) : c = true ∧ x = .ok l h m := by
  cases c with
  | false => cases e
  | true => exact ⟨rfl, e⟩
/-- an optional operand, and its value. -/
def OO (ι : Inj) (tm : T V) (x : Option Opd) (x' : Option Value) : Prop :=
  match x, x' with
  | none, none => True
  | some y, some y' => VR ι (ev tm y) y'
  | _, _ => False
theorem run_sliceBound {k : IntKind} {n y : Nat} {c : BoundsCode} (h : n ≤ y) : (Instr.sliceBound (.int k n) y c).run P w = .ok n w := by
  have h1 : (0 : Int) ≤ n ∧ (n : Int) ≤ y := by omega
  simp [Instr.sliceBound, asIntOf, h1]
def Opt (tm : T V) (x : Option Opd) (d n : Nat) : Prop := (x = none ∧ n = d) ∨ ∃ y q, x = some y ∧ ev tm y = .i q (Int.ofNat n)
theorem bnds_inv {tm : T V} {len cap : Nat} {lo hi mx : Option Opd} {l h m : Nat} (e : bnds len cap tm lo hi mx = .ok l h m) :
    Opt tm mx cap m ∧ Opt tm hi len h ∧ Opt tm lo 0 l ∧ l ≤ h ∧ h ≤ m ∧ m ≤ cap := by
  unfold bnds at e
  have key : ∀ {x : Option Opd} {d : Nat} {k : Nat → O3}, onO tm x d k = .ok l h m → ∃ n, Opt tm x d n ∧ k n = .ok l h m := by
    intro x d k e
    rcases onO_ok e with ⟨a, b⟩ | ⟨y, q, n, a, b, c⟩
    · exact ⟨d, .inl ⟨a, rfl⟩, b⟩
    · exact ⟨n, .inr ⟨y, q, a, b⟩, c⟩
  obtain ⟨m', o1, e1⟩ := key e
  obtain ⟨h', o2, e2⟩ := key e1
  obtain ⟨l', o3, e3⟩ := key e2
  obtain ⟨c1, e4⟩ := cond3 e3
  obtain ⟨c2, e5⟩ := cond3 e4
  obtain ⟨c3, e6⟩ := cond3 e5
  simp only [Nat.ble_eq] at c1 c2 c3
  cases e6
  exact ⟨o1, o2, o3, c1, c2, c3⟩
theorem Opt.val {tm : T V} {x : Option Opd} {d n : Nat} (h : Opt tm x d n) {x' : Option Value} (hx : OO ι tm x x') : (x = none ∧ x' = none ∧ n = d) ∨ ∃ q, x ≠ none ∧ x' = some (.int q n) := by
  rcases h with ⟨a, b⟩ | ⟨y, q, a, b⟩
  · subst a; cases x' with
    | none => exact .inl ⟨rfl, rfl, b⟩
    | some _ => exact hx.elim
  · subst a; cases x' with
    | none => exact hx.elim
    | some z => exact .inr ⟨q, by simp, by rw [natOf hx b]⟩
theorem bnds_ok {tm : T V} {len cap X : Nat} {lo hi mx : Option Opd} {lo' hi' mx' : Option Value} {l h m : Nat} (e : bnds len cap tm lo hi mx = .ok l h m)
    (hl : OO ι tm lo lo') (hh : OO ι tm hi hi') (hm : OO ι tm mx mx') (hmh : hi = none → mx = none) (q : Bool) :
    l ≤ h ∧ h ≤ m ∧ m ≤ cap ∧ (mx = none → m = cap) ∧
    (Instr.sliceBounds q len (cap + X) lo' hi' mx').run P w = .ok (l, h, cond (isNone mx) (cap + X) m) w := by
  obtain ⟨o1, o2, o3, c1, c2, c3⟩ := bnds_inv e
  refine ⟨c1, c2, c3, fun hn => ?_, ?_⟩
  · rcases o1 with ⟨_, b⟩ | ⟨y, q, a, b⟩
    · exact b
    · rw [hn] at a; cases a
  · rcases o1.val hm with ⟨a1, b1, d1⟩ | ⟨k1, a1, b1⟩
    · subst b1
      have hi1 : isNone mx = true := by rw [a1]; rfl
      rw [hi1]
      rcases o2.val hh with ⟨a2, b2, d2⟩ | ⟨k2, a2, b2⟩
      · subst b2
        rcases o3.val hl with ⟨a3, b3, d3⟩ | ⟨k3, a3, b3⟩
        · subst b3; subst d2 d3
          simp [Instr.sliceBounds]
        · subst b3; subst d2
          simp [Instr.sliceBounds, run_sliceBound c1]
      · subst b2
        have hx : (Instr.sliceBound (.int k2 h) (cap + X) (if q then .sliceAcap else .sliceAlen)).run P w = .ok h w := run_sliceBound (by omega)
        rcases o3.val hl with ⟨a3, b3, d3⟩ | ⟨k3, a3, b3⟩
        · subst b3; subst d3
          simp [Instr.sliceBounds, hx]
        · subst b3
          simp [Instr.sliceBounds, hx, run_sliceBound c1]
    · subst b1
      have hi1 : isNone mx = false := by cases mx with | none => exact absurd rfl a1 | some _ => rfl
      rw [hi1]
      have hy : (Instr.sliceBound (.int k1 m) (cap + X) (if q then .slice3Acap else .slice3Alen)).run P w = .ok m w := run_sliceBound (by omega)
      rcases o2.val hh with ⟨a2, b2, d2⟩ | ⟨k2, a2, b2⟩
      · exact absurd (hmh a2) a1
      · subst b2
        rcases o3.val hl with ⟨a3, b3, d3⟩ | ⟨k3, a3, b3⟩
        · subst b3; subst d3
          simp [Instr.sliceBounds, hy, run_sliceBound c2]
        · subst b3
          simp [Instr.sliceBounds, hy, run_sliceBound c2, run_sliceBound c1]
theorem o3_ok {o : O3} {k : Nat → Nat → Nat → R} {a : V} {s : St} (h : o.bnd k = .ok a s) : ∃ x y z, o = .ok x y z ∧ k x y z = .ok a s := by
  cases o with
  | no => cases h
  | ok x y z => exact ⟨x, y, z, rfl, h⟩
theorem add_opt (B d o n : Nat) : (⟨B, d + o, none⟩ : Addr).add n = ⟨B, d + (o + n), none⟩ := by rw [addr_add, Nat.add_assoc]

variable {E : Env} (hE : TyOK P E)
include hE
theorem ok_sliceS {t e : TypeId} (hk : (E t).k = .slice e) (he : (E e).k.isBad = false) {x : Opd} {lo hi mx : Option Opd} {tm : T V} {call : Cl} (h : oSliceS (E e).size x lo hi mx call tm σ = .ok v σ')
    {x' : Value} {lo' hi' mx' : Option Value} (hx : VR ι (ev tm x) x') (hl : OO ι tm lo lo') (hh : OO ι tm hi hi') (hm : OO ι tm mx mx') (hmh : hi = none → mx = none) :
    σ' = σ ∧ ∃ v', (Instr.sliceAt t x' lo' hi' mx').run P w = .ok v' w ∧ VR ι v v' := by
  have ht : (E t).k.isBad = false := by rw [hk]; rfl
  have hu : P.underlying t = some (.slice e) := by have := (hE t ht).und; rw [hk] at this; exact this
  unfold oSliceS at h
  rcases onSl_ok (v := ev tm x) h with ⟨ex, h⟩ | ⟨b, o, len, cap, opn, ex, h⟩
  · obtain ⟨l, hh', m, eb, h⟩ := o3_ok h
    cases h
    rw [ex] at hx; cases hx
    obtain ⟨a1, a2, a3, a4, a5⟩ := bnds_ok (P := P) (w := w) (X := 0) eb hl hh hm hmh true
    have hl0 : l = 0 := by omega
    have hh0 : hh' = 0 := by omega
    have hm0 : m = 0 := by omega
    subst hl0 hh0 hm0
    have hc : (cond (isNone mx) (0 + 0) 0 : Nat) = 0 := by cases isNone mx <;> rfl
    rw [hc] at a5
    refine ⟨rfl, .slice none 0 0, ?_, .s0⟩
    simp only [Nat.add_zero] at a5
    simp [Instr.sliceAt, Instr.slice, run_underlying hu, a5, hE.size w he]
  · obtain ⟨l, hh', m, eb, h⟩ := o3_ok h
    cases h
    rw [ex] at hx
    cases hx with
    | sl hb hcap hlen ha =>
      rename_i B d X a c
      refine ⟨rfl, ?_⟩
      obtain ⟨a1, a2, a3, a4, a5⟩ := bnds_ok (P := P) (w := w) (X := cond opn X 0) eb hl hh hm hmh true
      rw [← hcap] at a5
      refine ⟨_, by simp [Instr.sliceAt, Instr.slice, run_underlying hu, a5, hE.size w he]; rfl, ?_⟩
      have hM : (cond (isNone mx) c m : Nat) - l = (m - l) + cond (cond (isNone mx) opn false) X 0 := by
        cases mx with
        | none => have := a4 rfl; show c - l = (m - l) + cond opn X 0; omega
        | some y => show m - l = m - l + 0; rfl
      by_cases hz : (cond (isNone mx) c m : Nat) = l
      · rw [if_pos hz]
        exact .sl hb hM (show hh' - l ≤ m - l by omega) (.inl (by omega))
      · rw [if_neg hz]
        refine .sl hb hM (show hh' - l ≤ m - l by omega) (.inr ?_)
        rcases ha with ha | ha
        · exfalso
          cases mx with
          | none => have := a4 rfl; change ¬ c = l at hz; omega
          | some y => change ¬ m = l at hz; omega
        · rw [ha]; exact add_opt ..
end
end Den

namespace Den
open Go

section
variable {P : Program} {CR : CRel} {ι : Inj} {σ σ' : St} {w : World} {v : V} {call : Cl} {tm : T V} {ρ : Operand → Value} {o : Oper} 

theorem postV {s : Sem Value} {v' : Value} (e : σ' = σ) (h : s.run P w = .ok v' w) (hv : VR ι v v') : Upon P (Stl ι w σ σ' v) ((do Pure.pure (Next.value (← s)) : Sem Next).run P w) := by
  subst e; exact upV h ⟨rfl, rfl, hv⟩

theorem e_mv {X : Operand} (ho : o.op = .move X ∨ o.op = .assign X) {x : Opd} (h : oMv x call tm σ = .ok v σ') (hx : VR ι (ev tm x) (ρ X)) : Upon P (Stl ι w σ σ' v) ((execOp ρ o).run P w) := by
  cases h
  have : execOp ρ o = Pure.pure (Next.value (ρ X)) := by rcases ho with ho | ho <;> simp only [execOp, ho]
  rw [this]
  exact ⟨rfl, rfl, hx⟩
theorem e_nilc {X : Operand} (ho : o.op = .nilCheck X) {x : Opd} (h : oNilc x call tm σ = .ok v σ') (hx : VR ι (ev tm x) (ρ X)) : Upon P (Stl ι w σ σ' v) ((execOp ρ o).run P w) := by
  simp only [execOp, ho]
  unfold oNilc at h
  generalize ev tm x = y at h hx
  generalize ρ X = y' at hx ⊢
  have hv : v = y ∧ σ' = σ := by cases y <;> first | (cases h; exact ⟨rfl, rfl⟩) | cases h
  obtain ⟨e1, e2⟩ := hv
  subst e1 e2
  have hp : Stl ι w σ' σ' v y' w := ⟨rfl, rfl, hx⟩
  cases hx <;> first | (cases h; done) | exact hp
theorem e_pick {A B D : Operand} (ho : o.op = .pick A B D) {a b d : Opd} (h : oPick a b d call tm σ = .ok v σ') (ha : VR ι (ev tm a) (ρ A)) (hb : VR ι (ev tm b) (ρ B)) (hd : VR ι (ev tm d) (ρ D)) :
    Upon P (Stl ι w σ σ' v) ((execOp ρ o).run P w) := by
  simp only [execOp, ho]
  obtain ⟨t, e, h1⟩ := onB_ok (v := ev tm a) h
  rw [e] at ha
  generalize ρ A = a' at ha ⊢
  cases ha
  cases h1
  cases t
  · simp [asBool]; exact ⟨rfl, rfl, hd⟩
  · simp [asBool]; exact ⟨rfl, rfl, hb⟩
theorem e_not {t : TypeId} {X : Operand} (ho : o.op = .unOp .not t X) {x : Opd} (h : oNot x call tm σ = .ok v σ') (hx : VR ι (ev tm x) (ρ X)) : Upon P (Stl ι w σ σ' v) ((execOp ρ o).run P w) := by
  simp only [execOp, ho]
  obtain ⟨b, e, h1⟩ := onB_ok (v := ev tm x) h
  obtain ⟨e1, e2⟩ := okv_ok h1
  rw [e] at hx
  generalize ρ X = x' at hx ⊢
  cases hx
  exact postV e2.symm (v' := .bool (!b)) (by simp [Op.unary]) (by rw [← e1]; exact .b _)
theorem e_neg {t : TypeId} {X : Operand} (ho : o.op = .unOp .neg t X) {x : Opd} (h : oNeg x call tm σ = .ok v σ') (hx : VR ι (ev tm x) (ρ X)) : Upon P (Stl ι w σ σ' v) ((execOp ρ o).run P w) := by
  simp only [execOp, ho]
  obtain ⟨k, n, e, h1⟩ := onI_ok (v := ev tm x) h
  obtain ⟨e1, e2⟩ := okv_ok h1
  rw [e] at hx
  generalize ρ X = x' at hx ⊢
  cases hx
  exact postV e2.symm (v' := .int k (k.wrap (0 - n))) (by simp [Op.unary, Op.intArith]) (by rw [← e1, wrapF_eq]; exact .i ..)
theorem e_com {t : TypeId} {X : Operand} (ho : o.op = .unOp .xor t X) {x : Opd} (h : oCom x call tm σ = .ok v σ') (hx : VR ι (ev tm x) (ρ X)) : Upon P (Stl ι w σ σ' v) ((execOp ρ o).run P w) := by
  simp only [execOp, ho]
  obtain ⟨k, n, e, h1⟩ := onI_ok (v := ev tm x) h
  obtain ⟨e1, e2⟩ := okv_ok h1
  rw [e] at hx
  generalize ρ X = x' at hx ⊢
  cases hx
  have : (if k.signed then (-1 : Int) else k.max) = cond k.signed (-1) k.max := by cases k.signed <;> rfl
  exact postV e2.symm (v' := .int k (sXor k (cond k.signed (-1) k.max) n)) (by simp [Op.unary, Op.intBits, sXor, this]) (by rw [← e1]; exact .i ..)
theorem e_bin {op : BinOp} {t u : TypeId} {X Y : Operand} (ho : o.op = .binOp op t X Y u) {x y : Opd} (h : oBin op x y call tm σ = .ok v σ') (hx : VR ι (ev tm x) (ρ X)) (hy : VR ι (ev tm y) (ρ Y)) :
    Upon P (Stl ι w σ σ' v) ((execOp ρ o).run P w) := by
  simp only [execOp, ho]
  unfold oBin at h
  obtain ⟨e, v', h1, h2⟩ := ok_bin (P := P) (w := w) h t hx hy
  refine postV e (v' := v') ?_ h2
  unfold bin at h
  obtain ⟨k, a, ex, h3⟩ := onI_ok (v := ev tm x) h
  obtain ⟨k', b, ey, h4⟩ := onI_ok (v := ev tm y) h3
  rw [ex] at hx; rw [ey] at hy
  generalize ρ X = x' at hx h1 ⊢
  generalize ρ Y = y' at hy h1 ⊢
  cases hx; cases hy
  have : (eqGuard op t X Y (.int k a) (.int k' b)).run P w = .ok () w := by cases op <;> simp [eqGuard]
  rw [Sem.run_bind, this]; exact h1
theorem eqBool {t : TypeId} (hu : P.underlying t = some .bool) (a b : Bool) (w : World) : (Op.equal t (.bool a) (.bool b)).run P w = .ok (a == b) w := run_equalIn_bool' w 9999 t a b hu
theorem e_eqb {neg : Bool} {t u : TypeId} {X Y : Operand} (ho : o.op = .binOp (cond neg .neq .eql) t X Y u) {x y : Opd} (h : oEqb neg x y call tm σ = .ok v σ') (hx : VR ι (ev tm x) (ρ X)) (hy : VR ι (ev tm y) (ρ Y)) (hu : P.underlying t = some .bool) :
    Upon P (Stl ι w σ σ' v) ((execOp ρ o).run P w) := by
  simp only [execOp, ho]
  obtain ⟨a, ex, h3⟩ := onB_ok (v := ev tm x) h
  obtain ⟨b, ey, h4⟩ := onB_ok (v := ev tm y) h3
  obtain ⟨e1, e2⟩ := okv_ok h4
  rw [ex] at hx; rw [ey] at hy
  generalize ρ X = x' at hx ⊢
  generalize ρ Y = y' at hy ⊢
  cases hx; cases hy
  cases neg
  · exact postV e2.symm (v' := .bool (a == b)) (by simp [eqGuard, binOp, eqBool hu]) (by rw [← e1]; exact .b _)
  · exact postV e2.symm (v' := .bool (a != b)) (by simp [eqGuard, binOp, eqBool hu, bne]) (by rw [← e1]; exact .b _)
theorem run_equalNil {t : TypeId} {k : TK} (hk : KAt (P.underlying t) k) (hn : k.nilable = true) {x y : V} {x' y' : Value} (hx : VR ι x x') (hy : VR ι y y') {r : Bool}
    (h : (x.kd = k.kd ∧ y.kd = k.kd ∧ r = true) ∨ (x.kd = k.kd ∧ y.kd = k.kd + 1 ∧ r = false) ∨ (x.kd = k.kd + 1 ∧ y.kd = k.kd ∧ r = false)) :
    (Op.equal t x' y').run P w = .ok r w ∧ ∀ (op : BinOp) (X Y : Operand), (eqGuard op t X Y x' y').run P w = .ok () w ∧ ((binOp .eql t x' y').run P w = .ok (.bool r) w) ∧ ((binOp .neq t x' y').run P w = .ok (.bool (!r)) w) := by
  have key : (Op.equal t x' y').run P w = .ok r w := by
    show (Op.equalIn (9999 + 1) t x' y').run P w = .ok r w
    generalize 9999 = dd
    cases k with
    | ptr e =>
      have hu : P.underlying t = some (.pointer e) := hk
      rcases h with ⟨h1, h2, h3⟩ | ⟨h1, h2, h3⟩ | ⟨h1, h2, h3⟩ <;> subst h3 <;> (cases hx <;> first | (cases h1; done) | skip) <;> (cases hy <;> first | (cases h2; done) | simp [Op.equalIn, run_underlying hu])
    | slice e =>
      have hu : P.underlying t = some (.slice e) := hk
      rcases h with ⟨h1, h2, h3⟩ | ⟨h1, h2, h3⟩ | ⟨h1, h2, h3⟩ <;> subst h3 <;> (cases hx <;> first | (cases h1; done) | skip) <;> (cases hy <;> first | (cases h2; done) | simp [Op.equalIn, run_underlying hu])
    | map a e =>
      have hu : P.underlying t = some (.map a e) := hk
      rcases h with ⟨h1, h2, h3⟩ | ⟨h1, h2, h3⟩ | ⟨h1, h2, h3⟩ <;> subst h3 <;> (cases hx <;> first | (cases h1; done) | skip) <;> (cases hy <;> first | (cases h2; done) | simp [Op.equalIn, run_underlying hu])
    | func =>
      obtain ⟨a, b, c, hu⟩ := hk
      rcases h with ⟨h1, h2, h3⟩ | ⟨h1, h2, h3⟩ | ⟨h1, h2, h3⟩ <;> subst h3 <;> (cases hx <;> first | (cases h1; done) | skip) <;> (cases hy <;> first | (cases h2; done) | simp [Op.equalIn, run_underlying hu])
    | _ => cases hn
  refine ⟨key, fun op X Y => ⟨?_, ?_, ?_⟩⟩
  · have hnx : x.kd ≠ 0 := by cases k <;> first | (cases hn; done) | (simp only [TK.kd] at h; omega)
    cases hx <;> first | (exact absurd rfl hnx) | (cases op <;> simp [eqGuard])
  · have hnx : x.kd ≠ 0 := by cases k <;> first | (cases hn; done) | (simp only [TK.kd] at h; omega)
    have hny : y.kd ≠ 0 := by cases k <;> first | (cases hn; done) | (simp only [TK.kd] at h; omega)
    cases hx <;> first | (exact absurd rfl hnx) | (cases hy <;> first | (exact absurd rfl hny) | simp [binOp, key])
  · have hnx : x.kd ≠ 0 := by cases k <;> first | (cases hn; done) | (simp only [TK.kd] at h; omega)
    have hny : y.kd ≠ 0 := by cases k <;> first | (cases hn; done) | (simp only [TK.kd] at h; omega)
    cases hx <;> first | (exact absurd rfl hnx) | (cases hy <;> first | (exact absurd rfl hny) | simp [binOp, key])
theorem e_eqn {neg : Bool} {t u : TypeId} {X Y : Operand} (ho : o.op = .binOp (cond neg .neq .eql) t X Y u) {k : TK} {x y : Opd} (h : oEqn k.kd neg x y call tm σ = .ok v σ') (hx : VR ι (ev tm x) (ρ X)) (hy : VR ι (ev tm y) (ρ Y))
    (hk : KAt (P.underlying t) k) (hn : k.nilable = true) :
    Upon P (Stl ι w σ σ' v) ((execOp ρ o).run P w) := by
  simp only [execOp, ho]
  unfold oEqn at h
  generalize ev tm x = a at h hx
  generalize ev tm y = b at h hy
  have key : ∃ r, ((a.kd = k.kd ∧ b.kd = k.kd ∧ r = true) ∨ (a.kd = k.kd ∧ b.kd = k.kd + 1 ∧ r = false) ∨ (a.kd = k.kd + 1 ∧ b.kd = k.kd ∧ r = false)) ∧ v = .b (cond neg (!r) r) ∧ σ = σ' := by
    cases h1 : Nat.beq a.kd k.kd with
    | true =>
      rw [h1] at h
      cases h2 : Nat.beq b.kd k.kd with
      | true =>
        rw [h2] at h
        obtain ⟨e1, e2⟩ := okv_ok h
        exact ⟨true, .inl ⟨Nat.eq_of_beq_eq_true h1, Nat.eq_of_beq_eq_true h2, rfl⟩, by rw [← e1]; cases neg <;> rfl, e2⟩
      | false =>
        rw [h2] at h
        obtain ⟨h3, h4⟩ := cond_ok (show cond (Nat.beq b.kd (Nat.add k.kd 1)) (okv σ (.b neg)) R.no = _ from h)
        obtain ⟨e1, e2⟩ := okv_ok h4
        exact ⟨false, .inr (.inl ⟨Nat.eq_of_beq_eq_true h1, Nat.eq_of_beq_eq_true h3, rfl⟩), by rw [← e1]; cases neg <;> rfl, e2⟩
    | false =>
      rw [h1] at h
      obtain ⟨h3, h4⟩ := cond_ok (show cond (Nat.beq a.kd (Nat.add k.kd 1)) _ R.no = _ from h)
      obtain ⟨h5, h6⟩ := cond_ok h4
      obtain ⟨e1, e2⟩ := okv_ok h6
      exact ⟨false, .inr (.inr ⟨Nat.eq_of_beq_eq_true h3, Nat.eq_of_beq_eq_true h5, rfl⟩), by rw [← e1]; cases neg <;> rfl, e2⟩
  obtain ⟨r, hr, e1, e2⟩ := key
  obtain ⟨_, h2⟩ := run_equalNil (w := w) hk hn hx hy hr
  cases neg
  · obtain ⟨g1, g2, _⟩ := h2 .eql X Y
    exact postV e2.symm (v' := .bool r) (by simp [g1, g2]) (by rw [e1]; exact .b _)
  · obtain ⟨g1, _, g3⟩ := h2 .neq X Y
    exact postV e2.symm (v' := .bool (!r)) (by simp [g1, g3]) (by rw [e1]; exact .b _)
end
end Den

namespace Den
open Go

theorem eqV_ok {ι : Inj} {x y : V} {x' y' : Value} (hx : VR ι x x') (hy : VR ι y y') {r : Bool} (h : eqV x y = B3.of r) :
    ∃ k a b, x' = .int k a ∧ y' = .int k b ∧ r = (a == b) := by
  have h1 : B3.of r ≠ .no := by cases r <;> (intro e; cases e)
  cases hx <;> first | (exact absurd h (fun e => h1 e.symm)) | skip
  cases hy <;> first | (exact absurd h (fun e => h1 e.symm)) | skip
  rename_i k a k' b
  change cond (Nat.beq (kb k) (kb k')) (B3.of (ieqb a b)) .no = _ at h
  cases hk : Nat.beq (kb k) (kb k') with
  | false => rw [hk] at h; exact absurd h (fun e => h1 e.symm)
  | true =>
    rw [hk] at h
    cases kb_eq hk
    refine ⟨k, a, b, rfl, rfl, ?_⟩
    change B3.of (ieqb a b) = _ at h
    rw [ieqb_eq] at h
    cases r <;> cases hb : (a == b) <;> first | rfl | (rw [hb] at h; cases h)
theorem eqVs_cons {x y : V} {xs ys : List V} {r : Bool} (h : eqVs (x :: xs) (y :: ys) = B3.of r) : (eqV x y = B3.of true ∧ eqVs xs ys = B3.of r) ∨ (eqV x y = B3.of false ∧ r = false) := by
  change B3.rec (motive := fun _ => B3) .no (eqVs xs ys) .f (eqV x y) = _ at h
  cases he : eqV x y with
  | no => rw [he] at h; cases r <;> cases h
  | t => rw [he] at h; exact .inl ⟨rfl, h⟩
  | f => rw [he] at h; refine .inr ⟨rfl, ?_⟩; cases r <;> first | rfl | cases h
section
variable {P : Program} {E : Env} (hE : TyOK P E) {ι : Inj} {w : World}
include hE
theorem run_part1 {t : TypeId} (ht : (E t).k.isBad = false) (hg : (E t).k.agg = false) {cs : Array Value} {n : Nat} {v : Value} (h : cs[n]? = some v) : (part t cs n).run P w = .ok v w := by
  simp [part, hE.isAgg w ht, hg, h]
theorem eqFields_ok (d : Nat) {xs ys : Array Value} : ∀ (fs : List Field) (n : Nat), flat E (fs.map fun x => (x.offset, x.type)) n = true → (∀ f ∈ fs, f.name ≠ "_") → ∀ {a b : List V} {r : Bool},
    CL ι a (xs.toList.drop n) → CL ι b (ys.toList.drop n) → a.length = fs.length → b.length = fs.length → eqVs a b = B3.of r → (Op.eqFields (d + 1) xs ys fs).run P w = .ok r w
  | [], n, _, _, a, b, r, ha, hb, la, lb, h => by
    simp at la lb
    subst la lb
    have : r = true := by cases r <;> first | rfl | cases h
    simp [Op.eqFields, this]
  | f :: fs, n, hf, hn, a, b, r, ha, hb, la, lb, h => by
    cases a with
    | nil => simp at la
    | cons x a =>
      cases b with
      | nil => simp at lb
      | cons y b =>
        simp only [List.map_cons, flat, Bool.and_eq_true, beq_iff_eq] at hf
        obtain ⟨⟨hk, hoff⟩, hrest⟩ := hf
        have hx : ∃ v vs, xs.toList.drop n = v :: vs ∧ VR ι x v ∧ CL ι a vs := by cases hd : xs.toList.drop n <;> rw [hd] at ha <;> cases ha; exact ⟨_, _, rfl, by assumption, by assumption⟩
        have hy : ∃ v vs, ys.toList.drop n = v :: vs ∧ VR ι y v ∧ CL ι b vs := by cases hd : ys.toList.drop n <;> rw [hd] at hb <;> cases hb; exact ⟨_, _, rfl, by assumption, by assumption⟩
        obtain ⟨v, vs, d1, r1, c1⟩ := hx
        obtain ⟨u, us, d2, r2, c2⟩ := hy
        have e1 : xs[n]? = some v := by have := congrArg (·[0]?) d1; simpa using this
        have e2 : ys[n]? = some u := by have := congrArg (·[0]?) d2; simpa using this
        have n1 : xs.toList.drop (n + 1) = vs := by rw [← List.drop_drop (i := 1), d1]; rfl
        have n2 : ys.toList.drop (n + 1) = us := by rw [← List.drop_drop (i := 1), d2]; rfl
        have hkk : ∃ q, (E f.type).k = .int q := by cases hkk : (E f.type).k <;> rw [hkk] at hk <;> first | (cases hk; done) | exact ⟨_, rfl⟩
        obtain ⟨q, hkk⟩ := hkk
        have hb' : (E f.type).k.isBad = false := by rw [hkk]; rfl
        have hg' : (E f.type).k.agg = false := by rw [hkk]; rfl
        have hne : f.name ≠ "_" := hn f (by simp)
        have heq : ∀ r, eqV x y = B3.of r → (Op.equalIn (d + 1) f.type v u).run P w = .ok r w := by
          intro r hr
          have hu := (hE f.type hb').und
          rw [hkk] at hu
          obtain ⟨k, p, q, g1, g2, g3⟩ := eqV_ok r1 r2 hr
          subst g1 g2 g3
          exact run_equalIn_int w d f.type k _ p q hu
        simp only [Op.eqFields]
        rcases eqVs_cons h with ⟨h1, h2⟩ | ⟨h1, h2⟩
        · have := eqFields_ok d fs (n + 1) hrest (fun g hg => hn g (by simp [hg])) (a := a) (b := b) (by rw [n1]; exact c1) (by rw [n2]; exact c2) (by simpa using la) (by simpa using lb) h2
          simp [hne, hoff, run_part1 hE hb' hg' e1, run_part1 hE hb' hg' e2, heq true h1, this]
        · subst h2
          simp [hne, hoff, run_part1 hE hb' hg' e1, run_part1 hE hb' hg' e2, heq false h1]
theorem eqVs_of {a b : List V} (h : eqVs a b ≠ .no) : ∃ r, eqVs a b = B3.of r := by
  cases e : eqVs a b with
  | no => exact absurd e h
  | t => exact ⟨true, rfl⟩
  | f => exact ⟨false, rfl⟩
/-- arrays of numbers. -/
theorem run_equalArr (d : Nat) {t e : TypeId} {N : Nat} (hu : P.underlying t = some (.array N e)) (hi : (E e).k.isInt = true) (hs : (E e).size = 1) {xs ys : Array Value} {a b : List V} {r : Bool}
    (ha : CL ι a xs.toList) (hb : CL ι b ys.toList) (la : a.length = N) (lb : b.length = N) (h : eqVs a b = B3.of r) : (Op.equalIn (d + 2) t (.agg xs) (.agg ys)).run P w = .ok r w := by
  have hkk : ∃ q, (E e).k = .int q := by cases hkk : (E e).k <;> rw [hkk] at hi <;> first | (cases hi; done) | exact ⟨_, rfl⟩
  obtain ⟨q, hkk⟩ := hkk
  have hb' : (E e).k.isBad = false := by rw [hkk]; rfl
  have hg' : (E e).k.agg = false := by rw [hkk]; rfl
  have hue := (hE e hb').und
  rw [hkk] at hue
  have key : ∀ (m n : Nat), n + m = N → ∀ {a b : List V} {r : Bool}, CL ι a (xs.toList.drop n) → CL ι b (ys.toList.drop n) → a.length = m → b.length = m → eqVs a b = B3.of r →
      (forIn (m := Sem) (List.range' n m) ((none, ()) : Option Bool × Unit) fun i _ => do
        if (!(← Op.equalIn (d + 1) e (← part e xs (i * 1)) (← part e ys (i * 1)))) = true then pure (ForInStep.done (some false, ())) else pure (ForInStep.yield (none, ()))).run P w = .ok (if r then (none, ()) else (some false, ())) w := by
    intro m
    induction m with
    | zero =>
      intro n _ a b r ha hb la lb h
      simp at la lb
      subst la lb
      have : r = true := by cases r <;> first | rfl | cases h
      simp [this]
    | succ m ih =>
      intro n hn a b r ha hb la lb h
      cases a with
      | nil => simp at la
      | cons x a => cases b with
        | nil => simp at lb
        | cons y b =>
          have hx : ∃ v vs, xs.toList.drop n = v :: vs ∧ VR ι x v ∧ CL ι a vs := by cases hd : xs.toList.drop n <;> rw [hd] at ha <;> cases ha; exact ⟨_, _, rfl, by assumption, by assumption⟩
          have hy : ∃ v vs, ys.toList.drop n = v :: vs ∧ VR ι y v ∧ CL ι b vs := by cases hd : ys.toList.drop n <;> rw [hd] at hb <;> cases hb; exact ⟨_, _, rfl, by assumption, by assumption⟩
          obtain ⟨v, vs, d1, r1, c1⟩ := hx
          obtain ⟨u, us, d2, r2, c2⟩ := hy
          have e1 : xs[n]? = some v := by have := congrArg (·[0]?) d1; simpa using this
          have e2 : ys[n]? = some u := by have := congrArg (·[0]?) d2; simpa using this
          have n1 : xs.toList.drop (n + 1) = vs := by rw [← List.drop_drop (i := 1), d1]; rfl
          have n2 : ys.toList.drop (n + 1) = us := by rw [← List.drop_drop (i := 1), d2]; rfl
          have heq : ∀ r, eqV x y = B3.of r → (Op.equalIn (d + 1) e v u).run P w = .ok r w := by
            intro r hr
            obtain ⟨k, p, q, g1, g2, g3⟩ := eqV_ok r1 r2 hr
            subst g1 g2 g3
            exact run_equalIn_int w d e k _ p q hue
          rw [List.range'_succ]
          rcases eqVs_cons h with ⟨h1, h2⟩ | ⟨h1, h2⟩
          · have := ih (n + 1) (by omega) (a := a) (b := b) (by rw [n1]; exact c1) (by rw [n2]; exact c2) (by simpa using la) (by simpa using lb) h2
            simp only [List.forIn_cons, Sem.run_bind, Nat.mul_one, run_part1 hE hb' hg' e1, run_part1 hE hb' hg' e2, heq true h1, Result.andThen_ok]
            simpa using this
          · subst h2
            simp [List.forIn_cons, run_part1 hE hb' hg' e1, run_part1 hE hb' hg' e2, heq false h1]
  have := key N 0 (by omega) (by simpa using ha) (by simpa using hb) la lb h
  obtain ⟨d', hd⟩ : ∃ d', d' = d + 1 := ⟨_, rfl⟩
  rw [← hd] at this
  rw [show d + 2 = d' + 1 from by omega]
  clear hd key
  simp only [Op.equalIn, Sem.run_bind, run_underlying hu, Result.andThen_ok, hE.size w hb', hs]
  have hf : ∀ (f : Nat → Option Bool × Unit → Sem (ForInStep (Option Bool × Unit))), forIn [:N] (none, ()) f = forIn (List.range' 0 N) (none, ()) f := by
    intro f
    rw [Std.Legacy.Range.forIn_eq_forIn_range']
    simp [Std.Legacy.Range.size]
  rw [hf, this]
  cases r <;> rfl
end
end Den
