/- A symbolic executor for Go functions in the model: the definitions. Nothing is proved here. -/
import Derived.WalkKit
import Derived.KernelRfl
set_option linter.unusedVariables false
namespace Go.Sx

/-! ### Data -/
inductive DV where
  | i (n : Int)
  | b (x : Bool)
  | l (xs : List (List Int))
  deriving Inhabited

def DV.int : DV → Int
  | .i n => n
  | _ => 0
def DV.bool : DV → Bool
  | .b x => x
  | _ => false
def DV.list : DV → List (List Int)
  | .l xs => xs
  | _ => []

abbrev Env := Nat → DV
def Env.set (env : Env) (k : Nat) (d : DV) : Env := fun j => if j = k then d else env j
def Env.sets (env : Env) (k : Nat) : List DV → Env
  | [] => env
  | d :: ds => Env.sets (Env.set env k d) (k + 1) ds

/-! ### Expressions -/
inductive IE where
  | v (k : Nat)
  | c (n : Int)
  | add (a b : IE)
  | sub (a b : IE)
  | mul (a b : IE)
  | tdiv (a b : IE)
  | tmod (a b : IE)
  | ediv (a : IE) (n : Nat)
  | emod (a : IE) (n : Nat)
  | shl (a b : IE)
  | shr (a b : IE)
  | wrap (k : IntKind) (a : IE)
  | max (a b : IE)
  | min (a b : IE)
  | bits (op : BinOp) (k : IntKind) (a b : IE)
  | len (k : Nat)
  | get (k : Nat) (i : IE) (j : Nat)
  | ifeq (i : IE) (n : Nat) (a b : IE)
  deriving DecidableEq, Repr, Inhabited

def cellAt (xs : List (List Int)) (i : Int) (j : Nat) : Int := (xs.getD i.toNat []).getD j 0

def IE.den (env : Env) : IE → Int
  | .v k => (env k).int
  | .c n => n
  | .add a b => a.den env + b.den env
  | .sub a b => a.den env - b.den env
  | .mul a b => a.den env * b.den env
  | .tdiv a b => (a.den env).tdiv (b.den env)
  | .tmod a b => (a.den env).tmod (b.den env)
  | .ediv a n => a.den env / (n : Int)
  | .emod a n => a.den env % (n : Int)
  | .shl a b => a.den env * 2 ^ (b.den env).toNat
  | .shr a b => a.den env / 2 ^ (b.den env).toNat
  | .wrap k a => k.wrap (a.den env)
  | .max a b => Max.max (a.den env) (b.den env)
  | .min a b => Min.min (a.den env) (b.den env)
  | .bits op k a b => Go.bits op k (a.den env) (b.den env)
  | .len k => ((env k).list.length : Int)
  | .get k i j => cellAt (env k).list (i.den env) j
  | .ifeq i n a b => if i.den env = (n : Int) then a.den env else b.den env

inductive BE where
  | v (k : Nat)
  | c (x : Bool)
  | lt (a b : IE)
  | le (a b : IE)
  | eq (a b : IE)
  | not (a : BE)
  | and (a b : BE)
  | or (a b : BE)
  | iff (a b : BE)
  | ne0 (a : IE)
  deriving DecidableEq, Repr, Inhabited

def BE.den (env : Env) : BE → Bool
  | .v k => (env k).bool
  | .c x => x
  | .lt a b => decide (a.den env < b.den env)
  | .le a b => decide (a.den env ≤ b.den env)
  | .eq a b => decide (a.den env = b.den env)
  | .not a => !(a.den env)
  | .and a b => a.den env && b.den env
  | .or a b => a.den env || b.den env
  | .iff a b => a.den env == b.den env
  | .ne0 a => decide (a.den env ≠ 0)

/-- One step of folding constants. -/
def IE.mk (e : IE) : IE :=
  match e with
  | .add (.c a) (.c b) => .c (a + b)
  | .add a (.c 0) => a
  | .add (.c 0) a => a
  | .sub (.c a) (.c b) => .c (a - b)
  | .sub a (.c 0) => a
  | .mul (.c a) (.c b) => .c (a * b)
  | .mul (.c 1) a => a
  | .mul a (.c 1) => a
  | .tdiv (.c a) (.c b) => .c (a.tdiv b)
  | .tmod (.c a) (.c b) => .c (a.tmod b)
  | .ediv (.c a) n => .c (a / (n : Int))
  | .emod (.c a) n => .c (a % (n : Int))
  | .shl (.c a) (.c b) => .c (a * 2 ^ b.toNat)
  | .shr (.c a) (.c b) => .c (a / 2 ^ b.toNat)
  | .wrap k (.c a) => .c (k.wrap a)
  | .max (.c a) (.c b) => .c (Max.max a b)
  | .min (.c a) (.c b) => .c (Min.min a b)
  | .bits op k (.c a) (.c b) => .c (Go.bits op k a b)
  | .ifeq (.c i) n a b => if i = (n : Int) then a else b
  | e => e

def BE.mk (e : BE) : BE :=
  match e with
  | .lt (.c a) (.c b) => .c (decide (a < b))
  | .le (.c a) (.c b) => .c (decide (a ≤ b))
  | .eq (.c a) (.c b) => .c (decide (a = b))
  | .not (.c a) => .c (!a)
  | .not (.not a) => a
  | .and (.c true) a => a
  | .and (.c false) _ => .c false
  | .and a (.c true) => a
  | .or (.c false) a => a
  | .or (.c true) _ => .c true
  | .or a (.c false) => a
  | .iff (.c true) a => a
  | .iff a (.c true) => a
  | .ne0 (.c a) => .c (decide (a ≠ 0))
  | e => e

/-- Does G say g? -/
def BE.says (G g : BE) : Bool :=
  decide (g = .c true) || decide (G = g) || (match G with
    | .and x y => x.says g || y.says g
    | _ => false)

/-- n under the guard G. -/
def BE.under (G n : BE) : BE := if G = .c true then n else .or (.not G) n

def inR (k : IntKind) (e : IE) : BE :=
  match e with
  | .c n => .c (decide (k.min ≤ n) && decide (n ≤ k.max))
  | e => .and (.le (.c k.min) e) (.le e (.c k.max))

/-! ### Values -/
inductive CK where
  | i (k : IntKind)
  | b
  deriving DecidableEq, Repr, Inhabited

inductive Leaf where
  | i (k : IntKind) (e : IE)
  | b (e : BE)
  /-- the address of a cell of an own block -/
  | p (blk off : Nat)
  /-- the address of cell j of element i of a row; each element has sz cells -/
  | ep (row sz : Nat) (i : IE) (j : Nat)
  /-- the address in an own block: off, and x times sz more, x below n -/
  | pi (blk off sz n : Nat) (x : IE)
  | s (row : Nat)
  | nils
  | f (f : FuncId)
  /-- a closure: what it has captured are addresses: of own blocks (false), of what rows stand for (true) -/
  | fn (g : FuncId) (caps : List (Bool × Nat))
  deriving DecidableEq, Repr, Inhabited

inductive V1 where
  | one (l : Leaf)
  | agg (ls : List Leaf)
  deriving DecidableEq, Repr, Inhabited

inductive SV where
  | v (x : V1)
  | tup (xs : List V1)
  deriving DecidableEq, Repr, Inhabited

/-- Where block numbers and slices lie. -/
structure Ph where
  r : Nat → Nat
  v : Nat → Option Addr × Nat × Nat

def Ph.setR (ph : Ph) (k n : Nat) : Ph := { ph with r := fun j => if j = k then n else ph.r j }
def Ph.setV (ph : Ph) (k : Nat) (x : Option Addr × Nat × Nat) : Ph := { ph with v := fun j => if j = k then x else ph.v j }
def Ph.val (ph : Ph) (k : Nat) : Value := .slice (ph.v k).1 (ph.v k).2.1 (ph.v k).2.2

def capDen (ph : Ph) (c : Bool × Nat) : Value := if c.1 then .pointer (ph.v c.2).1 else .pointer (some ⟨ph.r c.2, 0, none⟩)
def Leaf.den (env : Env) (ph : Ph) : Leaf → Value
  | .i k e => .int k (e.den env)
  | .b e => .bool (e.den env)
  | .p id off => .pointer (some ⟨ph.r id, off, none⟩)
  | .ep row sz x j => match (ph.v row).1 with
    | some a => .pointer (some (a.add ((x.den env).toNat * sz + j)))
    | none => .pointer none
  | .pi id off sz _ x => .pointer (some ⟨ph.r id, off + (x.den env).toNat * sz, none⟩)
  | .s row => ph.val row
  | .nils => .slice none 0 0
  | .f g => .func (.func g) #[] #[]
  | .fn g caps => .func (.func g) #[] (caps.map (capDen ph)).toArray

def V1.den (env : Env) (ph : Ph) : V1 → Value
  | .one l => l.den env ph
  | .agg ls => .agg (ls.map (Leaf.den env ph)).toArray

def SV.den (env : Env) (ph : Ph) : SV → Value
  | .v x => x.den env ph
  | .tup xs => .tuple (xs.map (V1.den env ph)).toArray

structure Slot where
  g : BE
  sv : SV
  deriving DecidableEq, Repr, Inhabited

def Slot.den (env : Env) (ph : Ph) (s : Slot) : Value := if s.g.den env then s.sv.den env ph else undef

structure Blk where
  id : Nat
  ty : TypeId
  cells : List Leaf
  deriving DecidableEq, Repr, Inhabited

structure Row where
  id : Nat
  e : TypeId
  ks : List CK
  lv : Nat
  own : Bool
  g : BE
  deriving DecidableEq, Repr, Inhabited

structure St where
  tmps : List (Option Slot)
  blks : List Blk
  rows : List Row
  /-- all names below have been given -/
  next : Nat
  /-- and these, from .. to below .. -/
  dom : List (Nat × Nat)
  deriving DecidableEq, Repr, Inhabited

def St.has (st : St) (k : Nat) : Bool := decide (k < st.next) || st.dom.any fun d => decide (d.1 ≤ k) && decide (k < d.2)
def St.free (st : St) (a n : Nat) : Bool := decide (st.next ≤ a) && st.dom.all fun d => decide (a + n ≤ d.1) || decide (d.2 ≤ a)
def insDom (d : Nat × Nat) : List (Nat × Nat) → List (Nat × Nat)
  | [] => [d]
  | x :: xs => if x.1 < d.1 then d :: x :: xs else x :: insDom d xs
def St.claim (st : St) (a n : Nat) : St := { st with dom := insDom (a, a + n) st.dom }

/-! ### Every name in an expression meets p -/
def IE.all (p : Nat → Bool) : IE → Bool
  | .v k | .len k => p k
  | .c _ => true
  | .add a b | .sub a b | .mul a b | .tdiv a b | .tmod a b | .shl a b | .shr a b | .max a b | .min a b | .bits _ _ a b => a.all p && b.all p
  | .ediv a _ | .emod a _ | .wrap _ a => a.all p
  | .get k i _ => p k && i.all p
  | .ifeq i _ a b => i.all p && (a.all p && b.all p)
def BE.all (p : Nat → Bool) : BE → Bool
  | .v k => p k
  | .c _ => true
  | .lt a b | .le a b | .eq a b => a.all p && b.all p
  | .not a => a.all p
  | .and a b | .or a b | .iff a b => a.all p && b.all p
  | .ne0 a => a.all p
def Leaf.all (p : Nat → Bool) : Leaf → Bool
  | .i _ e => e.all p
  | .b e => e.all p
  | .p id _ => p id
  | .ep row _ x _ => p row && x.all p
  | .pi id _ _ _ x => p id && x.all p
  | .s row => p row
  | .nils | .f _ => true
  | .fn _ caps => caps.all fun c => p c.2
def leavesAll (p : Nat → Bool) : List Leaf → Bool
  | [] => true
  | l :: ls => l.all p && leavesAll p ls
def V1.all (p : Nat → Bool) : V1 → Bool
  | .one l => l.all p
  | .agg ls => leavesAll p ls
def v1sAll (p : Nat → Bool) : List V1 → Bool
  | [] => true
  | x :: xs => x.all p && v1sAll p xs
def SV.all (p : Nat → Bool) : SV → Bool
  | .v x => x.all p
  | .tup xs => v1sAll p xs
def Slot.all (p : Nat → Bool) (s : Slot) : Bool := s.g.all p && s.sv.all p
def Blk.all (p : Nat → Bool) (b : Blk) : Bool := p b.id && leavesAll p b.cells
def Row.all (p : Nat → Bool) (r : Row) : Bool := p r.id && (p r.lv && r.g.all p)

/-! ### What a function takes and gives -/
inductive CT where
  | c (k : CK)
  | s (e : TypeId) (ks : List CK)
  deriving DecidableEq, Repr, Inhabited
inductive VT where
  | one (c : CT)
  | agg (cs : List CT)
  /-- a pointer to an array of numbers (element type, kind), which is only read -/
  | ptr (e : TypeId) (k : IntKind)
  /-- a closure of a function, which has captured such pointers -/
  | fn (g : FuncId) (cs : List (TypeId × IntKind))
  deriving DecidableEq, Repr, Inhabited
structure Sig where
  args : List VT
  res : List VT
  deriving DecidableEq, Repr, Inhabited

inductive DE where
  | i (e : IE)
  | b (e : BE)
  | l (k : Nat)
  | nil
  /-- the cells of an own block, one a row -/
  | rows (es : List IE)
  deriving DecidableEq, Repr, Inhabited
def DE.den (env : Env) : DE → DV
  | .i e => .i (e.den env)
  | .b e => .b (e.den env)
  | .l k => .l (env k).list
  | .nil => .l []
  | .rows es => .l (es.map fun e => [e.den env])

def VT.cts : VT → List CT
  | .one c => [c]
  | .agg cs => cs
  | .ptr e k => [.s e [.i k]]
  | .fn _ cs => cs.map fun c => .s c.1 [.i c.2]
def cts (vs : List VT) : List CT := vs.flatMap VT.cts

/-! ### Lists made anew -/
inductive LOp where
  | lit (rows : List (List IE))
  | app (a b : Nat)
  | set (a : Nat) (i : IE) (j : Nat) (x : IE)
  | setr (a : Nat) (i : IE) (xs : List IE)
  | take (a : Nat) (n : IE)
  | rep (n : IE) (row : List Int)
  | cp (a : Nat)
  deriving DecidableEq, Repr, Inhabited

def setPad (r : List Int) (j : Nat) (x : Int) : List Int := if j < r.length then r.set j x else r ++ (List.replicate (j - r.length) 0 ++ [x])
def setAt (xs : List (List Int)) (i : Int) (j : Nat) (x : Int) : List (List Int) := xs.modify i.toNat (fun r => setPad r j x)

def LOp.den (env : Env) : LOp → List (List Int)
  | .lit rows => rows.map fun r => r.map (IE.den env)
  | .app a b => (env a).list ++ (env b).list
  | .set a i j x => setAt (env a).list (i.den env) j (x.den env)
  | .setr a i xs => (env a).list.modify (i.den env).toNat (fun _ => xs.map (IE.den env))
  | .take a n => (env a).list.take (n.den env).toNat
  | .rep n row => List.replicate (n.den env).toNat row
  | .cp a => (env a).list

inductive Ev where
  | need (p : BE)
  | call (f : FuncId) (g : BE) (args : List DE) (res : List VT) (base : Nat)
  | letl (id : Nat) (op : LOp)
  deriving DecidableEq, Repr, Inhabited

inductive Tree where
  | ret (vals : List DE)
  | stuck (why : String)
  | ev (e : Ev) (t : Tree)
  | ite (c : BE) (t e : Tree)
  | loop (id : Nat) (entry : List DE) (ks : List CT) (base : Nat) (body : Tree)
  | again (id : Nat) (vals : List DE)
  deriving DecidableEq, Repr, Inhabited

/-! ### The configuration -/
structure Hint where
  /-- the cells of own blocks that a round changes -/
  cells : List (Nat × Nat)
  /-- the slots that hold a slice of the call's own which a round makes anew or changes: its element type and the element's cells -/
  rows : List (Nat × TypeId × List CK)
  deriving Inhabited
structure Cfg where
  sig : FuncId → Option Sig
  wrapm : Bool
  loops : List (Nat × Hint)
  /-- the regions ahead of which a name's values are told apart: the region, the name, how many values -/
  splits : List (Nat × Nat × Nat)
  deriving Inhabited

/-! ### Types -/
def ckOf (P : Program) (t : TypeId) : Option CK :=
  match P.underlying t with
  | some (.int k) => some (.i k)
  | some .bool => some .b
  | _ => none

/-- The cells of a struct's fields, from an offset on. -/
def flatFs (P : Program) (g : TypeId → Option (List CK)) : Nat → List Field → Option (List CK)
  | _, [] => some []
  | off, f :: fs => if f.offset = off then (match g f.type with
    | some m => if P.cellsOf f.type = m.length ∧ 0 < m.length then (match flatFs P g (off + m.length) fs with
      | some r => some (m ++ r)
      | none => none) else none
    | none => none) else none

/-- The cells of a type, all of them numbers and bools. -/
def flat (P : Program) : Nat → TypeId → Option (List CK)
  | 0, _ => none
  | n + 1, t =>
    match P.underlying t with
    | some (.int k) => some [.i k]
    | some .bool => some [.b]
    | some (.struct fs) => flatFs P (flat P n) 0 fs.toList
    | some (.array len e) => match flat P n e with
      | some m => if P.cellsOf e = m.length ∧ 0 < m.length then some (List.replicate len m).flatten else none
      | none => none
    | _ => none

def isAggB (P : Program) (t : TypeId) : Bool :=
  match P.underlying t with
  | some (.struct _) | some (.array _ _) => true
  | _ => false

/-! ### Operands -/
def ofConst : Value → Option V1
  | .int k n => some (.one (.i k (.c n)))
  | .bool x => some (.one (.b (.c x)))
  | .slice none 0 0 => some (.one .nils)
  | _ => none

def opnd (st : St) (G : BE) : Operand → Option SV
  | .tmp t => match st.tmps[t]? with
    | some (some s) => if G.says s.g then some s.sv else none
    | _ => none
  | .const v => (ofConst v).map SV.v
  | .func f => some (.v (.one (.f f)))
  | .global _ => none

def opnd1 (st : St) (G : BE) (x : Operand) : Option V1 :=
  match opnd st G x with
  | some (.v x) => some x
  | _ => none
def opndL (st : St) (G : BE) (x : Operand) : Option Leaf :=
  match opnd st G x with
  | some (.v (.one l)) => some l
  | _ => none

/-! ### Quiet operations: they leave the world as it is -/
def arith0 (wr : Bool) (k : IntKind) (e : IE) : List BE × Leaf :=
  match e with
  | .c n => ([], .i k (.c (k.wrap n)))
  | e => if wr then ([], .i k (.wrap k e)) else ([inR k e], .i k e)
def arith (wr : Bool) (k : IntKind) (e : IE) : List BE × Leaf := arith0 wr k e.mk

/-- m with 2 ^ m = n + 1, n a mask of at most 62 bits. -/
def maskOf : Nat → Int → Option Nat
  | 0, _ => none
  | m + 1, n => if n + 1 = ((2 ^ m : Nat) : Int) then some m else maskOf m n

def binQ (wr : Bool) (op : BinOp) (x y : Leaf) : Option (List BE × Leaf) :=
  match op, x, y with
  | .shl, .i k a, .i _ (.c n) => if 0 ≤ n ∧ n ≤ 62 ∧ n ≤ k.bits then some (arith wr k (.mul a (.c ((2 ^ n.toNat : Nat) : Int)))) else none
  | .shl, .i k a, .i _ b => let r := arith wr k (.shl a b); some ((BE.le (.c 0) b).mk :: (BE.le b (.c (k.bits : Int))).mk :: r.1, r.2)
  | .shr, .i k a, .i _ (.c n) => if 0 ≤ n ∧ n ≤ 62 ∧ n ≤ k.bits then some ([], .i k (IE.ediv a (2 ^ n.toNat)).mk) else none
  | .shr, .i k a, .i _ b => some ([(BE.le (.c 0) b).mk, (BE.le b (.c (k.bits : Int))).mk], .i k (IE.shr a b).mk)
  | .add, .i k a, .i k' b => if k = k' then some (arith wr k (.add a b)) else none
  | .sub, .i k a, .i k' b => if k = k' then some (arith wr k (.sub a b)) else none
  | .mul, .i k a, .i k' b => if k = k' then some (arith wr k (.mul a b)) else none
  | .quo, .i k a, .i k' b => if k = k' then let r := arith wr k (.tdiv a b); some ((BE.ne0 b).mk :: r.1, r.2) else none
  | .rem, .i k a, .i k' b => if k = k' then some ([(BE.ne0 b).mk], .i k (IE.tmod a b).mk) else none
  | .and, .i k a, .i k' (.c n) => if k = k' then (match k, maskOf 63 n with
      | .i64, some m => some ([], .i k (IE.emod a (2 ^ m)).mk)
      | .u64, some m => some ([], .i k (IE.emod a (2 ^ m)).mk)
      | _, _ => some ([], .i k (IE.bits .and k a (.c n)).mk)) else none
  | .and, .i k a, .i k' b => if k = k' then some ([], .i k (IE.bits .and k a b).mk) else none
  | .or, .i k a, .i k' b => if k = k' then some ([], .i k (IE.bits .or k a b).mk) else none
  | .xor, .i k a, .i k' b => if k = k' then some ([], .i k (IE.bits .xor k a b).mk) else none
  | .lss, .i k a, .i k' b => if k = k' then some ([], .b (BE.lt a b).mk) else none
  | .leq, .i k a, .i k' b => if k = k' then some ([], .b (BE.le a b).mk) else none
  | .gtr, .i k a, .i k' b => if k = k' then some ([], .b (BE.lt b a).mk) else none
  | .geq, .i k a, .i k' b => if k = k' then some ([], .b (BE.le b a).mk) else none
  | .eql, .i k a, .i k' b => if k = k' then some ([], .b (BE.eq a b).mk) else none
  | .neq, .i k a, .i k' b => if k = k' then some ([], .b (BE.not (BE.eq a b).mk).mk) else none
  | _, _, _ => none

def leafEq : Leaf → Leaf → Option BE
  | .i k a, .i k' b => if k = k' then some (BE.eq a b).mk else none
  | .b a, .b b => some (BE.iff a b).mk
  | _, _ => none

def cellsEq : List Leaf → List Leaf → Option BE
  | [], [] => some (.c true)
  | x :: xs, y :: ys => match leafEq x y, cellsEq xs ys with
    | some p, some q => some (BE.and p q).mk
    | _, _ => none
  | _, _ => none

def fits : CK → Leaf → Bool
  | .i k, .i k' _ => decide (k = k')
  | .b, .b _ => true
  | _, _ => false

def fitsAll : List CK → List Leaf → Bool
  | [], [] => true
  | k :: ks, l :: ls => fits k l && fitsAll ks ls
  | _, _ => false

/-- Equality of two values of type t. -/
def eqQ (P : Program) (t : TypeId) (x y : V1) : Option BE :=
  match x, y with
  | .one (.b a), .one (.b b) => match P.underlying t with
    | some .bool => some (BE.iff a b).mk
    | _ => none
  | .agg xs, .agg ys => match flat P 16 t with
    | some ks => if fitsAll ks xs && fitsAll ks ys && isAggB P t && !P.eqGuardType P.depth t && !eqHeld P 16 t then cellsEq xs ys else none
    | none => none
  | _, _ => none
where
  /-- Does a struct of the type stand in for a package's? Is a field blank? -/
  eqHeld (P : Program) : Nat → TypeId → Bool
    | 0, _ => true
    | n + 1, t => match P.underlying t with
      | some (.struct fs) => P.stoodInHeld t || fs.toList.any fun f => f.name == "_" || eqHeld P n f.type
      | some (.array _ e) => eqHeld P n e
      | _ => false

def getBlk (st : St) (id : Nat) : Option Blk := st.blks.find? (fun b => b.id == id)
def getRow (st : St) (id : Nat) : Option Row := st.rows.find? (fun r => r.id == id)

def rowLeaf (lv : Nat) (i : IE) (j : Nat) : CK → Leaf
  | .i k => .i k (.get lv i j)
  | .b => .b (.ne0 (.get lv i j))
def rowLeaves (lv : Nat) (i : IE) : Nat → List CK → List Leaf
  | _, [] => []
  | j, k :: ks => rowLeaf lv i j k :: rowLeaves lv i (j + 1) ks

def slice1 (ls : List Leaf) (off n : Nat) : Option (List Leaf) := if off + n ≤ ls.length then some ((ls.drop off).take n) else none

def partQ (P : Program) (t : TypeId) (cs : List Leaf) (off : Nat) : Option V1 :=
  if (P.underlying t).isSome && decide (0 < P.cellsOf t) then
    (if isAggB P t then (slice1 cs off (P.cellsOf t)).map V1.agg else (cs[off]?).map V1.one)
  else none

/-- One of n leaves, so far apart, by a number. -/
def selLeaf (x : IE) : Nat → List Leaf → Option Leaf
  | _, [] => none
  | _, [l] => some l
  | j, l :: ls => match l, selLeaf x (j + 1) ls with
    | .i k a, some (.i k' b) => if k = k' then some (.i k (.ifeq x j a b)) else none
    | _, _ => none
def everyNth (cells : List Leaf) (off sz : Nat) : Nat → Option (List Leaf)
  | 0 => some []
  | n + 1 => match cells[off]?, everyNth cells (off + sz) sz n with
    | some l, some ls => some (l :: ls)
    | _, _ => none
def selAt (cells : List Leaf) (off sz n : Nat) (x : IE) : Option Leaf :=
  match everyNth cells off sz n with
  | some ls => selLeaf x 0 ls
  | none => none
def selRange (cells : List Leaf) (sz n : Nat) (x : IE) : Nat → Nat → Option (List Leaf)
  | _, 0 => some []
  | off, m + 1 => match selAt cells off sz n x, selRange cells sz n x (off + 1) m with
    | some l, some ls => some (l :: ls)
    | _, _ => none

/-- A struct or an array out of a row of single cells. -/
def wideQ (P : Program) (t : TypeId) (r : Row) (i : IE) (j : Nat) : Option (List BE × V1) :=
  match r.ks, i, j with
  | [k], .c (.ofNat n), 0 => if (P.underlying t).isSome && decide (0 < P.cellsOf t) && isAggB P t then
      some ([(BE.le (.c ((n + P.cellsOf t : Nat) : Int)) (.len r.lv)).mk], .agg ((List.range (P.cellsOf t)).map fun (q : Nat) => rowLeaf r.lv (.c ((n + q : Nat) : Int)) 0 k)) else none
  | _, _, _ => none

def loadQ (P : Program) (st : St) (G : BE) (t : TypeId) : Leaf → Option (List BE × V1)
  | .p id off => match getBlk st id with
    | some b => (partQ P t b.cells off).map fun v => ([], v)
    | none => none
  | .pi id off sz n x => match getBlk st id with
    | some b => if !((P.underlying t).isSome && decide (0 < P.cellsOf t)) then none else if isAggB P t then (selRange b.cells sz n x off (P.cellsOf t)).map fun ls => ([(BE.le (.c 0) x).mk, (BE.lt x (.c (n : Int))).mk], V1.agg ls)
        else (selAt b.cells off sz n x).map fun l => ([(BE.le (.c 0) x).mk, (BE.lt x (.c (n : Int))).mk], V1.one l)
    | none => none
  | .ep row sz i j => match getRow st row with
    | some r => if G.says r.g && decide (r.ks.length = sz) then
        (match partQ P t (rowLeaves r.lv i 0 r.ks) j with
        | some v => some ([(BE.le (.c 0) i).mk, (BE.lt i (.len r.lv)).mk], v)
        | none => wideQ P t r i j) else none
    | none => none
  | _ => none

/-- So many cells further on; where the elements are single cells: so many elements. -/
def shiftEp (row sz : Nat) (i : IE) (j o : Nat) : Leaf :=
  match sz, i, j with
  | 1, .c (.ofNat n), 0 => .ep row 1 (.c ((n + o : Nat) : Int)) 0
  | _, _, _ => .ep row sz i (j + o)
def fieldOff (P : Program) (s : TypeId) (f : Nat) : Option (Nat × TypeId) :=
  match P.underlying s with
  | some (.struct fs) => match fs[f]? with
    | some fd => if P.cellsOf fd.type = 0 then none else some (fd.offset, fd.type)
    | none => none
  | _ => none

def indexQ (P : Program) (st : St) (G : BE) (t : TypeId) (x : Leaf) (k : IntKind) (i : IE) : Option (List BE × Leaf) :=
  match P.underlying t, x with
  | some (.array len e), .p id off => match i with
    | .c n => if 0 ≤ n ∧ n < (len : Int) ∧ 1 < len ∧ (P.info? e).isSome = true then some ([], .p id (off + n.toNat * P.cellsOf e)) else none
    | x => if 1 < len ∧ (P.info? e).isSome = true then some ([(BE.le (.c 0) x).mk, (BE.lt x (.c (len : Int))).mk], .pi id off (P.cellsOf e) len x) else none
  | some (.array len e), .ep row sz r j => match getRow st row with
    | some rr => if r = .c 0 ∧ j = 0 ∧ rr.ks.length = sz ∧ P.cellsOf e = sz ∧ (P.info? e).isSome = true ∧ 1 < len ∧ G.says rr.g = true then
        some ([(BE.le (.c 0) i).mk, (BE.lt i (.c (len : Int))).mk, (BE.lt i (.len rr.lv)).mk], .ep row sz i 0) else (match i with
    | .c n => match getRow st row with
      | some rr => if 0 ≤ n ∧ n < (len : Int) ∧ 1 < len ∧ (P.info? e).isSome = true ∧ G.says rr.g = true then some ([(BE.le (.c 0) r).mk, (BE.lt r (.len rr.lv)).mk], .ep row sz r (j + n.toNat * P.cellsOf e)) else none
      | none => none
    | _ => none)
    | none => none
  | some (.slice e), .s row => match getRow st row with
    | some r => if G.says r.g && decide (P.cellsOf e = r.ks.length) then some ([(BE.le (.c 0) i).mk, (BE.lt i (.len r.lv)).mk], .ep row r.ks.length i 0) else none
    | none => none
  | _, _ => none

/-- Put the leaves of a part into the cells. -/
def putCells (cells : List Leaf) (off : Nat) : List Leaf → List Leaf
  | [] => cells
  | l :: ls => putCells (cells.set off l) (off + 1) ls

def V1.leaves : V1 → List Leaf
  | .one l => [l]
  | .agg ls => ls

def fillQ (place : Nat → Option (Nat × Nat)) (cells : List Leaf) : List (Nat × V1) → Option (List Leaf)
  | [] => some cells
  | (i, v) :: rest => match place i with
    | none => none
    | some (off, size) => if v.leaves.length ≠ size ∨ off + v.leaves.length > cells.length then none
      else fillQ place (putCells cells off v.leaves) rest

def zeroLeaf : Value → Option Leaf
  | .int k n => some (.i k (.c n))
  | .bool x => some (.b (.c x))
  | .slice none 0 0 => some .nils
  | _ => none

def zeroQ (P : Program) (t : TypeId) : Option V1 :=
  match (P.info? t).bind (·.zero) with
  | some (.agg cs) => (cs.toList.mapM zeroLeaf).map V1.agg
  | some v => (zeroLeaf v).map V1.one
  | none => none

def buildPlace (P : Program) (t : TypeId) : Option (Nat → Option (Nat × Nat)) :=
  match P.underlying t with
  | some (.struct fs) => if fs.toList.all (fun f => (P.info? f.type).isSome) then some fun i => (fs[i]?).map fun f => (f.offset, P.cellsOf f.type) else none
  | some (.array _ e) => if (P.info? e).isSome then some fun i => some (i * P.cellsOf e, P.cellsOf e) else none
  | _ => none

def opndParts (st : St) (G : BE) : List (Nat × Operand) → Option (List (Nat × V1))
  | [] => some []
  | (i, x) :: rest => match opnd1 st G x, opndParts st G rest with
    | some v, some l => some ((i, v) :: l)
    | _, _ => none

def opndLs (st : St) (G : BE) : List Operand → Option (List V1)
  | [] => some []
  | x :: rest => match opnd1 st G x, opndLs st G rest with
    | some v, some l => some (v :: l)
    | _, _ => none

/-- What a closure captures. -/
def opndCaps (st : St) (G : BE) : List Operand → Option (List (Bool × Nat))
  | [] => some []
  | x :: rest => match opndL st G x, opndCaps st G rest with
    | some (.p id 0), some l => some ((false, id) :: l)
    | some (.ep row 1 (.c 0) 0), some l => some ((true, row) :: l)
    | _, _ => none
/-- A quiet operation's conditions and value. -/
def qop (P : Program) (wr : Bool) (st : St) (G : BE) (op : Op) : Option (List BE × SV) :=
  match op with
  | .move x | .assign x => (opnd st G x).map fun v => ([], v)
  | .pick c a b => match opndL st G c with
    | some (.b p) => match opndL st (BE.and G p).mk a, opndL st (BE.and G (BE.not p).mk).mk b with
      | some (.b x), some (.b y) => some ([], .v (.one (.b (match y, x with
          | .c false, x => (BE.and p x).mk
          | y, .c true => (BE.or p y).mk
          | y, x => (BE.or (BE.and p x).mk (BE.and (BE.not p).mk y).mk).mk))))
      | _, _ => none
    | _ => none
  | .binOp .eql t x y _ => match opnd1 st G x, opnd1 st G y with
    | some (.one (.i k a)), some (.one (.i k' b)) => (binQ wr .eql (.i k a) (.i k' b)).map fun r => (r.1, .v (.one r.2))
    | some u, some v => (eqQ P t u v).map fun p => ([], .v (.one (.b p)))
    | _, _ => none
  | .binOp .neq t x y _ => match opnd1 st G x, opnd1 st G y with
    | some (.one (.i k a)), some (.one (.i k' b)) => (binQ wr .neq (.i k a) (.i k' b)).map fun r => (r.1, .v (.one r.2))
    | some u, some v => (eqQ P t u v).map fun p => ([], .v (.one (.b (BE.not p).mk)))
    | _, _ => none
  | .binOp op _ x y _ => match opndL st G x, opndL st G y with
    | some a, some b => (binQ wr op a b).map fun r => (r.1, .v (.one r.2))
    | _, _ => none
  | .unOp .not _ x => match opndL st G x with
    | some (.b p) => some ([], .v (.one (.b (BE.not p).mk)))
    | _ => none
  | .unOp .neg _ x => match opndL st G x with
    | some (.i k a) => let r := arith wr k (.sub (.c 0) a); some (r.1, .v (.one r.2))
    | _ => none
  | .convert src dst x => match opndL st G x, P.underlying src, P.underlying dst with
    | some (.i k a), some _, some (.int k') =>
      if k = k' || (decide (k' = .i64) && decide (k ≠ .u64)) then (let r := arith wr k' a; some (r.1, .v (.one r.2)))
      else some ([], .v (.one (.i k' (IE.wrap k' a).mk)))
    | _, _, _ => none
  | .load t x => match opndL st G x with
    | some l => (loadQ P st G t l).map fun r => (r.1, .v r.2)
    | none => none
  | .fieldAddr s x f => match opndL st G x, fieldOff P s f with
    | some (.p id off), some (o, _) => some ([], .v (.one (.p id (off + o))))
    | some (.pi id off sz n y), some (o, _) => some ([], .v (.one (.pi id (off + o) sz n y)))
    | some (.ep row sz i j), some (o, _) => match getRow st row with
      | some r => if G.says r.g then some ([(BE.le (.c 0) i).mk, (BE.lt i (.len r.lv)).mk], .v (.one (shiftEp row sz i j o))) else none
      | none => none
    | _, _ => none
  | .field s x f => match opnd1 st G x, fieldOff P s f with
    | some (.agg cs), some (o, t) => (partQ P t cs o).map fun v => ([], .v v)
    | _, _ => none
  | .indexAddr t x i => match opndL st G x, opndL st G i with
    | some l, some (.i k e) => (indexQ P st G t l k e).map fun r => (r.1, .v (.one r.2))
    | _, _ => none
  | .index t x i => match opnd1 st G x, opndL st G i, P.underlying t with
    | some (.agg cs), some (.i _ (.c n)), some (.array len e) =>
      if 0 ≤ n ∧ n < (len : Int) then (partQ P e cs (n.toNat * P.cellsOf e)).map fun v => ([], .v v) else none
    | _, _, _ => none
  | .nilCheck x => match opndL st G x with
    | some (.p id off) => some ([], .v (.one (.p id off)))
    | some (.ep row sz i j) => match getRow st row with
      | some r => if G.says r.g then some ([(BE.lt (.c 0) (.len r.lv)).mk], .v (.one (.ep row sz i j))) else none
      | none => none
    | _ => none
  | .makeFunc (.func g) first captured => if first.toList = [] then (opndCaps st G captured.toList).map fun caps => ([], .v (.one (.fn g caps))) else none
  | .extract x n => match opnd st G x with
    | some (.tup xs) => (xs[n]?).map fun v => ([], .v v)
    | _ => none
  | .build t parts => match zeroQ P t, buildPlace P t, opndParts st G parts.toList with
    | some (.agg z), some place, some ps => (fillQ place z ps).map fun cs => ([], .v (.agg cs))
    | _, _, _ => none
  | .call { callee := .builtin .len, args, argTypes } => match args.toList, argTypes[0]?.bind P.underlying with
    | [x], some (.slice _) => match opndL st G x with
      | some (.s row) => match getRow st row with
        | some r => if G.says r.g then some ([], .v (.one (.i .i64 (.len r.lv)))) else none
        | none => none
      | some .nils => some ([], .v (.one (.i .i64 (.c 0))))
      | _ => none
    | _, _ => none
  | .call { callee := .builtin .max, args, .. } => match args.toList with
    | [x, y] => match opndL st G x, opndL st G y with
      | some (.i k a), some (.i k' b) => if k = k' then some ([], .v (.one (.i k (IE.max a b).mk))) else none
      | _, _ => none
    | [x, y, z] => match opndL st G x, opndL st G y, opndL st G z with
      | some (.i k a), some (.i k' b), some (.i k'' c) => if k = k' ∧ k = k'' then some ([], .v (.one (.i k (IE.max (IE.max a b).mk c).mk))) else none
      | _, _, _ => none
    | _ => none
  | .call { callee := .builtin .min, args, .. } => match args.toList with
    | [x, y] => match opndL st G x, opndL st G y with
      | some (.i k a), some (.i k' b) => if k = k' then some ([], .v (.one (.i k (IE.min a b).mk))) else none
      | _, _ => none
    | [x, y, z] => match opndL st G x, opndL st G y, opndL st G z with
      | some (.i k a), some (.i k' b), some (.i k'' c) => if k = k' ∧ k = k'' then some ([], .v (.one (.i k (IE.min (IE.min a b).mk c).mk))) else none
      | _, _, _ => none
    | _ => none
  | _ => none

/-! ### Loud operations -/
def St.put (st : St) (dst : Option Tmp) (s : Slot) : St :=
  match dst with
  | some d => { st with tmps := st.tmps.set d (some s) }
  | none => st

/-- A slot is written: its names must have been given. -/
def St.putS (st : St) (dst : Option Tmp) (s : Slot) : Option St := if s.all st.has then some (st.put dst s) else none

def setBlk (st : St) (b : Blk) : St := { st with blks := st.blks.map fun x => if x.id = b.id then b else x }

/-- A value's data, if it is of the type told. -/
def leafDE (st : St) (G : BE) : CT → Leaf → Option DE
  | .c (.i k), .i k' e => if k = k' then some (.i e) else none
  | .c .b, .b e => some (.b e)
  | .s e ks, .s row => match getRow st row with
    | some r => if G.says r.g && decide (r.e = e) && decide (r.ks = ks) then some (.l r.lv) else none
    | none => none
  | .s _ ks, .nils => if 0 < ks.length then some .nil else none
  | _, _ => none
def leavesDE (st : St) (G : BE) : List CT → List Leaf → Option (List DE)
  | [], [] => some []
  | c :: cs, l :: ls => match leafDE st G c l, leavesDE st G cs ls with
    | some d, some ds => some (d :: ds)
    | _, _ => none
  | _, _ => none
/-- Numbers of one kind. -/
def cellIEs (k : IntKind) : List Leaf → Option (List IE)
  | [] => some []
  | .i k' e :: ls => if k = k' then (match cellIEs k ls with
    | some es => some (e :: es)
    | none => none) else none
  | _ :: _ => none
/-- A pointer to numbers that is handed on. -/
def ptrDE (st : St) (G : BE) (e : TypeId) (k : IntKind) : Leaf → Option DE
  | .p id 0 => match getBlk st id with
    | some b => if b.cells.length ≤ 65536 then (cellIEs k b.cells).map DE.rows else none
    | none => none
  | .ep row 1 (.c 0) 0 => match getRow st row with
    | some r => if G.says r.g && decide (r.e = e) && decide (r.ks = [.i k]) then some (.l r.lv) else none
    | none => none
  | _ => none
/-- The leaf that a captured address is. -/
def capLeaf (c : Bool × Nat) : Leaf := if c.1 then .ep c.2 1 (.c 0) 0 else .p c.2 0
def capsDE (st : St) (G : BE) : List (TypeId × IntKind) → List (Bool × Nat) → Option (List DE)
  | [], [] => some []
  | (e, k) :: cs, c :: caps => match ptrDE st G e k (capLeaf c), capsDE st G cs caps with
    | some d, some ds => some (d :: ds)
    | _, _ => none
  | _, _ => none
def v1DE (st : St) (G : BE) : VT → V1 → Option (List DE)
  | .one c, .one l => (leafDE st G c l).map fun d => [d]
  | .agg cs, .agg ls => leavesDE st G cs ls
  | .ptr e k, .one l => (ptrDE st G e k l).map fun d => [d]
  | .fn g cs, .one (.fn g' caps) => if g = g' then capsDE st G cs caps else none
  | _, _ => none
def v1sDE (st : St) (G : BE) : List VT → List V1 → Option (List DE)
  | [], [] => some []
  | t :: ts, v :: vs => match v1DE st G t v, v1sDE st G ts vs with
    | some d, some ds => some (d ++ ds)
    | _, _ => none
  | _, _ => none

/-- A new block, in its place by its name. -/
def insBlk (b : Blk) : List Blk → List Blk
  | [] => [b]
  | x :: xs => if x.id < b.id then b :: x :: xs else x :: insBlk b xs
def insRow (r : Row) : List Row → List Row
  | [] => [r]
  | x :: xs => if x.id < r.id then r :: x :: xs else x :: insRow r xs
def insRows (rs l : List Row) : List Row := rs.foldr insRow l

/-- What a call gives: leaves with new names, and the rows that come with them. -/
def freshLeaf (G : BE) (id : Nat) : CT → Leaf × List Row
  | .c (.i k) => (.i k (.v id), [])
  | .c .b => (.b (.v id), [])
  | .s e ks => (.s id, [{ id, e, ks, lv := id, own := true, g := G }])
def freshLeaves (G : BE) : Nat → List CT → List Leaf × List Row
  | _, [] => ([], [])
  | id, c :: cs => let (l, r) := freshLeaf G id c; let (ls, rs) := freshLeaves G (id + 1) cs; (l :: ls, r ++ rs)
def freshCaps (G : BE) : Nat → List (TypeId × IntKind) → List (Bool × Nat) × List Row
  | _, [] => ([], [])
  | id, (e, k) :: cs => ((true, id) :: (freshCaps G (id + 1) cs).1, { id, e, ks := [.i k], lv := id, own := true, g := G } :: (freshCaps G (id + 1) cs).2)
def freshV1 (G : BE) (id : Nat) : VT → V1 × List Row
  | .one c => let (l, r) := freshLeaf G id c; (.one l, r)
  | .agg cs => let (ls, r) := freshLeaves G id cs; (.agg ls, r)
  | .ptr e k => (.one (.ep id 1 (.c 0) 0), [{ id, e, ks := [.i k], lv := id, own := true, g := G }])
  | .fn g cs => (.one (.fn g (freshCaps G id cs).1), (freshCaps G id cs).2)
def freshV1s (G : BE) : Nat → List VT → List V1 × List Row
  | _, [] => ([], [])
  | id, t :: ts => let (v, r) := freshV1 G id t; let (vs, rs) := freshV1s G (id + t.cts.length) ts; (v :: vs, r ++ rs)

def packV : List V1 → SV
  | [x] => .v x
  | xs => .tup xs

/-- Put a number into one of n cells, so far apart. -/
def putSel (x : IE) (l : Leaf) (sz : Nat) (cells : List Leaf) (off : Nat) : Nat → Nat → Option (List Leaf)
  | _, 0 => some cells
  | j, n + 1 => match cells[off]?, l with
    | some (.i k a), .i k' b => if k = k' then putSel x l sz (cells.set off (.i k (.ifeq x j b a))) (off + sz) (j + 1) n else none
    | _, _ => none

/-- Nothing is yielded. -/
def noSlot : Slot := ⟨.c false, .v (.one (.b (.c false)))⟩

/-- A new block. -/
def allocBlk (st : St) (key : Nat) (e : TypeId) (ls : List Leaf) (dst : Option Tmp) : Option (List Ev × St) :=
  if st.free key 1 && leavesAll st.has ls then
    some ([], { st.claim key 1 with blks := insBlk ⟨key, e, ls⟩ st.blks }.put dst ⟨.c true, .v (.one (.p key 0))⟩)
  else none

def setCells (st : St) (b : Blk) (cs : List Leaf) (dst : Option Tmp) : Option (List Ev × St) :=
  if leavesAll st.has cs then some ([], (setBlk st { b with cells := cs }).put dst noSlot) else none

/-- A new row, its list told by 'op'; 'rows': those that stay. -/
def newRow (st : St) (G : BE) (key : Nat) (e : TypeId) (ks : List CK) (evs : List Ev) (op : LOp) (rows : List Row) (dst : Option Tmp) : Option (List Ev × St) :=
  if st.free key 1 && G.all st.has then
    some (evs ++ [.letl key op], { st.claim key 1 with rows := insRow ⟨key, e, ks, key, true, G⟩ rows }.put dst ⟨G, .v (.one (.s key))⟩)
  else none

/-- the elements of a composite literal: all told, in order -/
def leafIE : CK → Leaf → Option IE
  | .i k, .i k' e => if k = k' then some e else none
  | .b, .b (.c true) => some (.c 1)
  | .b, .b (.c false) => some (.c 0)
  | _, _ => none
def leafIEs : List CK → List Leaf → Option (List IE)
  | [], [] => some []
  | k :: ks, l :: ls => match leafIE k l, leafIEs ks ls with
    | some e, some es => some (e :: es)
    | _, _ => none
  | _, _ => none
def storeLeaves (st : St) (l : Leaf) (ls : List Leaf) (key : Nat) (dst : Option Tmp) : Option (List Ev × St) :=
  match l with
  | .p id off => match getBlk st id with
    | some b => if off + ls.length ≤ b.cells.length then setCells st b (putCells b.cells off ls) dst else none
    | none => none
  | .pi id off sz n x => match getBlk st id, ls with
    | some b, [l] => match putSel x l sz b.cells off 0 n with
      | some cs => if 0 < n ∧ 0 < sz then (match setCells st b cs dst with
        | some (evs, st') => some (.need (BE.le (.c 0) x).mk :: .need (BE.lt x (.c (n : Int))).mk :: evs, st')
        | none => none) else none
      | none => none
    | _, _ => none
  | .ep row sz x j => match getRow st row, ls with
    | some r, [.i k y] => if r.own && decide (r.g = .c true) && decide (r.ks.length = sz) && decide (r.ks[j]? = some (.i k)) && st.free key 1 then
        some ([.need (BE.le (.c 0) x).mk, .need (BE.lt x (.len r.lv)).mk, .letl key (.set r.lv x j y)],
          { st.claim key 1 with rows := insRow { r with lv := key } (st.rows.filter fun z => decide (z.id ≠ row)) }.put dst noSlot) else none
    | some r, ls => match leafIEs r.ks ls with
      | some es => if r.own && decide (r.g = .c true) && decide (r.ks.length = sz) && decide (j = 0) && decide (1 < sz) && st.free key 1 then
          some ([.need (BE.le (.c 0) x).mk, .need (BE.lt x (.len r.lv)).mk, .letl key (.setr r.lv x es)],
            { st.claim key 1 with rows := insRow { r with lv := key } (st.rows.filter fun z => decide (z.id ≠ row)) }.put dst noSlot) else none
      | none => none
    | _, _ => none
  | _ => none

def rowLits (ks : List CK) : Nat → Nat → List (Nat × V1) → Option (List (List IE))
  | 0, _, [] => some []
  | n + 1, i, (j, v) :: ps => if i = j then
      (match leafIEs ks v.leaves, rowLits ks n (i + 1) ps with
      | some r, some rs => some (r :: rs)
      | _, _ => none) else none
  | _, _, _ => none

/-- How many elements of a type may lie in one slice. -/
def roomOf (P : Program) (e : TypeId) : Option Nat :=
  match P.info? e with
  | some i => match i.zero with
    | some z => if decide (0 < i.bytes) && decide (0 < i.size) && decide (z.cells.size = i.size) then some (140737488355328 / i.bytes) else none
    | none => none
  | none => none

/-- A composite literal of a slice type. -/
def bsop (P : Program) (st : St) (G : BE) (key : Nat) (dst : Option Tmp) (t : TypeId) (n : Nat) (parts : Array (Nat × Operand)) : Option (List Ev × St) :=
  match P.underlying t, opndParts st G parts.toList with
  | some (.slice e), some ps => match flat P 16 e with
    | some ks => if decide (0 < ks.length) && ((P.info? e).bind (·.zero)).isSome && decide (n * ks.length ≤ 16777216) && decide (P.cellsOf e = ks.length) then
        (match rowLits ks n 0 ps with
        | some rows => newRow st G key e ks [] (.lit rows) st.rows dst
        | none => none) else none
    | none => none
  | _, _ => none

/-- A loud operation, carried out for sure (its guard says yes). 'key': the first new name. -/
def lop (P : Program) (st : St) (key : Nat) (dst : Option Tmp) (op : Op) : Option (List Ev × St) :=
  match op with
  | .alloc e => match zeroQ P e with
    | some z => allocBlk st key e z.leaves dst
    | none => none
  | .box e x => match opnd1 st (.c true) x with
    | some v => allocBlk st key e v.leaves dst
    | none => none
  | .store t a x => match opndL st (.c true) a, opnd1 st (.c true) x with
    | some l, some v => if v.leaves.length = P.cellsOf t ∧ 0 < P.cellsOf t then storeLeaves st l v.leaves key dst else none
    | _, _ => none
  | .slice t x none (some h) none => match P.underlying t, opndL st (.c true) x, opndL st (.c true) h with
    | some (.slice e), some (.s a), some (.i _ n) => match getRow st a with
      | some ra => if ra.own && decide (ra.g = .c true) && decide (ra.e = e) && decide (P.cellsOf e = ra.ks.length) then
          newRow st (.c true) key e ra.ks [.need (BE.le (.c 0) n).mk, .need (BE.le n (.len ra.lv)).mk] (.take ra.lv n) (st.rows.filter fun r => decide (r.id ≠ a)) dst else none
      | none => none
    | _, _, _ => none
  | .call { callee := .builtin .append, args, argTypes } => match args.toList, argTypes.toList with
    | [x, y], [t, t'] => if t = t' then (match P.underlying t with
      | some (.slice e) => match roomOf P e, opndL st (.c true) x, opndL st (.c true) y with
        | some room, some .nils, some (.s b) => match getRow st b with
          | some rb => if decide (rb.g = .c true) && decide (rb.e = e) && decide (P.cellsOf e = rb.ks.length) then
              newRow st (.c true) key e rb.ks [.need (BE.le (.len rb.lv) (.c (room : Int))).mk] (.cp rb.lv) st.rows dst else none
          | none => none
        | some room, some (.s a), some (.s b) => match getRow st a, getRow st b with
          | some ra, some rb => if ra.own && decide (ra.g = .c true) && decide (rb.g = .c true) && decide (ra.e = e) && decide (rb.e = e) && decide (ra.ks = rb.ks) && decide (a ≠ b) && decide (P.cellsOf e = ra.ks.length) then
              newRow st (.c true) key e ra.ks [.need (BE.le (IE.add (.len ra.lv) (.len rb.lv)).mk (.c (room : Int))).mk] (.app ra.lv rb.lv) (st.rows.filter fun r => decide (r.id ≠ a)) dst else none
          | _, _ => none
        | _, _, _ => none
      | _ => none) else none
    | _, _ => none
  | _ => none

def width (vs : List VT) : Nat := (cts vs).length

/-- A call of a Go function with values. -/
def copV (cfg : Cfg) (st : St) (G : BE) (key : Nat) (dst : Option Tmp) (f : FuncId) (vs : List V1) : Option (List Ev × St) :=
  match cfg.sig f with
  | some sg => match v1sDE st G sg.args vs with
    | some ds => if st.free key (width sg.res) && G.all st.has then
        some ([.call f G ds sg.res key], { st.claim key (width sg.res) with rows := insRows (freshV1s G key sg.res).2 st.rows }.put dst ⟨G, packV (freshV1s G key sg.res).1⟩) else none
    | none => none
  | none => none
/-- A call of a Go function. -/
def cop (cfg : Cfg) (st : St) (G : BE) (key : Nat) (dst : Option Tmp) (f : FuncId) (args : List Operand) : Option (List Ev × St) :=
  match opndLs st G args with
  | some vs => copV cfg st G key dst f vs
  | none => none
/-- A call of a closure. -/
def copF (cfg : Cfg) (st : St) (G : BE) (key : Nat) (dst : Option Tmp) (x : Operand) (args : List Operand) : Option (List Ev × St) :=
  match opndL st G x, opndLs st G args with
  | some (.fn g caps), some vs => copV cfg st G key dst g (vs ++ caps.map fun c => .one (capLeaf c))
  | _, _ => none
/-! ### One operation of a region -/
def guardOf (ops : Array Oper) (st : St) (o : Oper) : Option BE :=
  match o.guard with
  | none => some (.c true)
  | some (j, want) => match (ops[j]?).bind (·.dst) with
    | some t => match st.tmps[t]? with
      | some (some ⟨g, .v (.one (.b p))⟩) => some (BE.and g (if want then p else (BE.not p).mk)).mk
      | _ => none
    | none => none

def needs (G : BE) : List BE → List Ev
  | [] => []
  | n :: ns => match BE.under G n with
    | .c true => needs G ns
    | m => .need m :: needs G ns

def opExec (P : Program) (cfg : Cfg) (ops : Array Oper) (st : St) (key : Nat) (o : Oper) : Option (List Ev × St) :=
  match guardOf ops st o with
  | none => none
  | some (.c false) => some ([], st.put o.dst noSlot)
  | some G => match qop P cfg.wrapm st G o.op with
    | some (ns, sv) => match st.putS o.dst ⟨G, sv⟩ with
      | some st' => some (needs G ns, st')
      | none => none
    | none => match o.op with
      | .call { callee := .value (.func f), args, .. } => cop cfg st G key o.dst f args.toList
      | .call { callee := .value (.tmp t), args, .. } => copF cfg st G key o.dst (.tmp t) args.toList
      | .buildSlice t n parts => bsop P st G key o.dst t n parts
      | op => if G = .c true then lop P st key o.dst op else none

/-- How many new names an operation may take. -/
def stride : Nat := 64

def regionText (P : Program) (cfg : Cfg) (ops : Array Oper) (base : Nat) : Nat → List Oper → St → Option (List Ev × St)
  | _, [], st => some ([], st)
  | i, o :: rest, st => match opExec P cfg ops st (base + i * stride) o with
    | some (evs, st') => match regionText P cfg ops base (i + 1) rest st' with
      | some (evs', st'') => some (evs ++ evs', st'')
      | none => none
    | none => none

/-- May the operation be taken first in a region that draws: it is quiet; it loads nothing that the region may write, or has made. -/
def takeable (P : Program) (st0 : St) (W : List Nat) (st : St) (G : BE) (op : Op) : Bool :=
  match op with
  | .load _ x => match opndL st G x with
    | some (.p id _) => !W.contains id && st0.blks.any (fun b => b.id == id)
    | some (.pi id _ _ _ _) => !W.contains id && st0.blks.any (fun b => b.id == id)
    | some (.ep row _ _ _) => !W.contains row && decide (getRow st row = getRow st0 row)
    | _ => false
  | _ => true

def tryTake (P : Program) (cfg : Cfg) (ops : Array Oper) (st0 : St) (W : List Nat) (listed : Array Bool) (st : St) : List Nat → Option (Nat × List Ev × St)
  | [] => none
  | i :: is => match ops[i]? with
    | none => none
    | some o => if Region.free .any ops listed i then (match guardOf ops st o with
        | none => tryTake P cfg ops st0 W listed st is
        | some G => if takeable P st0 W st G o.op then (match qop P cfg.wrapm st G o.op with
            | some (ns, sv) => match st.putS o.dst ⟨G, sv⟩ with
              | some st' => some (i, needs G ns, st')
              | none => none
            | none => tryTake P cfg ops st0 W listed st is) else tryTake P cfg ops st0 W listed st is) else tryTake P cfg ops st0 W listed st is

/-- The stores of a region: whose blocks and rows. -/
def written (P : Program) (cfg : Cfg) (ops : Array Oper) (base : Nat) : Nat → List Oper → St → Option (List Nat)
  | _, [], _ => some []
  | i, o :: rest, st => match opExec P cfg ops st (base + i * stride) o with
    | some (_, st') => match written P cfg ops base (i + 1) rest st' with
      | some W => match o.op with
        | .store _ a _ => match opndL st (.c true) a with
          | some (.p id _) => some (id :: W)
          | some (.pi id _ _ _ _) => some (id :: W)
          | some (.ep row _ _ _) => some (row :: W)
          | _ => none
        | .call { callee := .builtin .append, args, .. } => match args.toList with
          | x :: _ => match opndL st (.c true) x with
            | some (.s row) => some (row :: W)
            | some .nils => some W
            | _ => none
          | [] => none
        | .slice _ x _ _ _ => match opndL st (.c true) x with
          | some (.s row) => some (row :: W)
          | _ => none
        | _ => some W
      | none => none
    | none => none

def sameAll (x : List Ev × St) : List (Option (List Ev × St)) → Bool
  | [] => true
  | some y :: ys => decide (x = y) && sameAll x ys
  | none :: _ => false

/-- Does a store (an append) go to where the list says? -/
def storesTo (W : List Nat) (st : St) : Leaf → Bool
  | .p id _ => W.contains id && (getBlk st id).isSome
  | .pi id _ _ _ _ => W.contains id && (getBlk st id).isSome
  | .ep row _ _ _ => W.contains row && (match getRow st row with
    | some r => r.own && decide (r.g = .c true)
    | none => false)
  | .s row => W.contains row && (match getRow st row with
    | some r => r.own && decide (r.g = .c true)
    | none => false)
  | _ => true
def storesIn (W : List Nat) (st : St) (op : Op) : Bool :=
  match op with
  | .store _ a _ => match opndL st (.c true) a with
    | some l => storesTo W st l
    | none => true
  | .call { callee := .builtin .append, args, .. } => match args.toList with
    | x :: _ => match opndL st (.c true) x with
      | some l => storesTo W st l
      | none => true
    | [] => true
  | _ => true

/-- What the list does not name is as it was. -/
def keeps (st0 : St) (W : List Nat) (st : St) : Bool :=
  st0.blks.all (fun b => W.contains b.id || decide (getBlk st b.id = some b)) && st0.rows.all (fun r => W.contains r.id || decide (getRow st r.id = some r))

/-! ### Events in an order of their own: a new list is told before the calls that it has nothing to do with -/
def LOp.all (p : Nat → Bool) : LOp → Bool
  | .lit rows => rows.all fun r => r.all (IE.all p)
  | .app a b => p a && p b
  | .set a i _ x => p a && (i.all p && x.all p)
  | .setr a i xs => p a && (i.all p && xs.all (IE.all p))
  | .take a n => p a && n.all p
  | .rep n _ => n.all p
  | .cp a => p a
def DE.all (p : Nat → Bool) : DE → Bool
  | .i e => e.all p
  | .b e => e.all p
  | .l k => p k
  | .nil => true
  | .rows es => es.all (IE.all p)
def mayPass (e e2 : Ev) : Bool :=
  match e2 with
  | .letl id op => match e with
    | .call _ g args res base => op.all (fun k => decide (k < base) || decide (base + (cts res).length ≤ k)) && ((decide (id < base) || decide (base + (cts res).length ≤ id)) && (g.all (fun k => decide (k ≠ id)) && args.all (DE.all fun k => decide (k ≠ id))))
    | .need p => p.all fun k => decide (k ≠ id)
    | .letl id' op' => decide (id < id') && (op.all (fun k => decide (k ≠ id')) && op'.all (fun k => decide (k ≠ id)))
  | _ => false
def insE (e : Ev) : List Ev → List Ev
  | [] => [e]
  | e2 :: es => if mayPass e e2 then e2 :: insE e es else e :: e2 :: es
def canonEvs : List Ev → List Ev
  | [] => []
  | e :: es => insE e (canonEvs es)

/-- What has been found of a region's states: how many turns are left, which operations have come up, the state, and what came of it. -/
abbrev Memo := List (Nat × Nat × List Bool × St × (List Ev × St))
def codeOf (l : List Bool) : Nat := l.foldl (fun c b => 2 * c + (if b then 1 else 0)) 1
def lookM (n code : Nat) (l : List Bool) (st : St) : Memo → Option (List Ev × St)
  | [] => none
  | (n', c', l', st1, r) :: T => if (Nat.beq c' code && Nat.beq n' n) && (decide (l' = l) && decide (st1 = st)) then some r else lookM n code l st T

def goWith (P : Program) (cfg : Cfg) (ops : Array Oper) (st0 : St) (W : List Nat) (base : Nat) (st : St) (next : Nat → St → Memo → Option ((List Ev × St) × Memo)) (i : Nat) (T : Memo) : Option ((List Ev × St) × Memo) :=
  match ops[i]? with
  | none => none
  | some o => if storesIn W st o.op && keeps st0 W st then (match opExec P cfg ops st (base + i * stride) o with
    | some (evs, st') => match next i st' T with
      | some ((evs', st''), T') => some ((canonEvs (evs ++ evs'), st''), T')
      | none => none
    | none => none) else none

/-- The others come to the same. -/
def goAll (go : Nat → Memo → Option ((List Ev × St) × Memo)) (x : List Ev × St) : List Nat → Memo → Option Memo
  | [], T => some T
  | i :: is, T => match go i T with
    | some (y, T') => if y = x then goAll go x is T' else none
    | none => none

def explore (P : Program) (cfg : Cfg) (ops : Array Oper) (st0 : St) (W : List Nat) (base : Nat) : Nat → Array Bool → St → Memo → Option ((List Ev × St) × Memo)
  | 0, listed, st, T => if Region.ready .any ops listed = [] then some (([], st), T) else none
  | n + 1, listed, st, T =>
    match Region.ready .any ops listed with
    | [] => some (([], st), T)
    | r :: rs => match tryTake P cfg ops st0 W listed st (r :: rs) with
      | some (i, evs, st') => match explore P cfg ops st0 W base n (listed.setIfInBounds i true) st' T with
        | some ((evs', st''), T') => some ((evs ++ evs', st''), T')
        | none => none
      | none => match lookM (n + 1) (codeOf listed.toList) listed.toList st T with
        | some x => some (x, T)
        | none => match goWith P cfg ops st0 W base st (fun i st' T => explore P cfg ops st0 W base n (listed.setIfInBounds i true) st' T) r T with
          | some (x, T') => match goAll (goWith P cfg ops st0 W base st (fun i st' T => explore P cfg ops st0 W base n (listed.setIfInBounds i true) st' T)) x rs T' with
            | some T'' => some (x, (n + 1, codeOf listed.toList, listed.toList, st, x) :: T'')
            | none => none
          | none => none

/-- All that has been claimed lies below. -/
def domBelow (n : Nat) (st : St) : Bool := st.dom.all fun d => decide (d.2 ≤ n)

def regionExec (P : Program) (cfg : Cfg) (ops : Array Oper) (draw : Bool) (st : St) : Option (List Ev × St) :=
  match (if draw then
      (if Region.noSelect ops && P.follows .mixedOrders then (match written P cfg ops st.next 0 ops.toList st with
        | some W => (explore P cfg ops st W st.next ops.size (Array.replicate ops.size false) st []).map (·.1)
        | none => none) else none)
    else regionText P cfg ops st.next 0 ops.toList st) with
  | some (evs, st') => if domBelow (st.next + ops.size * stride) st' && decide (st'.next = st.next) then some (evs, { st' with next := st.next + ops.size * stride, dom := [] }) else none
  | none => none

/-! ### Loops -/
def firstRegion : Code → Option Nat
  | .region id _ _ => some id
  | .seq a b => match firstRegion a with
    | some i => some i
    | none => firstRegion b
  | .cond _ a b => match firstRegion a with
    | some i => some i
    | none => firstRegion b
  | .block _ a => firstRegion a
  | .loop a => firstRegion a
  | .scope a => firstRegion a
  | _ => none

def dsts : Code → List Nat
  | .region _ ops _ => ops.toList.filterMap (·.dst)
  | .seq a b => dsts a ++ dsts b
  | .cond _ a b => dsts a ++ dsts b
  | .block _ a => dsts a
  | .loop a => dsts a
  | .scope a => dsts a
  | _ => []

structure Head where
  st : St
  entry : List DE
  ks : List CT

/-- The frame's slots at a loop's head: a slot that the body writes is carried if it holds a number or a bool, else forgotten. A slot that 'hr' names holds a slice of the call's own: a new row takes the place of the one that it held. -/
def headTmps (ds : List Nat) (hr : List (Nat × TypeId × List CK)) : Nat → Nat → List (Option Slot) → List Row → Option (List (Option Slot) × List Row × List DE × List CT × Nat)
  | _, id, [], rs => some ([], rs, [], [], id)
  | t, id, s :: rest, rs => match hr.find? (fun h => h.1 == t) with
    | some (_, e, ks) => match s with
      | some ⟨.c true, .v (.one .nils)⟩ => if 0 < ks.length then (match headTmps ds hr (t + 1) (id + 1) rest rs with
        | some (ss, rs', es, cs, n) => some (some ⟨.c true, .v (.one (.s id))⟩ :: ss, insRow ⟨id, e, ks, id, true, .c true⟩ rs', .nil :: es, .s e ks :: cs, n)
        | none => none) else none
      | some ⟨.c true, .v (.one (.s r))⟩ => match rs.find? (fun x => x.id == r) with
        | some x => if x.own && decide (x.g = .c true) && decide (x.e = e) && decide (x.ks = ks) then
            (match headTmps ds hr (t + 1) (id + 1) rest (rs.filter fun y => y.id ≠ r) with
            | some (ss, rs', es, cs, n) => some (some ⟨.c true, .v (.one (.s id))⟩ :: ss, insRow ⟨id, e, ks, id, true, .c true⟩ rs', .l x.lv :: es, .s e ks :: cs, n)
            | none => none) else none
        | none => none
      | _ => none
    | none => if ds.contains t then
        (match s with
        | some ⟨.c true, .v (.one (.i k e))⟩ => match headTmps ds hr (t + 1) (id + 1) rest rs with
          | some (ss, rs', es, cs, n) => some (some ⟨.c true, .v (.one (.i k (.v id)))⟩ :: ss, rs', .i e :: es, .c (.i k) :: cs, n)
          | none => none
        | some ⟨.c true, .v (.one (.b e))⟩ => match headTmps ds hr (t + 1) (id + 1) rest rs with
          | some (ss, rs', es, cs, n) => some (some ⟨.c true, .v (.one (.b (.v id)))⟩ :: ss, rs', .b e :: es, .c .b :: cs, n)
          | none => none
        | _ => match headTmps ds hr (t + 1) id rest rs with
          | some (ss, rs', es, cs, n) => some (none :: ss, rs', es, cs, n)
          | none => none)
      else match headTmps ds hr (t + 1) id rest rs with
        | some (ss, rs', es, cs, n) => some (s :: ss, rs', es, cs, n)
        | none => none

/-! The cells of the blocks as slots behind the frame's own. -/
def asSlot (l : Leaf) : Option Slot := some ⟨.c true, .v (.one l)⟩
def flatBlks : List Blk → List (Option Slot)
  | [] => []
  | b :: bs => b.cells.map asSlot ++ flatBlks bs
def leafOf : Option Slot → Option Leaf
  | some ⟨.c true, .v (.one l)⟩ => some l
  | _ => none
def leavesOf : List (Option Slot) → Option (List Leaf)
  | [] => some []
  | s :: ss => match leafOf s, leavesOf ss with
    | some l, some ls => some (l :: ls)
    | _, _ => none
def unflat : List Blk → List (Option Slot) → Option (List Blk)
  | [], _ => some []
  | b :: bs, ss => match leavesOf (ss.take b.cells.length), unflat bs (ss.drop b.cells.length) with
    | some cs, some bs' => some ({ b with cells := cs } :: bs')
    | _, _ => none
/-- The hints for cells, by their places among the slots: a number or a bool is carried, a slice's row is made anew. -/
def cellHints (hs : List (Nat × Nat)) (st : St) : Nat → List Blk → List Nat × List (Nat × TypeId × List CK)
  | _, [] => ([], [])
  | t, b :: bs =>
    let js := (List.range b.cells.length).filter fun j => hs.contains (b.id, j)
    let r := cellHints hs st (t + b.cells.length) bs
    (js.map (t + ·) ++ r.1, (js.filterMap fun j => match b.cells[j]? with
      | some (Leaf.s q) => (getRow st q).map fun x => (t + j, x.e, x.ks)
      | _ => none) ++ r.2)

def mkHead (c : Code) (h : Hint) (st : St) : Option Head :=
  let r := cellHints h.cells st st.tmps.length st.blks
  match headTmps (dsts c ++ r.1) (h.rows ++ r.2) 0 st.next (st.tmps ++ flatBlks st.blks) st.rows with
  | none => none
  | some (ss, rs, es, ks, n) => match unflat st.blks (ss.drop st.tmps.length) with
    | some bs => some { st := { tmps := ss.take st.tmps.length, blks := bs, rows := rs, next := n, dom := [] }, entry := es, ks := ks }
    | none => none

def nodupB : List Nat → Bool
  | [] => true
  | x :: xs => !xs.contains x && nodupB xs
/-- Leaf h at the head: what the state at a round's end has for it. A carried leaf (its name: id) gives its data, and the row that it was. -/
def backLeaf (base id : Nat) (h l : Leaf) : Option (List (DE × Option Nat)) :=
  if h = l ∧ h.all (fun k => decide (k < base)) = true then some [] else
  match h, l with
  | .i k (.v j), .i k' e => if j = id ∧ k = k' then some [(.i e, none)] else none
  | .b (.v j), .b e => if j = id then some [(.b e, none)] else none
  | _, _ => none
def backSlot (base : Nat) (st : St) (id : Nat) (h s : Option Slot) : Option (List (DE × Option Nat)) :=
  match h with
  | none => some []
  | some h => if s = some h ∧ h.all (fun k => decide (k < base)) = true then some [] else
    match h, s with
    | ⟨.c true, .v (.one (.s j))⟩, some ⟨.c true, .v (.one (.s r))⟩ => if j = id then (match getRow st r with
      | some y => some [(.l y.lv, some r)]
      | none => none) else none
    | ⟨.c true, .v (.one (.s j))⟩, some ⟨.c true, .v (.one .nils)⟩ => if j = id then some [(.nil, none)] else none
    | ⟨.c true, .v (.one a)⟩, some ⟨.c true, .v (.one b)⟩ => backLeaf base id a b
    | _, _ => none
def backTmps (base : Nat) (st : St) : Nat → List (Option Slot) → List (Option Slot) → Option (List (DE × Option Nat))
  | _, [], [] => some []
  | id, h :: hs, s :: ss => match backSlot base st id h s with
    | some d => match backTmps base st (id + d.length) hs ss with
      | some ds => some (d ++ ds)
      | none => none
    | none => none
  | _, _, _ => none
def sameShape (base : Nat) (st : St) : List Blk → Option (List Blk)
  | [] => some []
  | h :: hs => match getBlk st h.id, sameShape base st hs with
    | some b, some bs => if b.ty = h.ty ∧ h.id < base ∧ b.cells.length = h.cells.length then some (b :: bs) else none
    | _, _ => none
/-- The rows at the head: an old one must be as it was; a new one has become one that the call owns. -/
def backRow (base : Nat) (st : St) (L : List (DE × Option Nat)) (x : Row) : Bool :=
  if x.id < base then decide (getRow st x.id = some x) && x.all (fun k => decide (k < base))
  else decide (x.lv = x.id) && x.own && decide (x.g = .c true) && (match L[x.id - base]? with
    | some (.l lv, some r) => (match getRow st r with
      | some y => y.own && decide (y.g = .c true) && decide (y.e = x.e) && decide (y.ks = x.ks) && decide (y.lv = lv)
      | none => false)
    | some (.nil, none) => decide (0 < x.ks.length)
    | _ => false)
def deKind : CT → DE → Bool
  | .c (.i _), .i _ => true
  | .c .b, .b _ => true
  | .s _ _, .l _ => true
  | .s _ _, .nil => true
  | _, _ => false
def deKinds : List CT → List DE → Bool
  | [], [] => true
  | c :: cs, d :: ds => deKind c d && deKinds cs ds
  | _, _ => false
def origins (L : List (DE × Option Nat)) : List Nat := L.filterMap (·.2)
def back (base : Nat) (ks : List CT) (h st : St) : Option (List DE) :=
  match sameShape base st h.blks with
  | some bs => match backTmps base st base (h.tmps ++ flatBlks h.blks) (st.tmps ++ flatBlks bs) with
    | some L => if decide (h.tmps.length = st.tmps.length) && (h.rows.all (backRow base st L) && nodupB (origins L) && (origins L).all (fun r => !h.rows.any fun x => decide (x.id < base) && x.id == r) && deKinds ks (L.map (·.1)))
      then some (L.map (·.1)) else none
    | none => none
  | none => none

inductive K where
  | code (c : Code)
  | blk (id : Nat)
  | loop (c : Code)
  /-- a loop with its head: its name, the first new name, the state at the head -/
  | linv (c : Code) (id base : Nat) (head : St) (ks : List CT)

def popTo (id : Nat) : List K → Option (List K)
  | [] => none
  | .blk id' :: k => if id' = id then some k else popTo id k
  | _ :: k => popTo id k

def hasLoop (id : Nat) : List K → Bool
  | [] => false
  | .linv _ id' _ _ _ :: k => id' == id || hasLoop id k
  | _ :: k => hasLoop id k

/-- The results. -/
def resV (P : Program) (st : St) : ResultVar → Option V1
  | .tmp t => opnd1 st (.c true) (.tmp t)
  | .cell a t => match opndL st (.c true) (.tmp a) with
    | some (.p id off) => (loadQ P st (.c true) t (.p id off)).map fun r => r.2
    | _ => none
def resVs (P : Program) (st : St) : List ResultVar → Option (List V1)
  | [] => some []
  | r :: rs => match resV P st r, resVs P st rs with
    | some v, some vs => some (v :: vs)
    | _, _ => none
/-- No row is given back twice, and all are own. -/
def rowsOf : List V1 → List Nat
  | [] => []
  | v :: vs => (v.leaves.filterMap fun | .s r => some r | _ => none) ++ rowsOf vs
def noPtr : List VT → Bool
  | [] => true
  | .ptr _ _ :: _ => false
  | .fn _ _ :: _ => false
  | _ :: ts => noPtr ts
def retTree (P : Program) (fn : Func) (res : List VT) (st : St) : Tree :=
  match resVs P st fn.results.toList with
  | some vs => match v1sDE st (.c true) res vs with
    | some ds => if noPtr res && nodupB (rowsOf vs) && (rowsOf vs).all (fun r => match getRow st r with | some x => x.own && decide (x.g = .c true) | none => false)
      then .ret ds else .stuck "ret. a row that is not own"
    | none => .stuck "ret. types"
  | none => .stuck "ret. a result"

def evTree : List Ev → Tree → Tree
  | [], t => t
  | e :: es, t => .ev e (evTree es t)

/-! ### A name's values told apart -/
def Leaf.fix (k : Nat) (v : Int) : Leaf → Leaf
  | .i kd (.v j) => if j = k then .i kd (.c v) else .i kd (.v j)
  | l => l
def V1.fix (k : Nat) (v : Int) : V1 → V1
  | .one l => .one (l.fix k v)
  | .agg ls => .agg (ls.map (Leaf.fix k v))
def SV.fix (k : Nat) (v : Int) : SV → SV
  | .v x => .v (x.fix k v)
  | .tup xs => .tup (xs.map (V1.fix k v))
def St.fix (st : St) (k : Nat) (v : Int) : St :=
  { st with tmps := st.tmps.map (fun s => s.map fun s => { s with sv := s.sv.fix k v }), blks := st.blks.map fun b => { b with cells := b.cells.map (Leaf.fix k v) } }
def splitT (k : Nat) (f : Int → Tree) : List Nat → Tree
  | [] => .stuck "split"
  | v :: vs => .ite (.eq (.v k) (.c (v : Int))) (f (v : Int)) (splitT k f vs)

def exec (P : Program) (cfg : Cfg) (fn : Func) (res : List VT) : Nat → List K → St → Tree
  | 0, _, _ => .stuck "fuel"
  | _ + 1, [], st => retTree P fn res st
  | n + 1, .blk _ :: k, st => exec P cfg fn res n k st
  | n + 1, .loop c :: k, st => exec P cfg fn res n (.code c :: .loop c :: k) st
  | _ + 1, .linv _ id base h ks :: _, st => match back base ks h st with
    | some vals => .again id vals
    | none => .stuck "again"
  | n + 1, .code c :: k, st => match c with
    | .skip => exec P cfg fn res n k st
    | .label _ => exec P cfg fn res n k st
    | .seq a b => exec P cfg fn res n (.code a :: .code b :: k) st
    | .cond x a b => match opndL st (.c true) x with
      | some (.b (.c true)) => exec P cfg fn res n (.code a :: k) st
      | some (.b (.c false)) => exec P cfg fn res n (.code b :: k) st
      | some (.b p) => .ite p (exec P cfg fn res n (.code a :: k) st) (exec P cfg fn res n (.code b :: k) st)
      | _ => .stuck "cond"
    | .block id c => exec P cfg fn res n (.code c :: .blk id :: k) st
    | .loop c => match (firstRegion c).bind (fun i => (cfg.loops.find? (fun p => p.1 == i)).map fun p => (i, p.2)) with
      | none => exec P cfg fn res n (.code c :: .loop c :: k) st
      | some (i, h) => match mkHead c h st with
        | some hd => if hasLoop i k then .stuck "loop in itself" else .loop i hd.entry hd.ks st.next (exec P cfg fn res n (.code c :: .linv c i st.next hd.st hd.ks :: k) hd.st)
        | none => .stuck "loop head"
    | .exit id => match popTo id k with
      | some k' => exec P cfg fn res n k' st
      | none => .stuck "exit"
    | .ret => retTree P fn res st
    | .region id ops draw => match cfg.splits.find? (fun p => p.1 == id) with
      | none => (match regionExec P cfg ops draw st with
        | some (evs, st') => evTree evs (exec P cfg fn res n k st')
        | none => .stuck ("region " ++ toString id))
      | some (_, x, m) => splitT x (fun v => match regionExec P cfg ops draw (st.fix x v) with
        | some (evs, st') => evTree evs (exec P cfg fn res n k st')
        | none => .stuck ("region " ++ toString id)) (List.range m)
    | _ => .stuck "code"

/-- The state at a function's beginning. -/
def startV1s (args : List VT) : List V1 × List Row :=
  let (vs, rows) := freshV1s (.c true) 0 args
  (vs, rows.map fun r => { r with own := false })
def start (fn : Func) (args : List VT) : St :=
  let (vs, rows) := startV1s args
  { tmps := vs.map (fun v => some ⟨.c true, .v v⟩) ++ List.replicate (fn.ntmps - vs.length) none, blks := [], rows, next := (cts args).length, dom := [] }

def execFn (P : Program) (cfg : Cfg) (fn : Func) (sg : Sig) (fuel : Nat) : Tree :=
  match fn.body with
  | some c => exec P cfg fn sg.res fuel [.code c] (start fn sg.args)
  | none => .stuck "no body"

end Go.Sx
