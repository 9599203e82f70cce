/-
  AX, part 1: an abstract machine for the code of the model. Values: data without addresses (slices are lists), pointers to boxes of the
  activation, slices that the activation owns (rows). The machine is written so that Lean's 'whnf' runs it: each function hands its result to
  a continuation. Part 2 and 3 show that what it says holds of the model.
-/
import Derived.Orders
import Derived.KernelRfl
import Derived.Laws.Sem
namespace Go.AX

/-- Data without addresses. A struct is the list of its cells, a slice the list of its elements ('sz' cells each). -/
inductive D where
  | val (v : Value)
  | agg (cs : List D)
  | nil (sz : Nat)
  | lst (sz : Nat) (es : List D)
  deriving Inhabited

abbrev D.i (n : Int) : D := .val (.int .i64 n)
abbrev D.u (n : Int) : D := .val (.int .u8 n)
abbrev D.b (b : Bool) : D := .val (.bool b)
abbrev D.s (s : ByteArray) : D := .val (.string s)

def D.cells : D → List D
  | .agg cs => cs
  | x => [x]

def D.isAgg : D → Bool
  | .agg _ => true
  | _ => false

/-- A nil slice as an empty list. -/
def D.norm : D → D
  | .nil sz => .lst sz []
  | .agg cs => .agg (cs.map fun
      | .nil sz => .lst sz []
      | x => x)
  | x => x

inductive AV where
  | d (x : D)
  | agg (cs : List AV)
  | ref (r off : Nat)
  | eref (cs : List D)
  | own (r n : Nat)
  | rref (r n i k : Nat)
  | fn (f : FuncId) (caps : List AV)
  | tup (vs : List AV)
  | mp (r : Nat)
  | dead
  deriving Inhabited

abbrev AV.i (n : Int) : AV := .d (.val (.int .i64 n))
abbrev AV.u (n : Int) : AV := .d (.val (.int .u8 n))
abbrev AV.b (b : Bool) : AV := .d (.val (.bool b))
abbrev AV.s (s : ByteArray) : AV := .d (.val (.string s))
abbrev AV.l (sz : Nat) (es : List D) : AV := .d (.lst sz es)

/-- What a reference of the activation leads to: a variable's cells; a growing slice's elements ('frz': no element may be written any more). -/
inductive OB where
  | box (cs : List AV)
  | row (e sz : Nat) (es : List D) (frz : Bool)
  | map (k e : Nat) (es : List (D × D))
  deriving Inhabited

inductive TK where
  | bool | int (k : IntKind) | str | ptr | fn | other
  | slice (elem : Nat)
  | arr (n elem : Nat)
  | struct (fs : List (Nat × Nat × Nat))
  | map (k e : Nat)
  deriving Inhabited

structure TI where
  kind : TK
  size : Nat
  bytes : Nat
  zero : List D
  deriving Inhabited

inductive TT where
  | tip
  | node (k : Nat) (v : TI) (l r : TT)

def TI.none : TI := ⟨.other, 0, 0, []⟩

def TT.get : TT → Nat → TI
  | .tip, _ => TI.none
  | .node k v l r, n => match Nat.beq n k with
    | true => v
    | false => match Nat.blt n k with
      | true => l.get n
      | false => r.get n


/-- a row of cells (a struct, an array)? 'none': not known -/
def TK.cls : TK → Option Bool
  | .struct _ | .arr _ _ => some true
  | .other => none
  | _ => some false

def knownT (T : TT) (t : Nat) : Bool := (T.get t).kind.cls.isSome

structure ASt where
  tm : List AV
  ob : List (Option OB)

/-- The machine's constants: the types, the number of the references that came in, the calls that are known. -/
structure Cx where
  T : TT
  np : Nat
  C : FuncId → List AV → List OB → AV → List OB → Prop
  keep : FuncId → List Bool

/- The value in a slot, brought to its head. -/
def AV.force (a : AV) (K : AV → Prop) : Prop := match a with
  | .d x => K (.d x)
  | .agg cs => K (.agg cs)
  | .ref r o => K (.ref r o)
  | .eref cs => K (.eref cs)
  | .own r n => K (.own r n)
  | .rref r n i k => K (.rref r n i k)
  | .fn f c => K (.fn f c)
  | .tup vs => K (.tup vs)
  | .mp r => K (.mp r)
  | .dead => K .dead

def onlyIf (b : Bool) (P : Prop) : Prop := match b with
  | true => P
  | false => False

def evO (tm : List AV) : Operand → AV
  | .tmp t => tm.getD t .dead
  | .const v => (match v.oneCell' with
    | true => .d (.val v)
    | false => .dead)
  | .func f => .fn f []
  | .global _ => .dead

def lsetK {α : Type} : List α → Nat → α → (List α → Prop) → Prop
  | [], _, _, K => K []
  | _ :: l, 0, v, K => K (v :: l)
  | x :: l, n + 1, v, K => lsetK l n v fun l' => K (x :: l')

def mapK {α β : Type} (f : α → (β → Prop) → Prop) : List α → (List β → Prop) → Prop
  | [], K => K []
  | x :: l, K => f x fun y => mapK f l fun l' => K (y :: l')

def dropK {α : Type} : List α → Nat → (List α → Prop) → Prop
  | l, 0, K => K l
  | [], _ + 1, K => K []
  | _ :: l, n + 1, K => dropK l n K

def takeK {α : Type} : List α → Nat → (List α → Prop) → Prop
  | _, 0, K => K []
  | [], _ + 1, K => K []
  | x :: l, n + 1, K => takeK l n fun l' => K (x :: l')

/-- cells 'vs' written over 'cs' from 'off' on; False where they do not fit -/
def overK {α : Type} : List α → Nat → List α → (List α → Prop) → Prop
  | cs, 0, [], K => K cs
  | _ :: cs, 0, v :: vs, K => overK cs 0 vs fun l => K (v :: l)
  | c :: cs, n + 1, vs, K => overK cs n vs fun l => K (c :: l)
  | [], _, _, _ => False

/-- all cells are data -/
def allD : List AV → Option (List D)
  | [] => some []
  | .d x :: r => match allD r with
    | some l => some (x :: l)
    | none => none
  | _ :: _ => none

/-- an aggregate out of cells -/
def aggOf (cs : List AV) (K : AV → Prop) : Prop := match allD cs with
  | some l => K (.d (.agg l))
  | none => K (.agg cs)

/-- the cells of a value that is stored; False where one of them is no cell's value -/
def cellsK (a : AV) (K : List AV → Prop) : Prop := match a with
  | .d (.val v) => K [.d (.val v)]
  | .d (.nil sz) => K [.d (.nil sz)]
  | .d (.lst sz es) => K [.d (.lst sz es)]
  | .d (.agg cs) => mapK (fun c K => match c with
      | .val v => K (.d (.val v))
      | .nil sz => K (.d (.nil sz))
      | .lst sz es => K (.d (.lst sz es))
      | .agg _ => False) cs K
  | .agg cs => K cs
  | .ref r o => K [.ref r o]
  | .own r n => K [.own r n]
  | .mp r => K [.mp r]
  | .fn f c => K [.fn f c]
  | _ => False

/-- 'norm' by its head -/
def normK (x : D) (K : D → Prop) : Prop := match x with
  | .val v => K (.val v)
  | .nil sz => K (.lst sz [])
  | .lst sz es => K (.lst sz es)
  | .agg cs => mapK (fun c K => match c with
      | .val v => K (.val v)
      | .nil sz => K (.lst sz [])
      | .lst sz es => K (.lst sz es)
      | .agg cs => K (.agg cs)) cs fun cs => K (.agg cs)

abbrev W := List (Nat × OB)

def findO (ob : List (Option OB)) (r : Nat) (K : OB → Prop) : Prop := match ob.getD r none with
  | some (.box cs) => K (.box cs)
  | some (.row e sz es frz) => K (.row e sz es frz)
  | some (.map k e es) => K (.map k e es)
  | none => False

def noO (ob : List (Option OB)) (r : Nat) (K : Prop) : Prop := match ob[r]? with
  | some none => K
  | _ => False

/-- Go's '==' on data -/
def eqD (T : TT) : Nat → Nat → D → D → Option Bool
  | 0, _, _, _ => none
  | n + 1, t, x, y => match (T.get t).kind, x, y with
    | .bool, .val (.bool a), .val (.bool b) => some (a == b)
    | .int _, .val (.int k a), .val (.int k' b) => if k = k' then some (a == b) else none
    | .str, .val (.string a), .val (.string b) => some (a.toList == b.toList)
    | .struct fs, .agg xs, .agg ys => eqFs (eqD T n) T fs xs ys
    | _, _, _ => none
where
  eqFs (rec : Nat → D → D → Option Bool) (T : TT) : List (Nat × Nat × Nat) → List D → List D → Option Bool
    | [], _, _ => some true
    | (o, s, t) :: fs, xs, ys =>
      match (match (T.get t).kind.cls with
        | some true => rec t (.agg ((xs.drop o).take s)) (.agg ((ys.drop o).take s))
        | some false => (match xs[o]?, ys[o]? with
          | some x, some y => rec t x y
          | _, _ => none)
        | none => none) with
      | some b => match eqFs rec T fs xs ys with
        | some c => some (b && c)
        | none => none
      | none => none

def binK0 (T : TT) (op : BinOp) (t : Nat) (x y : AV) (K : AV → Prop) : Prop :=
  match op, x, y with
  | .shl, .d (.val (.int k a)), .d (.val (.int _ b)) => 0 ≤ b ∧ ∃ r, k.wrap (a * 2 ^ (min b.toNat k.bits)) = r ∧ K (.d (.val (.int k r)))
  | .shr, .d (.val (.int k a)), .d (.val (.int _ b)) => 0 ≤ b ∧ ∃ r, a.fdiv (2 ^ (min b.toNat k.bits)) = r ∧ K (.d (.val (.int k r)))
  | .eql, .d (.val (.string a)), .d (.val (.string b)) => K (.b (a.toList == b.toList))
  | .neq, .d (.val (.string a)), .d (.val (.string b)) => K (.b (!(a.toList == b.toList)))
  | .add, .d (.val (.string a)), .d (.val (.string b)) => (a.size + b.size ≤ 2 ^ 62) ∧ K (.s (a ++ b))
  | op, .d (.val (.int k a)), .d (.val (.int k' b)) => onlyIf (decide (k = k')) (match op with
    | .add => ∃ r, k.wrap (a + b) = r ∧ K (.d (.val (.int k r)))
    | .sub => ∃ r, k.wrap (a - b) = r ∧ K (.d (.val (.int k r)))
    | .mul => ∃ r, k.wrap (a * b) = r ∧ K (.d (.val (.int k r)))
    | .quo => b ≠ 0 ∧ ∃ r, k.wrap (a.tdiv b) = r ∧ K (.d (.val (.int k r)))
    | .rem => b ≠ 0 ∧ ∃ r, a.tmod b = r ∧ K (.d (.val (.int k r)))
    | .and => ∃ r, k.wrap (BitVec.ofInt k.bits a &&& BitVec.ofInt k.bits b).toNat = r ∧ K (.d (.val (.int k r)))
    | .or => ∃ r, k.wrap (BitVec.ofInt k.bits a ||| BitVec.ofInt k.bits b).toNat = r ∧ K (.d (.val (.int k r)))
    | .xor => ∃ r, k.wrap (BitVec.ofInt k.bits a ^^^ BitVec.ofInt k.bits b).toNat = r ∧ K (.d (.val (.int k r)))
    | .andNot => ∃ r, k.wrap (BitVec.ofInt k.bits a &&& ~~~BitVec.ofInt k.bits b).toNat = r ∧ K (.d (.val (.int k r)))
    | .eql => K (.b (a == b))
    | .neq => K (.b (a != b))
    | .lss => K (.b (decide (a < b)))
    | .leq => K (.b (decide (a ≤ b)))
    | .gtr => K (.b (decide (a > b)))
    | .geq => K (.b (decide (a ≥ b)))
    | _ => False)
  | .eql, .d x, .d y => (match eqD T 9 t x y with
    | some b => K (.b b)
    | none => False)
  | .neq, .d x, .d y => (match eqD T 9 t x y with
    | some b => K (.b (!b))
    | none => False)
  | _, _, _ => False

def selK (b : Bool) (A B : Prop) : Prop := match b with
  | true => A
  | false => B

def binK (T : TT) (op : BinOp) (t : Nat) (x y : AV) (K : AV → Prop) : Prop := binK0 T op t x y K

theorem binK_eq (T : TT) (op : BinOp) (t : Nat) (x y : AV) (K : AV → Prop) : binK T op t x y K = binK0 T op t x y K := rfl

def unK (op : UnOp) (x : AV) (K : AV → Prop) : Prop :=
  match op, x with
  | .not, .d (.val (.bool b)) => K (.b (!b))
  | .neg, .d (.val (.int k a)) => ∃ r, k.wrap (0 - a) = r ∧ K (.d (.val (.int k r)))
  | _, _ => False

def pickK (c a b : AV) (K : AV → Prop) : Prop :=
  match c with
  | .d (.val (.bool t)) => (match a, b with
    | .d (.val (.bool x)), .d (.val (.bool y)) => K (.b (cond t x y))
    | a, b => selK t (a.force K) (b.force K))
  | _ => False

def fieldOff (T : TT) (t i : Nat) (K : Nat → Nat → Nat → Prop) : Prop := match (T.get t).kind with
  | .struct fs => (match fs[i]? with
    | some (o, s, ft) => match s with
      | 0 => False
      | s + 1 => K o (s + 1) ft
    | none => False)
  | _ => False

def loadK (T : TT) (t : Nat) (a : AV) (ob : List (Option OB)) (K : AV → Prop) : Prop :=
  match a with
  | .ref r off => findO ob r fun o => (match o with
    | .box cs => (match (T.get t).kind.cls with
      | some true => dropK cs off fun cs => onlyIf (Nat.ble (T.get t).size cs.length) <| takeK cs (T.get t).size fun l => aggOf l K
      | some false => (match cs[off]? with
        | some a => a.force K
        | none => False)
      | none => False)
    | _ => False)
  | .eref cs => (match (T.get t).kind.cls with
      | some true => onlyIf (Nat.ble (T.get t).size cs.length) <| takeK cs (T.get t).size fun l => K (.d (.agg l))
      | some false => (match cs[0]? with
        | some a => K (.d a)
        | none => False)
      | none => False)
  | .rref r n i k => findO ob r fun o => (match o with
    | .row _ _ es _ => n = es.length ∧ ∃ x, es.getD i default = x ∧ dropK x.cells k fun cs => (match (T.get t).kind.cls with
      | some true => onlyIf (Nat.ble (T.get t).size cs.length) <| takeK cs (T.get t).size fun l => K (.d (.agg l))
      | some false => (match cs[0]? with
        | some a => K (.d a)
        | none => False)
      | none => False)
    | _ => False)
  | _ => False

/-- data out of a value, for a row's element or a call; the rows that are frozen by it are handed on -/
def toD (ob : List (Option OB)) (a : AV) (K : D → W → Prop) : Prop := match a with
  | .d x => normK x fun x => K x []
  | .own r n => findO ob r fun o => (match o with
    | .row e sz es _ => n = es.length ∧ K (.lst sz es) [(r, .row e sz es true)]
    | _ => False)
  | .agg cs => toDs cs fun l w => K (.agg l) w
  | _ => False
where
  toDs : List AV → (List D → W → Prop) → Prop
    | [], K => K [] []
    | .d x :: cs, K => (match x with
      | .agg _ => False
      | .val v => toDs cs fun l w => K (.val v :: l) w
      | .nil sz => toDs cs fun l w => K (.lst sz [] :: l) w
      | .lst sz es => toDs cs fun l w => K (.lst sz es :: l) w)
    | .own r n :: cs, K => findO ob r fun o => (match o with
      | .row e sz es _ => n = es.length ∧ toDs cs fun l w => K (.lst sz es :: l) ((r, .row e sz es true) :: w)
      | _ => False)
    | _ :: _, _ => False

/-- cells of 'x' written over the element 'y' from 'k' on -/
def rowStoreK (y : D) (k : Nat) (x : D) (K : D → Prop) : Prop := normK x fun x => overK y.cells k x.cells fun cs' => match y with
  | .agg _ => K (.agg cs')
  | _ => match cs' with
    | [z] => onlyIf (!z.isAgg) (K z)
    | _ => False

def storeK (T : TT) (t : Nat) (a x : AV) (ob : List (Option OB)) (K : AV → W → Prop) : Prop :=
  onlyIf (knownT T t) <| match a with
  | .ref r off => findO ob r fun o => (match o with
    | .box cs => cellsK x fun vs => onlyIf (Nat.beq vs.length (T.get t).size) <| overK cs off vs fun cs' => K .dead [(r, .box cs')]
    | _ => False)
  | .rref r n i k => findO ob r fun o => (match o with
    | .row e sz es frz => n = es.length ∧ frz = false ∧ (match x with
      | .d x => onlyIf (Nat.beq x.cells.length (T.get t).size) <| ∃ y, es.getD i default = y ∧ rowStoreK y k x fun z => ∃ zs, es.set i z = zs ∧ K .dead [(r, .row e sz zs false)]
      | _ => False)
    | _ => False)
  | _ => False

def buildK (T : TT) (t : Nat) (parts : List (Nat × AV)) (K : AV → Prop) : Prop :=
  match (T.get t).kind with
  | .struct fs => go (fun i => match fs[i]? with
    | some (o, s, _) => some (o, s)
    | none => none) parts ((T.get t).zero.map .d) fun cs => aggOf cs K
  | .arr n e => onlyIf (knownT T e) <| go (fun i => match Nat.blt i n with
    | true => some (i * (T.get e).size, (T.get e).size)
    | false => none) parts ((T.get t).zero.map .d) fun cs => aggOf cs K
  | _ => False
where
  go (place : Nat → Option (Nat × Nat)) : List (Nat × AV) → List AV → (List AV → Prop) → Prop
    | [], cs, K => K cs
    | (i, v) :: rest, cs, K => match place i with
      | some (off, size) => cellsK v fun vs => onlyIf (Nat.beq vs.length size) <| overK cs off vs fun cs' => go place rest cs' K
      | none => False

/-- a slice literal: a row of data -/
def boundK (o : Option AV) (dflt : Int) (K : Int → Prop) : Prop := match o with
  | none => K dflt
  | some (.d (.val (.int _ i))) => K i
  | _ => False

/-- x[l:h] of data -/
def sliceD (sz : Nat) (d : D) (lo hi : Option AV) (K : AV → Prop) : Prop := match d with
  | .lst sz' es => onlyIf (Nat.beq sz' sz) <| boundK lo 0 fun l => boundK hi es.length fun h => (0 ≤ l ∧ l ≤ h ∧ h ≤ es.length) ∧ ∃ ys, (es.drop l.toNat).take (h.toNat - l.toNat) = ys ∧ K (.d (.lst sz' ys))
  | _ => False

def sliceK (T : TT) (t : Nat) (x : AV) (lo hi : Option AV) (ob : List (Option OB)) (K : AV → W → Prop) : Prop := match (T.get t).kind with
  | .slice e => onlyIf (knownT T e) <| toD ob x fun d w => sliceD (T.get e).size d lo hi fun v => K v w
  | .str => (match x with
    | .d (.val (.string s)) => boundK lo 0 fun l => boundK hi s.size fun h => (0 ≤ l ∧ l ≤ h ∧ h ≤ s.size) ∧ K (.s (s.extract l.toNat h.toNat)) []
    | _ => False)
  | _ => False

/-- make([]T, n, c) -/
def makeK (T : TT) (t self : Nat) (n c : AV) (ob : List (Option OB)) (K : AV → W → Prop) : Prop := match (T.get t).kind, n, c with
  | .slice e, .d (.val (.int .i64 n)), .d (.val (.int .i64 c)) => noO ob self <| onlyIf (knownT T e && Nat.blt 0 (T.get e).size && (match (T.get e).kind.cls with | some true => true | _ => Nat.beq (T.get e).size 1)) <| (0 ≤ n ∧ n ≤ c ∧ c ≤ 1048576 ∧ (T.get e).bytes ≤ 65536) ∧
      ∃ z, (match (T.get e).kind.cls with
        | some true => D.agg (T.get e).zero
        | _ => (T.get e).zero.headD default).norm = z ∧ ∃ zs, List.replicate n.toNat z = zs ∧ K (.own self zs.length) [(self, .row e (T.get e).size zs false)]
  | _, _, _ => False

/-! maps: keys that are ints, strings or truths -/
def keyEq : TK → D → D → Option Bool
  | .int _, .val (.int k a), .val (.int k' b) => if k = k' then some (a == b) else none
  | .str, .val (.string a), .val (.string b) => some (a == b)
  | .bool, .val (.bool a), .val (.bool b) => some (a == b)
  | _, _, _ => none

/-- what a map holds under a key -/
def mapGet (tk : TK) (x : D) : List (D × D) → Option (Option D)
  | [] => some none
  | p :: l => match keyEq tk x p.1 with
    | some true => some (some p.2)
    | some false => mapGet tk x l
    | none => none

def mapSet (tk : TK) (x v : D) : List (D × D) → Option (List (D × D))
  | [] => some [(x, v)]
  | p :: l => match keyEq tk x p.1 with
    | some true => some ((x, v) :: l)
    | some false => (mapSet tk x v l).map (p :: ·)
    | none => none

def zeroD (T : TT) (e : Nat) : D := (match (T.get e).kind.cls with
  | some true => D.agg (T.get e).zero
  | _ => (T.get e).zero.headD default).norm

def keyOKB : TK → Value → Bool
  | .int k, .int k' _ => decide (k' = k)
  | .str, .string _ => true
  | .bool, .bool _ => true
  | _, _ => false

def scalarK : TK → Bool
  | .int _ | .str | .bool => true
  | _ => false

def oneOK (T : TT) (e : Nat) : Bool := match (T.get e).kind.cls with
  | some true => true
  | _ => Nat.beq (T.get e).size 1

def lookK (T : TT) (t : Nat) (x key : AV) (ok : Bool) (ob : List (Option OB)) (K : AV → Prop) : Prop := match (T.get t).kind, x, key with
  | .map k e, .mp r, .d (.val kv) => onlyIf (keyOKB (T.get k).kind kv && scalarK (T.get k).kind && knownT T k && knownT T e && Nat.blt 0 (T.get e).size && oneOK T e) <| findO ob r fun o => (match o with
    | .map _ _ es => ∃ q, mapGet (T.get k).kind (.val kv) es = some q ∧ ∃ v, q.getD (zeroD T e) = v ∧ ∃ b, q.isSome = b ∧ K (match ok with
      | true => .tup [.d v, .b b]
      | false => .d v)
    | _ => False)
  | _, _, _ => False

def mapSetK (T : TT) (t : Nat) (x key v : AV) (ob : List (Option OB)) (K : AV → W → Prop) : Prop := match (T.get t).kind, x, key with
  | .map k _, .mp r, .d (.val kv) => onlyIf (keyOKB (T.get k).kind kv && scalarK (T.get k).kind && knownT T k) <| toD ob v fun d w => onlyIf (w.all fun q => !Nat.beq q.1 r) <| findO ob r fun o => (match o with
    | .map k' e' es => ∃ zs, mapSet (T.get k).kind (.val kv) d es = some zs ∧ K .dead (w ++ [(r, .map k' e' zs)])
    | _ => False)
  | _, _, _ => False

def buildRowK (T : TT) (t len self : Nat) (parts : List (Nat × AV)) (ob : List (Option OB)) (K : AV → W → Prop) : Prop :=
  match (T.get t).kind with
  | .slice e => noO ob self <| onlyIf (Nat.blt 0 (T.get e).size && Nat.ble (len * (T.get e).size) 16777216) <| onlyIf (knownT T e) <|
    elems (T.get e).size 0 parts fun es w => onlyIf (Nat.beq es.length len) <| K (.own self len) (w ++ [(self, .row e (T.get e).size es false)])
  | _ => False
where
  elems (sz : Nat) : Nat → List (Nat × AV) → (List D → W → Prop) → Prop
    | _, [], K => K [] []
    | i, (j, v) :: rest, K => match Nat.beq i j with
      | true => toD ob v fun x w => onlyIf (Nat.beq x.cells.length sz) <| elems sz (i + 1) rest fun l w' => K (x :: l) (w ++ w')
      | false => False

/-- is the type a row of cells? -/
def rowT (T : TT) (t : Nat) : Bool := match (T.get t).kind.cls with
  | some true => true
  | _ => false

/-- a slice literal of one struct, as a box: its cells may hold own slices that go on growing -/
def buildBoxK (T : TT) (t len self : Nat) (cs : List AV) (ob : List (Option OB)) (K : AV → W → Prop) : Prop :=
  match (T.get t).kind with
  | .slice e => noO ob self <| onlyIf (Nat.beq len 1 && rowT T e && Nat.beq (T.get e).size cs.length && Nat.blt 0 (T.get e).size && Nat.ble (T.get e).size 65536) <| K (.own self 1) [(self, .box cs)]
  | _ => False

def buildSliceK (T : TT) (t len self : Nat) (parts : List (Nat × AV)) (ob : List (Option OB)) (K : AV → W → Prop) : Prop := match parts with
  | [(0, .agg cs)] => buildRowK T t len self [(0, .agg cs)] ob K ∨ buildBoxK T t len self cs ob K
  | parts => buildRowK T t len self parts ob K

/-- the elements of a slice that is read -/
def srcK (ob : List (Option OB)) (y : AV) (K : Nat → List D → Prop) : Prop := match y with
  | .d (.lst sz es) => K sz es
  | .d (.nil sz) => K sz []
  | .own r n => findO ob r fun o => (match o with
    | .row _ sz es _ => n = es.length ∧ K sz es
    | _ => False)
  | _ => False

/-- append -/
def appendK (T : TT) (st : Nat) (self : Nat) (x y : AV) (ob : List (Option OB)) (K : AV → W → Prop) : Prop :=
  match (T.get st).kind with
  | .slice e => srcK ob y fun sz' ys => (match x with
    | .d (.nil _) => noO ob self <| onlyIf (Nat.beq sz' (T.get e).size && Nat.blt 0 (T.get e).size) <| onlyIf (knownT T e) <| (ys.length * (T.get e).bytes ≤ 2 ^ 47 ∧ ys.length ≤ 2 ^ 47) ∧
        K (.own self ys.length) [(self, .row e (T.get e).size ys false)]
    | .own r n => findO ob r fun o => (match o with
      | .row e' sz es frz => onlyIf (Nat.beq e' e && Nat.beq sz' sz && Nat.beq sz (T.get e).size && Nat.blt 0 sz) <| onlyIf (knownT T e) <| n = es.length ∧ ((es.length + ys.length) * (T.get e).bytes ≤ 2 ^ 47 ∧ es.length + ys.length ≤ 2 ^ 47) ∧
          ∃ zs, es ++ ys = zs ∧ K (.own r zs.length) [(r, .row e' sz zs frz)]
      | _ => False)
    | _ => False)
  | _ => False

def lenK (T : TT) (t : Nat) (x : AV) (K : AV → Prop) : Prop :=
  match (T.get t).kind, x with
  | .slice _, .d (.lst _ es) => ∃ n : Nat, es.length = n ∧ K (.i n)
  | .slice _, .d (.nil _) => K (.i 0)
  | .slice _, .own _ n => ∃ m : Nat, n = m ∧ K (.i m)
  | .str, .d (.val (.string s)) => K (.i s.size)
  | .arr n _, _ => K (.i n)
  | _, _ => False

def indexAddrK (T : TT) (t : Nat) (x y : AV) (ob : List (Option OB)) (K : AV → Prop) : Prop :=
  match y with
  | .d (.val (.int _ i)) => (match (T.get t).kind, x with
    | .slice e, .d (.lst sz es) => onlyIf (knownT T e) <| onlyIf (Nat.beq sz (T.get e).size) <| (0 ≤ i ∧ i < es.length) ∧ ∃ v, es.getD i.toNat default = v ∧ v.cells.length = sz ∧ K (.eref v.cells)
    | .slice e, .own r n => findO ob r fun o => (match o with
      | .row _ sz es _ => onlyIf (knownT T e) <| onlyIf (Nat.beq sz (T.get e).size) <| n = es.length ∧ (0 ≤ i ∧ i < es.length) ∧ K (.rref r n i.toNat 0)
      | .box cs => onlyIf (knownT T e) <| onlyIf (Nat.beq cs.length (T.get e).size) <| i = 0 ∧ K (.ref r 0)
      | _ => False)
    | .arr n e, .ref r off => onlyIf (knownT T e) <| onlyIf (Nat.ble 2 n) <| (0 ≤ i ∧ i < n) ∧ K (.ref r (off + i.toNat * (T.get e).size))
    | _, _ => False)
  | _ => False

def partK (T : TT) (t : Nat) (cs : List AV) (off : Nat) (K : AV → Prop) : Prop :=
  match (T.get t).kind.cls with
  | some true => dropK cs off fun cs => onlyIf (Nat.ble (T.get t).size cs.length) <| takeK cs (T.get t).size fun l => aggOf l K
  | some false => (match cs[off]? with
    | some a => a.force K
    | none => False)
  | none => False

def aggCells (x : AV) (K : List AV → Prop) : Prop := match x with
  | .d (.agg cs) => mapK (fun c K => K (.d c)) cs K
  | .agg cs => K cs
  | _ => False

def indexK (T : TT) (t : Nat) (x y : AV) (K : AV → Prop) : Prop :=
  match y with
  | .d (.val (.int _ i)) => (match (T.get t).kind, x with
    | .str, .d (.val (.string s)) => (0 ≤ i ∧ i < s.size) ∧ ∃ c, s.toList.getD i.toNat 0 = c ∧ K (.u c.toNat)
    | .arr n e, x => aggCells x fun cs => (0 ≤ i ∧ i < n) ∧ (match (T.get e).kind.cls with
      | some false => ∃ a, cs[i.toNat * (T.get e).size]? = some a ∧ a.force K
      | _ => False)
    | _, _ => False)
  | _ => False

def fieldK (T : TT) (t i : Nat) (x : AV) (K : AV → Prop) : Prop :=
  match (T.get t).kind with
  | .struct fs => (match fs[i]? with
    | some (o, _, ft) => aggCells x fun cs => partK T ft cs o K
    | none => False)
  | _ => False

def convK (T : TT) (src dst : Nat) (x : AV) (ob : List (Option OB)) (K : AV → Prop) : Prop :=
  onlyIf (T.get src).kind.cls.isSome <| match (T.get dst).kind, x with
  | .int k, .d (.val (.int _ n)) => ∃ r, k.wrap n = r ∧ K (.d (.val (.int k r)))
  | .str, .d (.val (.string s)) => K (.s s)
  | .str, x => (match (T.get src).kind with
    | .slice e => (match (T.get e).kind with
      | .int .u8 => onlyIf (Nat.beq (T.get e).size 1) <| srcK ob x fun sz es => onlyIf (Nat.beq sz 1) <| ∃ l : List UInt8, es = l.map (fun c => .u c.toNat) ∧ K (.s ⟨l.toArray⟩)
      | _ => False)
    | _ => False)
  | _, _ => False

/-- the constant nil as a slice's beginning -/
def isNil : AV → Bool
  | .d (.val (.slice Option.none 0 0)) => true
  | _ => false

def moveK (T : TT) (ty self : Nat) (x : AV) (ob : List (Option OB)) (K : AV → W → Prop) : Prop :=
  match isNil x with
  | true => (match (T.get ty).kind with
    | .slice e => (match ob[self]? with
      | some none => onlyIf (Nat.blt 0 (T.get e).size) <| K (.own self 0) [(self, .row e (T.get e).size [] false)]
      | _ => K (.d (.nil (T.get e).size)) [])
    | _ => False)
  | false => x.force fun x => K x []

/-- an argument, seen by the callee; ρ: the references that it is handed -/
def argK (keep : Bool) (ob : List (Option OB)) (a : AV) (ρ : List Nat) (K : AV → List Nat → W → Prop) : Prop := match a with
  | .d x => normK x fun x => K (.d x) ρ []
  | .own r n => (match keep with
    | true => refK r ρ fun i ρ => K (.own i n) ρ []
    | false => toD ob (.own r n) fun x w => K (.d x) ρ w)
  | .agg cs => toD ob (.agg cs) fun x w => K (.d x) ρ w
  | .ref r off => refK r ρ fun i ρ => K (.ref i off) ρ []
  | .mp r => refK r ρ fun i ρ => K (.mp i) ρ []
  | .eref cs => K (.eref cs) ρ []
  | .fn f caps => capsK caps ρ fun caps ρ => K (.fn f caps) ρ []
  | _ => False
where
  refK (r : Nat) (ρ : List Nat) (K : Nat → List Nat → Prop) : Prop := go r ρ 0 (fun i => K i ρ) (fun n => K n (ρ ++ [r]))
  go (r : Nat) : List Nat → Nat → (Nat → Prop) → (Nat → Prop) → Prop
    | [], n, _, N => N n
    | x :: ρ, n, F, N => match Nat.beq x r with
      | true => F n
      | false => go r ρ (n + 1) F N
  capsK : List AV → List Nat → (List AV → List Nat → Prop) → Prop
    | [], ρ, K => K [] ρ
    | .ref r off :: cs, ρ, K => refK r ρ fun i ρ => capsK cs ρ fun cs ρ => K (.ref i off :: cs) ρ
    | _ :: _, _, _ => False

/-- 'keep': which own slices are handed over as they are -/
def argsK (keep : List Bool) (ob : List (Option OB)) : List AV → List Nat → (List AV → List Nat → W → Prop) → Prop
  | [], ρ, K => K [] ρ []
  | a :: as, ρ, K => argK (keep.headD false) ob a ρ fun a' ρ w => argsK keep.tail ob as ρ fun as' ρ w' => K (a' :: as') ρ (w ++ w')

/-- what is handed over: boxes of data; rows -/
def objsK (ob : List (Option OB)) : List Nat → (List OB → Prop) → Prop
  | [], K => K []
  | r :: ρ, K => findO ob r fun o => match o with
    | .box cs => cellsD cs fun cs' => objsK ob ρ fun l => K (.box cs' :: l)
    | .row e sz es frz => objsK ob ρ fun l => K (.row e sz es frz :: l)
    | .map k e es => objsK ob ρ fun l => K (.map k e es :: l)
where
  cellsD : List AV → (List AV → Prop) → Prop
    | [], K => K []
    | .d x :: cs, K => cellsD cs fun l => K (.d x :: l)
    | _ :: _, _ => False

/-- a result, seen by the caller -/
def renK (ρ : List Nat) (self : Nat) (a : AV) (K : AV → Prop) : Prop := match a with
  | .d x => K (.d x)
  | .ref i off => K (.ref (ρ.getD i self) off)
  | .own i n => K (.own (ρ.getD i self) n)
  | .mp i => K (.mp (ρ.getD i self))
  | .tup vs => renTup ρ self vs fun l => K (.tup l)
  | _ => False
where
  renTup (ρ : List Nat) (self : Nat) : List AV → (List AV → Prop) → Prop
    | [], K => K []
    | .d x :: l, K => renTup ρ self l fun l' => K (.d x :: l')
    | .ref i off :: l, K => renTup ρ self l fun l' => K (.ref (ρ.getD i self) off :: l')
    | .own i n :: l, K => renTup ρ self l fun l' => K (.own (ρ.getD i self) n :: l')
    | _ :: _, _ => False

def closedO : OB → Bool
  | .box cs => cs.all fun | .d _ => true | _ => false
  | .row _ _ _ _ => true
  | .map _ _ _ => true

def backK (ρ : List Nat) (self : Nat) (objs : List OB) (K : W → Prop) : Prop := match ρ, objs with
  | [], [] => K []
  | [], [o] => match closedO o with
    | true => K [(self, o)]
    | false => False
  | r :: ρ, o :: os => match closedO o with
    | true => backK ρ self os fun w => K ((r, o) :: w)
    | false => False
  | _, _ => False

def callK0 (cx : Cx) (f : FuncId) (self : Nat) (args : List AV) (ob : List (Option OB)) (K : AV → W → Prop) : Prop :=
  argsK (cx.keep f) ob args [] fun args' ρ w => onlyIf (apartW w ρ) <| objsK ob ρ fun objs =>
    ∃ res objs', cx.C f args' objs res objs' ∧ (objs'.length = ρ.length ∨ ob[self]? = some none) ∧
      renK ρ self res fun res' => backK ρ self objs' fun w' => K res' (w ++ w')
where
  apartW (w : W) (ρ : List Nat) : Bool := w.all fun x => ρ.all fun r => match Nat.beq r x.1 with
    | true => false
    | false => true

def callK (cx : Cx) (f : FuncId) (self : Nat) (args : List AV) (ob : List (Option OB)) (K : AV → W → Prop) : Prop := callK0 cx f self args ob K

theorem callK_eq (cx : Cx) (f : FuncId) (self : Nat) (args : List AV) (ob : List (Option OB)) (K : AV → W → Prop) : callK cx f self args ob K = callK0 cx f self args ob K := rfl

def maxK (args : List AV) (K : AV → Prop) : Prop := match args with
  | [.d (.val (.int k x)), .d (.val (.int _ y))] => ∃ r, (if y > x then y else x) = r ∧ K (.d (.val (.int k r)))
  | _ => False
def minK (args : List AV) (K : AV → Prop) : Prop := match args with
  | [.d (.val (.int k x)), .d (.val (.int _ y))] => ∃ r, (if y < x then y else x) = r ∧ K (.d (.val (.int k r)))
  | _ => False

/-- the constant nil where a slice of type 't' is wanted -/
def nilT (T : TT) (t : Nat) (a : AV) : AV := match isNil a with
  | true => (match (T.get t).kind with
    | .slice e => .d (.nil (T.get e).size)
    | _ => a)
  | false => a

def argsT (T : TT) (av : Operand → AV) : List Operand → List Nat → List AV
  | x :: xs, t :: ts => nilT T t (av x) :: argsT T av xs ts
  | xs, _ => xs.map av

/-- One operation. 'self': the reference that an operation of this slot may make. -/
def opK (cx : Cx) (o : Oper) (av : Operand → AV) (ob : List (Option OB)) (K : AV → W → Prop) : Prop :=
  match o.op with
  | .move x | .assign x => (match x with
    | .const v => moveK cx.T o.type (cx.np + o.dst.getD 0) (av (.const v)) ob K
    | x => (av x).force fun v => K v [])
  | .pick c a b => pickK (av c) (av a) (av b) fun v => K v []
  | .alloc t => onlyIf (knownT cx.T t) <| noO ob (cx.np + o.dst.getD 0) <| K (.ref (cx.np + o.dst.getD 0) 0) [(cx.np + o.dst.getD 0, .box ((cx.T.get t).zero.map .d))]
  | .box t x => noO ob (cx.np + o.dst.getD 0) <| cellsK (av x) fun cs => onlyIf (Nat.beq cs.length (cx.T.get t).size) <| K (.ref (cx.np + o.dst.getD 0) 0) [(cx.np + o.dst.getD 0, .box cs)]
  | .build t parts => buildK cx.T t (parts.toList.map fun (i, x) => (i, av x)) fun v => K v []
  | .buildSlice t len parts => buildSliceK cx.T t len (cx.np + o.dst.getD 0) (parts.toList.map fun (i, x) => (i, av x)) ob K
  | .load t x => loadK cx.T t (av x) ob fun v => K v []
  | .store t a x => storeK cx.T t (av a) (nilT cx.T t (av x)) ob K
  | .nilCheck x => (match av x with
    | .ref r off => K (.ref r off) []
    | .eref cs => K (.eref cs) []
    | .rref r n i k => K (.rref r n i k) []
    | .fn f caps => K (.fn f caps) []
    | _ => False)
  | .binOp op t x y _ => binK cx.T op t (av x) (av y) fun v => K v []
  | .unOp op _ x => unK op (av x) fun v => K v []
  | .convert src dst x => convK cx.T src dst (av x) ob fun v => K v []
  | .fieldAddr t x i => fieldOff cx.T t i fun off size _ => (match av x with
    | .ref r o => K (.ref r (o + off)) []
    | .eref cs => dropK cs off fun cs => takeK cs size fun cs => K (.eref cs) []
    | .rref r n i k => findO ob r fun o => (match o with
      | .row _ _ es _ => n = es.length ∧ K (.rref r n i (k + off)) []
      | _ => False)
    | _ => False)
  | .field t x i => fieldK cx.T t i (av x) fun v => K v []
  | .indexAddr t x y => indexAddrK cx.T t (av x) (av y) ob fun v => K v []
  | .index t x y => indexK cx.T t (av x) (av y) fun v => K v []
  | .makeMap t none => (match (cx.T.get t).kind with
    | .map k e => noO ob (cx.np + o.dst.getD 0) <| K (.mp (cx.np + o.dst.getD 0)) [(cx.np + o.dst.getD 0, .map k e [])]
    | _ => False)
  | .lookup t x y ok => lookK cx.T t (av x) (av y) ok ob fun v => K v []
  | .mapUpdate t m k v | .insert t m k v => mapSetK cx.T t (av m) (av k) (av v) ob K
  | .slice t x lo hi none => sliceK cx.T t (nilT cx.T t (av x)) (lo.map av) (hi.map av) ob K
  | .makeSlice t n c => makeK cx.T t (cx.np + o.dst.getD 0) (av n) (av c) ob K
  | .extract x i => (match av x with
    | .tup vs => (match vs[i]? with
      | some a => a.force fun v => K v []
      | none => False)
    | _ => False)
  | .makeFunc (.func f) first caps => (match first.toList with
    | [] => K (.fn f (caps.toList.map av)) []
    | _ => False)
  | .call c => (match c.callee with
    | .value x => (match av x with
      | .fn f caps => callK cx f (cx.np + o.dst.getD 0) (argsT cx.T av c.args.toList c.argTypes.toList ++ caps) ob K
      | _ => False)
    | .builtin .len => (match c.args.toList, c.argTypes.toList with
      | [x], [t] => lenK cx.T t (nilT cx.T t (av x)) fun v => K v []
      | _, _ => False)
    | .builtin .append => (match c.args.toList, c.argTypes.toList with
      | [x, y], [t, u] => onlyIf (Nat.beq t u) <| appendK cx.T t (cx.np + o.dst.getD 0) (nilT cx.T t (av x)) (nilT cx.T t (av y)) ob K
      | _, _ => False)
    | .builtin .max => (match c.args.toList with
      | [x, y] => maxK [av x, av y] fun v => K v []
      | _ => False)
    | .builtin .min => (match c.args.toList with
      | [x, y] => minK [av x, av y] fun v => K v []
      | _ => False)
    | _ => False)
  | _ => False

def putK (tm : List AV) (dst : Option Nat) (v : AV) (K : List AV → Prop) : Prop := match dst with
  | some d => lsetK tm d v K
  | none => K tm

def wrK (ob : List (Option OB)) : W → (List (Option OB) → Prop) → Prop
  | [], K => K ob
  | (r, o) :: w, K => lsetK ob r (some o) fun ob => wrK ob w K

/-- whether the operation is wanted (its guard); the truth that is looked at is put into its slot -/
def guardK (ops : Array Oper) (o : Oper) (tm : List AV) (yes no : List AV → Prop) : Prop := match o.guard with
  | none => yes tm
  | some (j, want) => match (ops[j]?).bind (·.dst) with
    | some t => (match tm.getD t .dead with
      | .d (.val (.bool b)) => (match want with
        | true => selK b (lsetK tm t (.b true) yes) (lsetK tm t (.b false) no)
        | false => selK b (lsetK tm t (.b true) no) (lsetK tm t (.b false) yes))
      | .tup _ => no tm
      | _ => False)
    | none => False

/-- append to a box that is a slice of one struct: a new row; what the box's cells hold is frozen -/
def appBoxK (T : TT) (t self : Nat) (cs : List AV) (y : AV) (ob : List (Option OB)) (K : AV → W → Prop) : Prop := match (T.get t).kind with
  | .slice e => noO ob self <| onlyIf (rowT T e && Nat.beq (T.get e).size cs.length && Nat.blt 0 (T.get e).size && Nat.ble (T.get e).bytes 65536) <| srcK ob y fun sz ys => onlyIf (Nat.beq sz (T.get e).size && !ys.isEmpty) <| ys.length ≤ 1000000 ∧
      toD ob (.agg cs) fun d w => onlyIf (w.all fun q => !Nat.beq q.1 self) <| K (.own self (ys.length + 1)) (w ++ [(self, .row e (T.get e).size (d :: ys) false)])
  | _ => False

/-- One operation of a region that does not draw. -/
def opX (cx : Cx) (o : Oper) (av : Operand → AV) (ob : List (Option OB)) (K : AV → W → Prop) : Prop := match o.op with
  | .call c => (match c.callee with
    | .builtin .append => (match c.args.toList, c.argTypes.toList with
      | [x, y], [t, u] => (match av x with
        | .own r _ => (match ob.getD r none with
          | some (.box cs) => onlyIf (Nat.beq t u) <| appBoxK cx.T t (cx.np + o.dst.getD 0) cs (av y) ob K
          | _ => opK cx o av ob K)
        | _ => opK cx o av ob K)
      | _, _ => opK cx o av ob K)
    | _ => opK cx o av ob K)
  | _ => opK cx o av ob K

def stepG (ops : Array Oper) (o : Oper) (F : (Operand → AV) → List (Option OB) → (AV → W → Prop) → Prop) (st : ASt) (K : ASt → Prop) : Prop :=
  match st with
  | ⟨tm, ob⟩ => guardK ops o tm
    (fun tm => F (evO tm) ob fun v w => putK tm o.dst v fun tm => wrK ob w fun ob => K ⟨tm, ob⟩)
    (fun tm => putK tm o.dst (.tup []) fun tm => K ⟨tm, ob⟩)

def stepX (cx : Cx) (ops : Array Oper) (o : Oper) (st : ASt) (K : ASt → Prop) : Prop := stepG ops o (opX cx o) st K

def stepK (cx : Cx) (ops : Array Oper) (o : Oper) (st : ASt) (K : ASt → Prop) : Prop :=
  match st with
  | ⟨tm, ob⟩ => guardK ops o tm
    (fun tm => opK cx o (evO tm) ob fun v w => putK tm o.dst v fun tm => wrK ob w fun ob => K ⟨tm, ob⟩)
    (fun tm => putK tm o.dst (.tup []) fun tm => K ⟨tm, ob⟩)

def opsK (cx : Cx) (ops : Array Oper) : List Oper → ASt → (ASt → Prop) → Prop
  | [], st, K => K st
  | o :: rest, st, K => stepX cx ops o st fun st => opsK cx ops rest st K

inductive AE where
  | normal | exit (id : Nat) | ret

/-- the references that a value names -/
def AV.refs : AV → List Nat
  | .ref r _ => [r]
  | .own r _ => [r]
  | .mp r => [r]
  | .rref r _ _ _ => [r]
  | .agg cs => refsL cs
  | .fn _ cs => refsL cs
  | .tup cs => refsL cs
  | _ => []
where
  refsL : List AV → List Nat
    | [] => []
    | a :: l => a.refs ++ refsL l

def OB.refs : OB → List Nat
  | .box cs => AV.refs.refsL cs
  | .row _ _ _ _ => []
  | .map _ _ _ => []

/-! A region that draws its order: run in the text's order; what is not ordered must not meet. -/
def preds (o : Oper) : List Nat := (o.after.toList.filter (Region.binds .any)).map (·.on)

/-- the ancestors of each operation, the last one first -/
def ancs : List Oper → List (List Nat) → List (List Nat)
  | [], acc => acc
  | o :: l, acc => ancs l (((preds o).flatMap fun j => j :: acc.getD (acc.length - 1 - j) []) :: acc)

def ancOf (ops : Array Oper) (i : Nat) : List Nat := (ancs ops.toList []).getD (ops.size - 1 - i) []

def drawOK (ops : Array Oper) : Bool :=
  (List.range ops.size).all fun i => match ops[i]? with
    | none => false
    | some o => (preds o).all (fun j => Nat.blt j i) && (match o.op with | .select _ _ => false | _ => true) &&
      (List.range i).all fun j => (ancOf ops i).contains j || (match ops[j]? with
        | none => false
        | some q => q.apart ops o)

def opRW : Op → Bool
  | .move (.const _) | .assign (.const _) | .store .. | .alloc _ | .box .. | .buildSlice .. | .slice .. | .makeSlice .. | .makeMap .. | .mapUpdate .. | .insert .. => true
  | .call c => match c.callee with
    | .builtin .append => true
    | .value _ => true
    | _ => false
  | _ => false

/-- the operands through which the operation looks at memory -/
def opRefs (o : Op) : List Operand := match o with
  | .move (.tmp _) | .assign (.tmp _) | .pick .. | .extract .. => []
  | o => o.operands.toList

def opFp (np : Nat) (o : Oper) (tm : List AV) : List Nat :=
  (match opRW o.op with
    | true => [np + o.dst.getD 0]
    | false => []) ++ (opRefs o.op).flatMap fun x => (evO tm x).refs

def confOK (ops : Array Oper) : Nat → List (List Nat × Bool) → Bool
  | _, [] => true
  | i, (fp, rw) :: l => conf ops i fp rw (i + 1) l && confOK ops (i + 1) l
where
  conf (ops : Array Oper) (i : Nat) (fp : List Nat) (rw : Bool) : Nat → List (List Nat × Bool) → Bool
    | _, [] => true
    | j, (fp', rw') :: l => ((!rw && !rw') || (ancOf ops j).contains i || fp.all fun r => !fp'.contains r) && conf ops i fp rw (j + 1) l

def opsDK (cx : Cx) (ops : Array Oper) : List Oper → List (List Nat × Bool) → ASt → (List (List Nat × Bool) → ASt → Prop) → Prop
  | [], evs, st, K => K evs.reverse st
  | o :: rest, evs, ⟨tm, ob⟩, K => stepK cx ops o ⟨tm, ob⟩ fun st' => opsDK cx ops rest ((opFp cx.np o tm, opRW o.op) :: evs) st' K

/-- a value that fits one cell -/
def AV.one : AV → Bool
  | .d x => !x.isAgg
  | .agg _ | .tup _ | .dead => false
  | _ => true

/-! Weakening: what may be forgotten of a state. -/
/-- 'a' may be read as 'a'' -/
inductive AvW (s s' : ASt) : AV → AV → Prop where
  | refl (a : AV) : AvW s s' a a
  | dead (a : AV) : AvW s s' a .dead
  | norm (x : D) : AvW s s' (.d x) (.d x.norm)
  | lst (r n e sz : Nat) (es : List D) (frz : Bool) (h : s.ob.getD r none = some (.row e sz es frz)) (hn : n = es.length)
      (h' : s'.ob.getD r none = none ∨ s'.ob.getD r none = some (.row e sz es true)) : AvW s s' (.own r n) (.d (.lst sz es))
  | ownL (r n n' : Nat) (h : n = n') : AvW s s' (.own r n) (.own r n')
  | fresh (r e sz : Nat) (h : s.ob.getD r none = none) (h' : s'.ob.getD r none = some (.row e sz [] false)) : AvW s s' (.d (.nil sz)) (.own r 0)
  | lstB (r : Nat) (cs : List AV) (ys : List D) (sz : Nat) (h : s.ob.getD r none = some (.box cs)) (h' : s'.ob.getD r none = none) (hsz : sz = cs.length) (hl : ys.length = cs.length) (hp : 0 < cs.length)
      (hc : ∀ i (hi : i < cs.length) (hi' : i < ys.length), AvW s s' cs[i] (.d ys[i])) (hn : ∀ i (hi : i < ys.length), ys[i].isAgg = false) : AvW s s' (.own r 1) (.d (.lst sz [.agg ys]))

def tmW (s s' : ASt) : List AV → List AV → Prop
  | [], [] => True
  | a :: l, a' :: l' => (match a' with
    | .dead => tmW s s' l l'
    | a' => AvW s s' a a' ∧ tmW s s' l l')
  | _, _ => False

/-- the same for a variable's cells -/
def cellsW (s s' : ASt) : List AV → List AV → Prop
  | [], [] => True
  | a :: l, a' :: l' => (a'.one = true ∧ AvW s s' a a') ∧ cellsW s s' l l'
  | _, _ => False

def obW (s s' : ASt) : List (Option OB) → List (Option OB) → Prop
  | [], [] => True
  | o :: l, o' :: l' => (match o' with
    | none => obW s s' l l'
    | some (.box cs') => (∃ cs, o = some (.box cs) ∧ cellsW s s' cs cs') ∧ obW s s' l l'
    | some (.row e sz es frz) => ((∃ f, o = some (.row e sz es f) ∧ (f = true → frz = true)) ∨ (o = none ∧ es = [] ∧ 0 < sz)) ∧ obW s s' l l'
    | some (.map k e es) => o = some (.map k e es) ∧ obW s s' l l')
  | _, _ => False

def closedS (s : ASt) : Bool :=
  (AV.refs.refsL s.tm).all (fun r => (s.ob.getD r none).isSome) && s.ob.all fun
    | none => true
    | some o => o.refs.all fun r => (s.ob.getD r none).isSome

structure Weak (np : Nat) (s s' : ASt) : Prop where
  par : ((List.range np).all fun r => (s'.ob.getD r none).isSome) = true
  tm : tmW s s' s.tm s'.tm
  ob : obW s s' s.ob s'.ob
  closed : closedS s' = true

/-- the end of a round; what ends the loop -/
def onL (K : AE → ASt → Prop) (K' : ASt → Prop) (e : AE) (st : ASt) : Prop := match e with
  | .normal => K' st
  | .exit i => K (.exit i) st
  | .ret => K .ret st

inductive LoopP (np : Nat) (body : (AE → ASt → Prop) → ASt → Prop) (K : AE → ASt → Prop) (st : ASt) : Prop where
  | mk (h : (∀ t sz es, st.tm.getD t .dead = .d (.lst sz es) → es.length ≤ 9223372036854775807) → (∀ r e sz es f, st.ob.getD r none = some (.row e sz es f) → es.length ≤ 9223372036854775807) → ∃ I : ASt → Nat → Prop, (∃ s n, Weak np st s ∧ I s n) ∧
    ∀ s n, I s n → body (onL K fun t => ∃ s' m, m < n ∧ Weak np t s' ∧ I s' m) s)

/-- where ways meet they may forget -/
inductive CutP (np : Nat) (X : (ASt → Prop) → Prop) (K : ASt → Prop) : Prop where
  | go (h : X K)
  | cut (J : ASt → Prop) (h1 : X fun t => ∃ s, Weak np t s ∧ J s) (h2 : ∀ s, J s → K s)

def guarded : List Oper → Bool
  | [] => false
  | o :: l => match o.guard with
    | none => guarded l
    | some _ => true

/-- what follows the code: 'K'' where it ends as usual -/
def onN (K : AE → ASt → Prop) (K' : ASt → Prop) (e : AE) (st : ASt) : Prop := match e with
  | .normal => K' st
  | .exit i => K (.exit i) st
  | .ret => K .ret st

def onB (id : Nat) (K : AE → ASt → Prop) (K' : ASt → Prop) (e : AE) (st : ASt) : Prop := match e with
  | .normal => K' st
  | .exit i => (match Nat.beq i id with
    | true => K' st
    | false => K (.exit i) st)
  | .ret => K .ret st

def regK (cx : Cx) (ops : Array Oper) (st : ASt) (K : ASt → Prop) : Prop := match guarded ops.toList with
  | true => CutP cx.np (opsK cx ops ops.toList st) K
  | false => opsK cx ops ops.toList st K

def drawK (cx : Cx) (ops : Array Oper) (st : ASt) (K : ASt → Prop) : Prop := drawOK ops = true ∧ opsDK cx ops ops.toList [] st fun evs st' => confOK ops 0 evs = true ∧ K st'

def codeK (cx : Cx) : Code → (AE → ASt → Prop) → ASt → Prop
  | .skip, K, st => K .normal st
  | .region _ ops false, K, st => regK cx ops st (K .normal)
  | .region _ ops true, K, st => (match guarded ops.toList with
    | true => CutP cx.np (drawK cx ops st) (K .normal)
    | false => drawK cx ops st (K .normal))
  | .seq a b, K, st => codeK cx a (onN K (codeK cx b K)) st
  | .cond c x y, K, st => (match evO st.tm c with
    | .d (.val (.bool b)) => CutP cx.np (fun K' => selK b (codeK cx x (onN K K') st) (codeK cx y (onN K K') st)) (K .normal)
    | _ => False)
  | .block id b, K, st => CutP cx.np (fun K' => codeK cx b (onB id K K') st) (K .normal)
  | .loop b, K, st => LoopP cx.np (codeK cx b) K st
  | .exit id, K, st => K (.exit id) st
  | .ret, K, st => K .ret st
  | _, _, _ => False

theorem bsel {b : Bool} {A B : Prop} (h1 : b = true → A) (h2 : b = false → B) : selK b A B := by
  cases b
  · exact h2 rfl
  · exact h1 rfl

/-! A function. -/
/-- the results, out of the slots -/
def resK (cx : Cx) (st : ASt) : List ResultVar → (List AV → Prop) → Prop
  | [], K => K []
  | .tmp t :: rs, K => (st.tm.getD t .dead).force fun a => resK cx st rs fun l => K (a :: l)
  | .cell a ty :: rs, K => (match st.tm.getD a .dead with
    | .ref r off => loadK cx.T ty (.ref r off) st.ob fun v => resK cx st rs fun l => K (v :: l)
    | _ => False)

/-- a result as it leaves the activation; 'nw': the one own object that goes with it -/
def outK (np : Nat) (ob : List (Option OB)) (a : AV) (K : AV → Option Nat → Prop) : Prop := match a with
  | .d x => normK x fun x => K (.d x) none
  | .own r n => (match Nat.blt r np with
    | true => K (.own r n) none
    | false => toD ob (.own r n) fun x _ => K (.d x) none)
  | .agg cs => toD ob (.agg cs) fun x w => onlyIf (w.all fun q => Nat.ble np q.1) <| K (.d x) none
  | .ref r off => (match Nat.blt r np with
    | true => K (.ref r off) none
    | false => K (.ref np off) (some r))
  | .mp r => (match Nat.blt r np with
    | true => K (.mp r) none
    | false => False)
  | _ => False

def outsK (np : Nat) (ob : List (Option OB)) : List AV → (List AV → Prop) → Prop
  | [], K => K []
  | a :: l, K => outK np ob a fun a' nw => match nw with
    | none => outsK np ob l fun l' => K (a' :: l')
    | some _ => False

def takeOb (ob : List (Option OB)) : Nat → Nat → (List OB → Prop) → Prop
  | 0, _, K => K []
  | n + 1, i, K => findO ob i fun o => match o with
    | .box cs => objsK.cellsD cs fun cs => takeOb ob n (i + 1) fun l => K (.box cs :: l)
    | .row e sz es frz => takeOb ob n (i + 1) fun l => K (.row e sz es frz :: l)
    | .map k e es => takeOb ob n (i + 1) fun l => K (.map k e es :: l)

def leaveK (cx : Cx) (fn : Func) (R : AV → List OB → Prop) (e : AE) (st : ASt) : Prop :=
  match e with
  | .exit _ => False
  | _ => resK cx st fn.results.toList fun as => takeOb st.ob cx.np 0 fun objs => (match as with
    | [a] => outK cx.np st.ob a fun a' nw => (match nw with
      | none => R a' objs
      | some r => findO st.ob r fun o => match o with
        | .box cs => objsK.cellsD cs fun cs => R a' (objs ++ [.box cs])
        | .row _ _ _ _ => False
        | .map _ _ _ => False)
    | as => outsK cx.np st.ob as fun as' => R (.tup as') objs)

def initSt (fn : Func) (args : List AV) (objs : List OB) : ASt :=
  { tm := args ++ List.replicate (fn.ntmps - args.length) .dead, ob := objs.map some ++ List.replicate fn.ntmps none }

/-- A function's body, run on the arguments, leaves what R says. -/
def funK (cx : Cx) (fn : Func) (args : List AV) (objs : List OB) (R : AV → List OB → Prop) : Prop :=
  cx.np = objs.length ∧ match fn.body with
    | some c => codeK cx c (leaveK cx fn R) (initSt fn args objs)
    | none => False

end Go.AX
