/-
  Texts of one proof, packed.
-/
import Derived.Deep.MidRow
import Derived.Great.BuildSlice
import Derived.KernelRfl
import Derived.Laws.AppendOwn
import Derived.Laws.IdiomCopy
import Derived.Laws.Sem
import Derived.Laws.StructEq
import Derived.Orders
set_option linter.all false
set_option maxRecDepth 100000
set_option maxHeartbeats 4000000
open List renaming mem_singleton→X14,getElem?_eq_getElem→X15,getElem?_eq_some_iff→X16,length_drop→X17,length_take→X18,mem_append→X23
open Option.some renaming injEq→X24,inj→X25
open Prod.mk renaming injEq→X26
open Nat renaming mul_le_mul_right→X31,add_mul→X32
section
namespace Go.AX
inductive D where
 | val (v:Value)
 | agg (cs:List D)
 | nil (sz:Nat)
 | lst (sz:Nat) (es:List D)
 deriving Inhabited
abbrev D.i (n:Int):D:=.val (.int .i64 n)
abbrev D.u (n:Int):D:=.val (.int .u8 n)
abbrev D.b (b:Bool):D:=.val (.bool b)
abbrev D.s (s:ByteArray):D:=.val (.string s)
def D.cells:D->List D
 | .agg cs=>cs
 | x=>[x]
def D.isAgg:D->Bool
 | .agg _=>true
 | _=>false
def D.norm:D->D
 | .nil sz=>.lst sz []
 | .agg cs=>.agg (cs.map fun
   | .nil sz=>.lst sz []
   | x=>x)
 | x=>x
inductive AV where
 | d (x:D)
 | agg (cs:List AV)
 | ref (r off:Nat)
 | eref (cs:List D)
 | own (r n:Nat)
 | rref (r n i k:Nat)
 | fn (f:FuncId) (caps:List AV)
 | tup (vs:List AV)
 | mp (r:Nat)
 | osl (r a n m:Nat)
 | it (f:FuncId) (r:Nat)
 | gl (g:Nat)
 | gv (g:Nat)
 | dead
 deriving Inhabited
abbrev AV.i (n:Int):AV:=.d (.val (.int .i64 n))
abbrev AV.u (n:Int):AV:=.d (.val (.int .u8 n))
abbrev AV.b (b:Bool):AV:=.d (.val (.bool b))
abbrev AV.s (s:ByteArray):AV:=.d (.val (.string s))
abbrev AV.l (sz:Nat)(es:List D):AV:=.d (.lst sz es)
inductive FZ where
 | no | yes
 | lk (i j q n:Nat)
 deriving Inhabited
def FZ.frozen:FZ->Bool
 | .yes=>true
 | _=>false
def FZ.free:FZ->Bool
 | .no=>true
 | _=>false
theorem FZ.free_eq {f:FZ}(h:f.free=true):f=.no:=by cases f<;>simp[FZ.free] at h;rfl
def FZ.linked:FZ->Bool
 | .lk _ _ _ _=>true
 | _=>false
def FZ.refs:FZ->List Nat
 | .lk _ _ q _=>[q]
 | _=>[]
@[simp] theorem FZ.frozen_no:FZ.no.frozen=false:=rfl
@[simp] theorem FZ.frozen_yes:FZ.yes.frozen=true:=rfl
@[simp] theorem FZ.frozen_lk (i j q n:Nat):(FZ.lk i j q n).frozen=false:=rfl
@[simp] theorem FZ.linked_no:FZ.no.linked=false:=rfl
@[simp] theorem FZ.linked_yes:FZ.yes.linked=false:=rfl
@[simp] theorem FZ.linked_lk (i j q n:Nat):(FZ.lk i j q n).linked=true:=rfl
@[simp] theorem FZ.refs_no:FZ.no.refs=[]:=rfl
@[simp] theorem FZ.refs_yes:FZ.yes.refs=[]:=rfl
@[simp] theorem FZ.refs_lk (i j q n:Nat):(FZ.lk i j q n).refs=[q]:=rfl
theorem FZ.notlk {f:FZ}(h:f.linked=false){i j q n:Nat}(e:f=.lk i j q n):False:=by subst e;simp at h
inductive OB where
 | box (cs:List AV)
 | row (e sz:Nat) (es:List D) (frz:FZ)
 | map (k e:Nat) (es:List (D×D))
 | amap (k e:Nat) (es:List (D×D)) (kv:Value) (r n:Nat)
 | gone
 deriving Inhabited
inductive TK where
 | bool | int (k:IntKind)|str | ptr | fn | other
 | slice (elem:Nat)
 | arr (n elem:Nat)
 | struct (fs:List (Nat×Nat×Nat))
 | map (k e:Nat)
 deriving Inhabited
structure TI where
 kind:TK
 size:Nat
 bytes:Nat
 zero:List D
 deriving Inhabited
inductive TT where
 | tip
 | node (k:Nat) (v:TI) (l r:TT)
def TI.none:TI:=⟨.other,0,0,[]⟩
def TT.get:TT->Nat->TI
 | .tip,_=>TI.none
 | .node k v l r,n=>match Nat.beq n k with
  | true=>v
  | false=>match Nat.blt n k with
   | true=>l.get n
   | false=>r.get n
def TK.cls:TK->Option Bool
 | .struct _ | .arr _ _=>some true
 | .other=>none
 | _=>some false
def BS (T:TT)(t:Nat):Bool:=(T.get t).kind.cls.isSome
structure ASt where
 tm:List AV
 ob:List (Option OB)
structure Cx where
 T:TT
 np:Nat
 C:FuncId->List AV->List OB->AV->List OB->Prop
 keep:FuncId->List Bool
 G:Nat->Option (List (D×D))
 inl:FuncId->Bool
 I:FuncId->List AV->List (Option OB)->(AV->List (Option OB)->Prop)->Prop
 ex:Nat
def AV.force (a:AV)(K:AV->Prop):Prop:=match a with
 | .d x=>K (.d x)
 | .agg cs=>K (.agg cs)
 | .ref r o=>K (.ref r o)
 | .eref cs=>K (.eref cs)
 | .own r n=>K (.own r n)
 | .rref r n i k=>K (.rref r n i k)
 | .fn f c=>K (.fn f c)
 | .tup vs=>K (.tup vs)
 | .mp r=>K (.mp r)
 | .it f r=>K (.it f r)
 | .gl g=>K (.gl g)
 | .gv g=>K (.gv g)
 | .osl r a n m=>K (.osl r a n m)
 | .dead=>K .dead
def AU (b:Bool)(P:Prop):Prop:=match b with
 | true=>P
 | false=>False
def evO (tm:List AV):Operand->AV
 | .tmp t=>tm.getD t .dead
 | .const v=>(match v.oneCell' with
  | true=>.d (.val v)
  | false=>.dead)
 | .func f=>.fn f []
 | .global g=>.gl g
def L9 {α:Type}:List α->Nat->α->(List α->Prop)->Prop
 | [],_,_,K=>K []
 | _::l,0,v,K=>K (v::l)
 | x::l,n+1,v,K=>L9 l n v fun l'=>K (x::l')
def QH {α β:Type}(f:α->(β->Prop)->Prop):List α->(List β->Prop)->Prop
 | [],K=>K []
 | x::l,K=>f x fun y=>QH f l fun l'=>K (y::l')
def Pv {α:Type}:List α->Nat->(List α->Prop)->Prop
 | l,0,K=>K l
 | [],_+1,K=>K []
 | _::l,n+1,K=>Pv l n K
def ON {α:Type}:List α->Nat->(List α->Prop)->Prop
 | _,0,K=>K []
 | [],_+1,K=>K []
 | x::l,n+1,K=>ON l n fun l'=>K (x::l')
def OC {α:Type}:List α->Nat->List α->(List α->Prop)->Prop
 | cs,0,[],K=>K cs
 | _::cs,0,v::vs,K=>OC cs 0 vs fun l=>K (v::l)
 | c::cs,n+1,vs,K=>OC cs n vs fun l=>K (c::l)
 | [],_,_,_=>False
def SN:List AV->Option (List D)
 | []=>some []
 | .d x::r=>match SN r with
  | some l=>some (x::l)
  | none=>none
 | _::_=>none
def TN (cs:List AV)(K:AV->Prop):Prop:=match SN cs with
 | some l=>K (.d (.agg l))
 | none=>K (.agg cs)
def NB (a:AV)(K:List AV->Prop):Prop:=match a with
 | .d (.val v)=>K [.d (.val v)]
 | .d (.nil sz)=>K [.d (.nil sz)]
 | .d (.lst sz es)=>K [.d (.lst sz es)]
 | .d (.agg cs)=>QH (fun c K=>match c with
   | .val v=>K (.d (.val v))
   | .nil sz=>K (.d (.nil sz))
   | .lst sz es=>K (.d (.lst sz es))
   | .agg _=>False) cs K
 | .agg cs=>K cs
 | .ref r o=>K [.ref r o]
 | .own r n=>K [.own r n]
 | .mp r=>K [.mp r]
 | .fn f c=>K [.fn f c]
 | _=>False
def PY (x:D)(K:D->Prop):Prop:=match x with
 | .val v=>K (.val v)
 | .nil sz=>K (.lst sz [])
 | .lst sz es=>K (.lst sz es)
 | .agg cs=>QH (fun c K=>match c with
   | .val v=>K (.val v)
   | .nil sz=>K (.lst sz [])
   | .lst sz es=>K (.lst sz es)
   | .agg cs=>K (.agg cs)) cs fun cs=>K (.agg cs)
abbrev W:=List (Nat×OB)
def DT (ob:List (Option OB))(r:Nat)(K:OB->Prop):Prop:=match ob.getD r none with
 | some (.box cs)=>K (.box cs)
 | some (.row e sz es frz)=>K (.row e sz es frz)
 | some (.map k e es)=>K (.map k e es)
 | some (.amap k e es kv r n)=>K (.amap k e es kv r n)
 | some .gone=>K .gone
 | none=>False
def noO (ob:List (Option OB))(r:Nat)(K:Prop):Prop:=match ob[r]? with
 | some none=>K
 | _=>False
def eqD (T:TT):Nat->Nat->D->D->Option Bool
 | 0,_,_,_=>none
 | n+1,t,x,y=>match (T.get t).kind,x,y with
  | .bool,.val (.bool a),.val (.bool b)=>some (a==b)
  | .int _,.val (.int k a),.val (.int k' b)=>if k=k' then some (a==b) else none
  | .str,.val (.string a),.val (.string b)=>some (a.toList==b.toList)
  | .struct fs,.agg xs,.agg ys=>eqFs (eqD T n) T fs xs ys
  | _,_,_=>none where
 eqFs (rec:Nat->D->D->Option Bool) (T:TT):List (Nat×Nat×Nat)->List D->List D->Option Bool
  | [],_,_=>some true
  | (o,s,t)::fs,xs,ys=>
   match (match (T.get t).kind.cls with
    | some true=>rec t (.agg ((xs.drop o).take s)) (.agg ((ys.drop o).take s))
    | some false=>(match xs[o]?,ys[o]? with
     | some x,some y=>rec t x y
     | _,_=>none)
    | none=>none) with
   | some b=>match eqFs rec T fs xs ys with
    | some c=>some (b&&c)
    | none=>none
   | none=>none
def Xj (T:TT)(op:BinOp)(t:Nat)(x y:AV)(K:AV->Prop):Prop:=
 match op,x,y with
 | .shl,.d (.val (.int k a)),.d (.val (.int _ b))=>0<=b/\∃r,k.wrap (a*2^(min b.toNat k.bits))=r/\K (.d (.val (.int k r)))
 | .shr,.d (.val (.int k a)),.d (.val (.int _ b))=>0<=b/\∃r,a.fdiv (2^(min b.toNat k.bits))=r/\K (.d (.val (.int k r)))
 | .eql,.d (.val (.string a)),.d (.val (.string b))=>K (.b (a.toList==b.toList))
 | .neq,.d (.val (.string a)),.d (.val (.string b))=>K (.b (!(a.toList==b.toList)))
 | .add,.d (.val (.string a)),.d (.val (.string b))=>(a.size+b.size<=2^62)/\K (.s (a++b))
 | .lss,.d (.val (.string a)),.d (.val (.string b))=>K (.b (Op.bytesLess a.toList b.toList))
 | .gtr,.d (.val (.string a)),.d (.val (.string b))=>K (.b (!(Op.bytesLess a.toList b.toList || a.toList==b.toList)))
 | op,.d (.val (.int k a)),.d (.val (.int k' b))=>AU (decide (k=k')) (match op with
  | .add=>∃r,k.wrap (a+b)=r/\K (.d (.val (.int k r)))
  | .sub=>∃r,k.wrap (a-b)=r/\K (.d (.val (.int k r)))
  | .mul=>∃r,k.wrap (a*b)=r/\K (.d (.val (.int k r)))
  | .quo=>b≠0/\∃r,k.wrap (a.tdiv b)=r/\K (.d (.val (.int k r)))
  | .rem=>b≠0/\∃r,a.tmod b=r/\K (.d (.val (.int k r)))
  | .and=>∃r,k.wrap (BitVec.ofInt k.bits a &&& BitVec.ofInt k.bits b).toNat=r/\K (.d (.val (.int k r)))
  | .or=>∃r,k.wrap (BitVec.ofInt k.bits a ||| BitVec.ofInt k.bits b).toNat=r/\K (.d (.val (.int k r)))
  | .xor=>∃r,k.wrap (BitVec.ofInt k.bits a ^^^ BitVec.ofInt k.bits b).toNat=r/\K (.d (.val (.int k r)))
  | .andNot=>∃r,k.wrap (BitVec.ofInt k.bits a &&& ~~~BitVec.ofInt k.bits b).toNat=r/\K (.d (.val (.int k r)))
  | .eql=>K (.b (a==b))
  | .neq=>K (.b (a != b))
  | .lss=>K (.b (decide (a<b)))
  | .leq=>K (.b (decide (a<=b)))
  | .gtr=>K (.b (decide (a > b)))
  | .geq=>K (.b (decide (a ≥ b)))
  | _=>False)
 | .eql,.d x,.d y=>(match eqD T 9 t x y with
  | some b=>K (.b b)
  | none=>False)
 | .neq,.d x,.d y=>(match eqD T 9 t x y with
  | some b=>K (.b (!b))
  | none=>False)
 | _,_,_=>False
def KN (b:Bool)(A B:Prop):Prop:=match b with
 | true=>A
 | false=>B
def cU (T:TT)(op:BinOp)(t:Nat)(x y:AV)(K:AV->Prop):Prop:=Xj T op t x y K
theorem Xp (T:TT)(op:BinOp)(t:Nat)(x y:AV)(K:AV->Prop):cU T op t x y K=Xj T op t x y K:=rfl
def unK (op:UnOp)(x:AV)(K:AV->Prop):Prop:=
 match op,x with
 | .not,.d (.val (.bool b))=>K (.b (!b))
 | .neg,.d (.val (.int k a))=>∃r,k.wrap (0-a)=r/\K (.d (.val (.int k r)))
 | _,_=>False
def ZN (c a b:AV)(K:AV->Prop):Prop:=
 match c with
 | .d (.val (.bool t))=>(match a,b with
  | .d (.val (.bool x)),.d (.val (.bool y))=>K (.b (cond t x y))
  | a,b=>KN t (a.force K) (b.force K))
 | _=>False
def OD (T:TT)(t i:Nat)(K:Nat->Nat->Nat->Prop):Prop:=match (T.get t).kind with
 | .struct fs=>(match fs[i]? with
  | some (o,s,ft)=>match s with
   | 0=>False
   | s+1=>K o (s+1) ft
  | none=>False)
 | _=>False
def OA (T:TT)(t n i k:Nat)(es:List D)(K:AV->Prop):Prop:=n=es.length/\∃x,es.getD i default=x/\Pv x.cells k fun cs=>(match (T.get t).kind.cls with
   | some true=>AU (Nat.ble (T.get t).size cs.length) <| ON cs (T.get t).size fun l=>K (.d (.agg l))
   | some false=>(match cs[0]? with
    | some a=>K (.d a)
    | none=>False)
   | none=>False)
def Va (T:TT)(t:Nat)(a:AV)(ob:List (Option OB))(K:AV->Prop):Prop:=
 match a with
 | .ref r off=>DT ob r fun o=>(match o with
  | .box cs=>(match (T.get t).kind.cls with
   | some true=>Pv cs off fun cs=>AU (Nat.ble (T.get t).size cs.length) <| ON cs (T.get t).size fun l=>TN l K
   | some false=>(match cs[off]? with
    | some a=>a.force K
    | none=>False)
   | none=>False)
  | _=>False)
 | .eref cs=>(match (T.get t).kind.cls with
   | some true=>AU (Nat.ble (T.get t).size cs.length) <| ON cs (T.get t).size fun l=>K (.d (.agg l))
   | some false=>(match cs[0]? with
    | some a=>K (.d a)
    | none=>False)
   | none=>False)
 | .rref r n i k=>DT ob r fun o=>(match o with
  | .row _ sz es fz=>(match fz with
   | .lk i' j q m=>OA T t n i k es K\/(n=es.length/\i=i'/\k=j/\i<es.length/\j<sz/\(T.get t).kind.cls=some false/\K (.own q m))
   | _=>OA T t n i k es K)
  | .box cs=>(match (T.get t).kind.cls with
   | some false=>∃a,cs[k+i]?=some a/\a.force K
   | _=>False)
  | _=>False)
 | _=>False
def toD (ob:List (Option OB))(a:AV)(K:D->W->Prop):Prop:=match a with
 | .d x=>PY x fun x=>K x []
 | .own r n=>DT ob r fun o=>(match o with
  | .row e sz es _=>n=es.length/\K (.lst sz es) [(r,.row e sz es .yes)]
  | _=>False)
 | .agg cs=>toDs cs fun l w=>K (.agg l) w
 | _=>False where
 toDs:List AV->(List D->W->Prop)->Prop
  | [],K=>K [] []
  | .d x::cs,K=>(match x with
   | .agg _=>False
   | .val v=>toDs cs fun l w=>K (.val v::l) w
   | .nil sz=>toDs cs fun l w=>K (.lst sz []::l) w
   | .lst sz es=>toDs cs fun l w=>K (.lst sz es::l) w)
  | .own r n::cs,K=>DT ob r fun o=>(match o with
   | .row e sz es _=>n=es.length/\toDs cs fun l w=>K (.lst sz es::l) ((r,.row e sz es .yes)::w)
   | _=>False)
  | .fn f caps::cs,K=>(match caps with
   | []=>toDs cs fun l w=>K (.val (.func (.func f) #[] #[])::l) w
   | _=>False)
  | _::_,_=>False
def G8 (y:D)(k:Nat)(x:D)(K:D->Prop):Prop:=PY x fun x=>OC y.cells k x.cells fun cs'=>match y with
 | .agg _=>K (.agg cs')
 | _=>match cs' with
  | [z]=>AU (!z.isAgg) (K z)
  | _=>False
def Rj (T:TT)(t:Nat)(a x:AV)(ob:List (Option OB))(K:AV->W->Prop):Prop:=
 AU (BS T t) <| match a with
 | .ref r off=>DT ob r fun o=>(match o with
  | .box cs=>NB x fun vs=>AU (Nat.beq vs.length (T.get t).size) <| OC cs off vs fun cs'=>K .dead [(r,.box cs')]
  | _=>False)
 | .rref r n i k=>DT ob r fun o=>(match o with
  | .row e sz es frz=>n=es.length/\frz.free=true/\(match x with
   | .d x=>AU (Nat.beq x.cells.length (T.get t).size) <|∃y,es.getD i default=y/\G8 y k x fun z=>∃zs,es.set i z=zs/\K .dead [(r,.row e sz zs .no)]
   | _=>False)
  | _=>False)
 | _=>False
def G6 (T:TT)(t r n i k q m:Nat)(ob:List (Option OB))(K:AV->W->Prop):Prop:=
 AU (BS T t) <| toD ob (.own q m) fun d w=>AU (w.all fun q=>!Nat.beq q.1 r) <| DT ob r fun o=>(match o with
  | .row e sz es frz=>n=es.length/\frz.frozen=false/\(AU (Nat.beq d.cells.length (T.get t).size) <|∃y,es.getD i default=y/\G8 y k d fun z=>∃zs,es.set i z=zs/\K .dead (w++[(r,.row e sz zs (.lk i k q m))]))
  | _=>False)
def G7 (T:TT)(t r n i k:Nat)(x:AV)(ob:List (Option OB))(K:AV->W->Prop):Prop:=
 AU (BS T t) <| toD ob x fun d w=>AU (w.all fun q=>!Nat.beq q.1 r) <| DT ob r fun o=>(match o with
  | .row e sz es frz=>n=es.length/\frz.free=true/\(AU (Nat.beq d.cells.length (T.get t).size) <|∃y,es.getD i default=y/\G8 y k d fun z=>∃zs,es.set i z=zs/\K .dead (w++[(r,.row e sz zs .no)]))
  | _=>False)
def PQ (T:TT)(t:Nat)(a x:AV)(ob:List (Option OB))(K:AV->W->Prop):Prop:=match a,x with
 | .rref r n i k,.own q m=>G6 T t r n i k q m ob K
 | .rref r n i k,.agg cs=>G7 T t r n i k (.agg cs) ob K
 | a,x=>Rj T t a x ob K
theorem UE {T:TT}{t:Nat}{a x:AV}{ob:List (Option OB)}{K:AV->W->Prop}(h:PQ T t a x ob K) :
  (∃r n i k q m,a=.rref r n i k/\x=.own q m/\G6 T t r n i k q m ob K)\/(∃r n i k cs,a=.rref r n i k/\x=.agg cs/\G7 T t r n i k (.agg cs) ob K) \/
   (Rj T t a x ob K/\∀ob' (K':AV->W->Prop),Rj T t a x ob' K'->PQ T t a x ob' K'):=by
 unfold PQ at h
 split at h
 ·exact .inl ⟨_,_,_,_,_,_,rfl,rfl,h⟩
 ·exact .inr (.inl ⟨_,_,_,_,_,rfl,rfl,h⟩)
 rename_i hn1 hn2
 refine .inr (.inr ⟨h,fun ob' K' h'=>?_⟩)
 unfold PQ
 split
 ·exact absurd rfl (hn1 _ _ _ _ _ _ rfl)
 ·exact absurd rfl (hn2 _ _ _ _ _ rfl)
 exact h'
def KU (T:TT)(t:Nat)(parts:List (Nat×AV))(K:AV->Prop):Prop:=
 match (T.get t).kind with
 | .struct fs=>go (fun i=>match fs[i]? with
  | some (o,s,_)=>some (o,s)
  | none=>none) parts ((T.get t).zero.map .d) fun cs=>TN cs K
 | .arr n e=>AU (BS T e) <| go (fun i=>match Nat.blt i n with
  | true=>some (i*(T.get e).size,(T.get e).size)
  | false=>none) parts ((T.get t).zero.map .d) fun cs=>TN cs K
 | _=>False where
 go (place:Nat->Option (Nat×Nat)):List (Nat×AV)->List AV->(List AV->Prop)->Prop
  | [],cs,K=>K cs
  | (i,v)::rest,cs,K=>match place i with
   | some (off,size)=>NB v fun vs=>AU (Nat.beq vs.length size) <| OC cs off vs fun cs'=>go place rest cs' K
   | none=>False
def EH (o:Option AV)(dflt:Int)(K:Int->Prop):Prop:=match o with
 | none=>K dflt
 | some (.d (.val (.int _ i)))=>K i
 | _=>False
def QW (sz:Nat)(d:D)(lo hi:Option AV)(K:AV->Prop):Prop:=match d with
 | .lst sz' es=>AU (Nat.beq sz' sz) <| EH lo 0 fun l=>EH hi es.length fun h=>(0<=l/\l<=h/\h<=es.length)/\∃ys,(es.drop l.toNat).take (h.toNat-l.toNat)=ys/\K (.d (.lst sz' ys))
 | _=>False
def On (T:TT)(e:Nat)(x:AV)(lo hi:Option AV)(ob:List (Option OB))(K:AV->W->Prop):Prop:=
 AU (BS T e) <| toD ob x fun d w=>QW (T.get e).size d lo hi fun v=>K v w
def Wn (T:TT)(e r n:Nat)(lo hi:Option AV)(ob:List (Option OB))(K:AV->W->Prop):Prop:=
 AU (BS T e) <| DT ob r fun o=>match o with
  | .row _ sz es _=>AU (Nat.beq sz (T.get e).size) <| EH lo 0 fun l=>EH hi es.length fun h=>(0<=l/\l<=h/\h<=es.length)/\n=es.length/\∃a k,l.toNat=a/\h.toNat-l.toNat=k/\K (.osl r a k n) []
  | _=>False
def RJ (T:TT)(e self r n:Nat)(lo hi mx:Option AV)(ob:List (Option OB))(K:AV->W->Prop):Prop:=
 noO ob self <| AU (BS T e) <| DT ob r fun o=>match o with
  | .row e' sz es frz=>AU (Nat.beq sz (T.get e).size&&frz.free) <| EH lo 0 fun l=>EH hi es.length fun h=>EH mx h fun m=>(0<=l/\l<=h/\h<=m/\m<=es.length)/\n=es.length/\
    ∃zs,(es.drop l.toNat).take (h.toNat-l.toNat)=zs/\K (.own self zs.length) [(r,.gone),(self,.row e' sz zs .no)]
  | _=>False
def Uf (T:TT)(t self:Nat)(x:AV)(lo hi mx:Option AV)(ob:List (Option OB))(K:AV->W->Prop):Prop:=match (T.get t).kind with
 | .slice e=>(match x with
  | .own r n=>(match hi with
   | some h=>RJ T e self r n lo (some h) mx ob K
   | none=>False)
  | _=>False)
 | _=>False
def Wb (T:TT)(t self:Nat)(x:AV)(lo hi:Option AV)(ob:List (Option OB))(K:AV->W->Prop):Prop:=match (T.get t).kind with
 | .slice e=>(match x with
  | .own r n=>On T e (.own r n) lo hi ob K\/Wn T e r n lo hi ob K\/RJ T e self r n lo hi none ob K
  | .d (.nil sz)=>On T e (.d (.nil sz)) lo hi ob K\/(AU (BS T e) <| EH lo 0 fun l=>EH hi 0 fun h=>(l=0/\h=0)/\K (.d (.nil sz)) [])
  | x=>On T e x lo hi ob K)
 | .str=>(match x with
  | .d (.val (.string s))=>EH lo 0 fun l=>EH hi s.size fun h=>(0<=l/\l<=h/\h<=s.size)/\K (.s (s.extract l.toNat h.toNat)) []
  | _=>False)
 | _=>False
def Xs (T:TT)(t self:Nat)(n c:AV)(ob:List (Option OB))(K:AV->W->Prop):Prop:=match (T.get t).kind,n,c with
 | .slice e,.d (.val (.int .i64 n)),.d (.val (.int .i64 c))=>noO ob self <| AU (BS T e&&Nat.blt 0 (T.get e).size&&(match (T.get e).kind.cls with | some true=>true | _=>Nat.beq (T.get e).size 1)) <| (0<=n/\n<=c/\c<=1048576/\(T.get e).bytes<=65536)/\
   ∃z,(match (T.get e).kind.cls with
    | some true=>D.agg (T.get e).zero
    | _=>(T.get e).zero.headD default).norm=z/\∃zs,List.replicate n.toNat z=zs/\K (.own self zs.length) [(self,.row e (T.get e).size zs .no)]
 | _,_,_=>False
def Xr (T:TT)(t u self:Nat)(x n:AV)(ob:List (Option OB))(K:AV->W->Prop):Prop:=match (T.get t).kind,(T.get u).kind,x,n with
 | .slice e,.int .i64,.d (.nil _),.d (.val (.int .i64 n))=>noO ob self <| AU (BS T u&&BS T e&&Nat.blt 0 (T.get e).size&&(match (T.get e).kind.cls with | some true=>true | _=>Nat.beq (T.get e).size 1)) <| (0<n/\n<=1048576/\(T.get e).bytes<=65536)/\
   ∃z,(match (T.get e).kind.cls with
    | some true=>D.agg (T.get e).zero
    | _=>(T.get e).zero.headD default).norm=z/\∃zs,List.replicate n.toNat z=zs/\K (.own self zs.length) [(self,.row e (T.get e).size zs .no)]
 | _,_,_,_=>False
def aP (T:TT)(t:Nat)(x:AV)(K:AV->Prop):Prop:=match (T.get t).kind,x with
 | .slice _,.d (.nil _)=>K (.i 0)
 | _,_=>False
def E0:TK->D->D->Option Bool
 | .int _,.val (.int k a),.val (.int k' b)=>if k=k' then some (a==b) else none
 | .str,.val (.string a),.val (.string b)=>some (a==b)
 | .bool,.val (.bool a),.val (.bool b)=>some (a==b)
 | _,_,_=>none
def CQ (tk:TK)(x:D):List (D×D)->Option (Option D)
 | []=>some none
 | p::l=>match E0 tk x p.1 with
  | some true=>some (some p.2)
  | some false=>CQ tk x l
  | none=>none
def GG (tk:TK)(x v:D):List (D×D)->Option (List (D×D))
 | []=>some [(x,v)]
 | p::l=>match E0 tk x p.1 with
  | some true=>some ((x,v)::l)
  | some false=>(GG tk x v l).map (p::·)
  | none=>none
def Nc (T:TT)(e:Nat):D:=(match (T.get e).kind.cls with
 | some true=>D.agg (T.get e).zero
 | _=>(T.get e).zero.headD default).norm
def I0:TK->Value->Bool
 | .int k,.int k' _=>decide (k'=k)
 | .str,.string _=>true
 | .bool,.bool _=>true
 | _,_=>false
def Ig:TK->Bool
 | .int _ | .str | .bool=>true
 | _=>false
def RF (T:TT)(e:Nat):Bool:=match (T.get e).kind.cls with
 | some true=>true
 | _=>Nat.beq (T.get e).size 1
def XV (T:TT)(t u r k:Nat)(n:AV)(ob:List (Option OB))(K:AV->W->Prop):Prop:=match (T.get t).kind,(T.get u).kind,n with
 | .slice e,.int .i64,.d (.val (.int .i64 n))=>DT ob r fun o=>(match o with
  | .row e' sz es frz=>AU (Nat.beq e' e&&Nat.beq sz (T.get e).size&&frz.free&&BS T u&&BS T e&&RF T e) <|
    (k=es.length/\0<=n/\n<=1048576/\(T.get e).bytes<=65536/\(es.length+n.toNat)*(T.get e).bytes<=2^47/\es.length+n.toNat<=2^47)/\
     ∃z,Nc T e=z/\∃zs,es++List.replicate n.toNat z=zs/\K (.own r zs.length) [(r,.row e' sz zs .no)]
  | _=>False)
 | _,_,_=>False
def Xb (T:TT)(t u self:Nat)(x n:AV)(ob:List (Option OB))(K:AV->W->Prop):Prop:=match x with
 | .own r k=>XV T t u r k n ob K
 | .d d=>Xr T t u self (.d d) n ob K
 | _=>False
def Rr (T:TT)(e:Nat):Bool:=match (T.get e).kind,(T.get e).zero with
 | .slice _,[.nil _]=>true
 | _,_=>false
def Xq (T:TT)(t:Nat)(x key:AV)(ok:Bool)(ob:List (Option OB))(K:AV->Prop):Prop:=match (T.get t).kind,x,key with
 | .map k e,.mp r,.d (.val kv)=>AU (I0 (T.get k).kind kv&&Ig (T.get k).kind&&BS T k&&BS T e&&Nat.blt 0 (T.get e).size&&RF T e) <| DT ob r fun o=>(match o with
  | .map _ _ es=>∃q,CQ (T.get k).kind (.val kv) es=some q/\∃v,q.getD (Nc T e)=v/\∃b,q.isSome=b/\K (match ok with
   | true=>.tup [.d v,.b b]
   | false=>.d v)
  | .amap _ _ es kv' r' n'=>(∃q,CQ (T.get k).kind (.val kv) es=some q/\∃v,q.getD (Nc T e)=v/\∃b,q.isSome=b/\K (match ok with
   | true=>.tup [.d v,.b b]
   | false=>.d v))\/(kv=kv'/\ok=false/\(∃q,CQ (T.get k).kind (.val kv) es=some q)/\Rr T e=true/\K (.own r' n'))
  | _=>False)
 | _,_,_=>False
def X1 (T:TT)(G:Nat->Option (List (D×D)))(t:Nat)(a:AV)(ob:List (Option OB))(K:AV->Prop):Prop:=match a with
 | .gl g=>(match (T.get t).kind,G g with
  | .map _ _,some _=>K (.gv g)
  | _,_=>False)
 | a=>Va T t a ob K
def ZH (T:TT)(G:Nat->Option (List (D×D)))(t g:Nat)(key:AV)(ok:Bool)(K:AV->Prop):Prop:=match (T.get t).kind,G g,key with
 | .map k e,some es,.d (.val kv)=>AU (I0 (T.get k).kind kv&&Ig (T.get k).kind&&BS T k&&BS T e&&Nat.blt 0 (T.get e).size&&RF T e) <|
   ∃q,CQ (T.get k).kind (.val kv) es=some q/\∃v,q.getD (Nc T e)=v/\∃b,q.isSome=b/\K (match ok with
   | true=>.tup [.d v,.b b]
   | false=>.d v)
 | _,_,_=>False
def Xm (T:TT)(G:Nat->Option (List (D×D)))(t:Nat)(x key:AV)(ok:Bool)(ob:List (Option OB))(K:AV->Prop):Prop:=match x with
 | .gv g=>ZH T G t g key ok K
 | x=>Xq T t x key ok ob K
def Lp (T:TT)(t:Nat)(x key v:AV)(ob:List (Option OB))(K:AV->W->Prop):Prop:=match (T.get t).kind,x,key with
 | .map k _,.mp r,.d (.val kv)=>AU (I0 (T.get k).kind kv&&Ig (T.get k).kind&&BS T k) <| toD ob v fun d w=>AU (w.all fun q=>!Nat.beq q.1 r) <| DT ob r fun o=>(match o with
  | .map k' e' es=>∃zs,GG (T.get k).kind (.val kv) d es=some zs/\K .dead (w++[(r,.map k' e' zs)])
  | .amap k' e' es _ _ _=>∃zs,GG (T.get k).kind (.val kv) d es=some zs/\K .dead (w++[(r,.map k' e' zs)])
  | _=>False)
 | _,_,_=>False
def NX (T:TT)(t:Nat)(x key:AV)(r' n:Nat)(ob:List (Option OB))(K:AV->W->Prop):Prop:=match (T.get t).kind,x,key with
 | .map k _,.mp r,.d (.val kv)=>AU (I0 (T.get k).kind kv&&Ig (T.get k).kind&&BS T k) <| toD ob (.own r' n) fun d w=>AU (w.all fun q=>!Nat.beq q.1 r) <| DT ob r fun o=>(match o with
  | .map k' e' es=>∃zs,GG (T.get k).kind (.val kv) d es=some zs/\K .dead (w++[(r,.amap k' e' zs kv r' n)])
  | .amap k' e' es _ _ _=>∃zs,GG (T.get k).kind (.val kv) d es=some zs/\K .dead (w++[(r,.amap k' e' zs kv r' n)])
  | _=>False)
 | _,_,_=>False
def NZ (T:TT)(t:Nat)(x key v:AV)(ob:List (Option OB))(K:AV->W->Prop):Prop:=match v with
 | .own r n=>Lp T t x key (.own r n) ob K\/NX T t x key r n ob K
 | v=>Lp T t x key v ob K
def E4 (T:TT)(t len self:Nat)(parts:List (Nat×AV))(ob:List (Option OB))(K:AV->W->Prop):Prop:=
 match (T.get t).kind with
 | .slice e=>noO ob self <| AU (Nat.blt 0 (T.get e).size&&Nat.ble (len*(T.get e).size) 16777216) <| AU (BS T e) <|
  elems (T.get e).size 0 parts fun es w=>AU (Nat.beq es.length len) <| K (.own self len) (w++[(self,.row e (T.get e).size es .no)])
 | _=>False where
 elems (sz:Nat):Nat->List (Nat×AV)->(List D->W->Prop)->Prop
  | _,[],K=>K [] []
  | i,(j,v)::rest,K=>match Nat.beq i j with
   | true=>toD ob v fun x w=>AU (Nat.beq x.cells.length sz) <| elems sz (i+1) rest fun l w'=>K (x::l) (w++w')
   | false=>False
def rowT (T:TT)(t:Nat):Bool:=match (T.get t).kind.cls with
 | some true=>true
 | _=>false
def Lm (T:TT)(t len self:Nat)(cs:List AV)(ob:List (Option OB))(K:AV->W->Prop):Prop:=
 match (T.get t).kind with
 | .slice e=>noO ob self <| AU (Nat.beq len 1&&rowT T e&&Nat.beq (T.get e).size cs.length&&Nat.blt 0 (T.get e).size&&Nat.ble (T.get e).size 65536) <| K (.own self 1) [(self,.box cs)]
 | _=>False
def Jv (T:TT)(t len self:Nat)(cs:List AV)(ob:List (Option OB))(K:AV->W->Prop):Prop:=
 match (T.get t).kind with
 | .slice e=>noO ob self <| AU (Nat.beq len 1&&Nat.beq cs.length (T.get e).size&&Nat.blt 0 (T.get e).size&&Nat.ble (T.get e).size 65536&&BS T e) <|
   ∃j q m,cs[j]?=some (.own q m)/\toD ob (.agg cs) fun d w=>AU (w.all fun q=>!Nat.beq q.1 self) <| K (.own self 1) (w++[(self,.row e (T.get e).size [d] (.lk 0 j q m))])
 | _=>False
def If (T:TT)(t len self:Nat)(parts:List (Nat×AV))(ob:List (Option OB))(K:AV->W->Prop):Prop:=match parts with
 | [(0,.agg cs)]=>E4 T t len self [(0,.agg cs)] ob K\/Lm T t len self cs ob K\/Jv T t len self cs ob K
 | parts=>E4 T t len self parts ob K
def U2 (ob:List (Option OB))(y:AV)(K:Nat->List D->Prop):Prop:=match y with
 | .d (.lst sz es)=>K sz es
 | .d (.nil sz)=>K sz []
 | .own r n=>DT ob r fun o=>(match o with
  | .row _ sz es _=>n=es.length/\K sz es
  | _=>False)
 | _=>False
def Ta (ob:List (Option OB))(y:AV)(K:Nat->List D->Prop):Prop:=match y with
 | .osl r a n m=>DT ob r fun o=>(match o with
  | .row _ sz es _=>m=es.length/\∃zs,(es.drop a).take n=zs/\K sz zs
  | _=>False)
 | y=>U2 ob y K
def Zd (ob:List (Option OB))(y:AV)(k sz:Nat)(frz:FZ)(K:FZ->Prop):Prop:=match frz with
 | .yes=>K .yes
 | _=>(match y with
  | .own q n=>(match ob.getD q none with
   | some (.row _ sz' ys (.lk i j q' m))=>(match Nat.beq sz' sz with
    | true=>n=ys.length/\K (.lk (k+i) j q' m)
    | false=>K .no)
   | _=>K .no)
  | _=>K .no)
def QP (T:TT)(st:Nat)(self:Nat)(x y:AV)(ob:List (Option OB))(K:AV->W->Prop):Prop:=
 match (T.get st).kind with
 | .slice e=>Ta ob y fun sz' ys=>(match x with
  | .d (.nil _)=>noO ob self <| AU (Nat.beq sz' (T.get e).size&&Nat.blt 0 (T.get e).size) <| AU (BS T e) <| (ys.length*(T.get e).bytes<=2^47/\ys.length<=2^47)/\
    K (.own self ys.length) [(self,.row e (T.get e).size ys .no)]
  | .own r n=>DT ob r fun o=>(match o with
   | .row e' sz es frz=>AU (Nat.beq e' e&&Nat.beq sz' sz&&Nat.beq sz (T.get e).size&&Nat.blt 0 sz) <| AU (BS T e) <| n=es.length/\((es.length+ys.length)*(T.get e).bytes<=2^47/\es.length+ys.length<=2^47)/\
     ∃zs,es++ys=zs/\Zd ob y es.length sz frz fun f=>K (.own r zs.length) [(r,.row e' sz zs f)]
   | _=>False)
  | .osl r a n m=>DT ob r fun o=>(match o with
   | .row e' sz es frz=>AU (Nat.beq e' e&&Nat.beq sz' sz&&Nat.beq sz (T.get e).size&&Nat.blt 0 sz&&frz.free) <| AU (BS T e) <| noO ob self <| a=0/\m=es.length/\n<=es.length/\((n+ys.length)*(T.get e).bytes<=2^47/\n+ys.length<=2^47)/\
     ∃zs,es.take n++ys=zs/\K (.own self zs.length) [(r,.gone),(self,.row e' sz zs .no)]
   | _=>False)
  | _=>False)
 | _=>False
def Yq (T:TT)(t:Nat)(x:AV)(K:AV->Prop):Prop:=
 match (T.get t).kind,x with
 | .slice _,.d (.lst _ es)=>∃n:Nat,es.length=n/\K (.i n)
 | .slice _,.d (.nil _)=>K (.i 0)
 | .slice _,.own _ n=>∃m:Nat,n=m/\K (.i m)
 | .slice _,.osl _ _ n _=>∃m:Nat,n=m/\K (.i m)
 | .str,.d (.val (.string s))=>K (.i s.size)
 | .arr n _,_=>K (.i n)
 | _,_=>False
def Io (T:TT)(t:Nat)(x y:AV)(ob:List (Option OB))(K:AV->Prop):Prop:=
 match y with
 | .d (.val (.int _ i))=>(match (T.get t).kind,x with
  | .slice e,.d (.lst sz es)=>AU (BS T e) <| AU (Nat.beq sz (T.get e).size) <| (0<=i/\i<es.length)/\∃v,es.getD i.toNat default=v/\v.cells.length=sz/\K (.eref v.cells)
  | .slice e,.own r n=>DT ob r fun o=>(match o with
   | .row _ sz es _=>AU (BS T e) <| AU (Nat.beq sz (T.get e).size) <| n=es.length/\(0<=i/\i<es.length)/\K (.rref r n i.toNat 0)
   | .box cs=>AU (BS T e) <| AU (Nat.beq cs.length (T.get e).size) <| i=0/\K (.ref r 0)
   | _=>False)
  | .arr n e,.ref r off=>AU (BS T e) <| AU (Nat.ble 2 n) <| ((0<=i/\i<n)/\K (.ref r (off+i.toNat*(T.get e).size))) \/
    AU (Nat.beq (T.get e).size 1) ((0<=i/\i<n)/\∃j,i.toNat=j/\K (.rref r n j off))
  | _,_=>False)
 | _=>False
def Jf (T:TT)(t r a n m:Nat)(y:AV)(ob:List (Option OB))(K:AV->Prop):Prop:=
 match y with
 | .d (.val (.int _ i))=>(match (T.get t).kind with
  | .slice e=>DT ob r fun o=>(match o with
   | .row _ sz es _=>AU (BS T e) <| AU (Nat.beq sz (T.get e).size) <| m=es.length/\(0<=i/\i<n)/\∃j,a+i.toNat=j/\K (.rref r m j 0)
   | _=>False)
  | _=>False)
 | _=>False
def J3 (T:TT)(t:Nat)(x y:AV)(ob:List (Option OB))(K:AV->Prop):Prop:=match x with
 | .osl r a n m=>Jf T t r a n m y ob K
 | x=>Io T t x y ob K
def XZ (T:TT)(t:Nat)(cs:List AV)(off:Nat)(K:AV->Prop):Prop:=
 match (T.get t).kind.cls with
 | some true=>Pv cs off fun cs=>AU (Nat.ble (T.get t).size cs.length) <| ON cs (T.get t).size fun l=>TN l K
 | some false=>(match cs[off]? with
  | some a=>a.force K
  | none=>False)
 | none=>False
def JS (x:AV)(K:List AV->Prop):Prop:=match x with
 | .d (.agg cs)=>QH (fun c K=>K (.d c)) cs K
 | .agg cs=>K cs
 | _=>False
def T0 (T:TT)(t:Nat)(x y:AV)(K:AV->Prop):Prop:=
 match y with
 | .d (.val (.int _ i))=>(match (T.get t).kind,x with
  | .str,.d (.val (.string s))=>(0<=i/\i<s.size)/\∃c,s.toList.getD i.toNat 0=c/\K (.u c.toNat)
  | .arr n e,x=>JS x fun cs=>(0<=i/\i<n)/\(match (T.get e).kind.cls with
   | some false=>∃a,cs[i.toNat*(T.get e).size]?=some a/\a.force K
   | _=>False)
  | _,_=>False)
 | _=>False
def UU (T:TT)(t i:Nat)(x:AV)(K:AV->Prop):Prop:=
 match (T.get t).kind with
 | .struct fs=>(match fs[i]? with
  | some (o,_,ft)=>JS x fun cs=>XZ T ft cs o K
  | none=>False)
 | _=>False
def Xz (T:TT)(src dst:Nat)(x:AV)(ob:List (Option OB))(K:AV->Prop):Prop:=
 AU (T.get src).kind.cls.isSome <| match (T.get dst).kind,x with
 | .int k,.d (.val (.int _ n))=>∃r,k.wrap n=r/\K (.d (.val (.int k r)))
 | .str,.d (.val (.string s))=>K (.s s)
 | .str,x=>(match (T.get src).kind with
  | .slice e=>(match (T.get e).kind with
   | .int .u8=>AU (Nat.beq (T.get e).size 1) <| Ta ob x fun sz es=>AU (Nat.beq sz 1) <|∃l:List UInt8,es=l.map (fun c=>.u c.toNat)/\K (.s ⟨l.toArray⟩)
   | _=>False)
  | _=>False)
 | _,_=>False
def isNil:AV->Bool
 | .d (.val (.slice Option.none 0 0))=>true
 | _=>false
def VG (T:TT)(ty self:Nat)(x:AV)(ob:List (Option OB))(K:AV->W->Prop):Prop:=
 match isNil x with
 | true=>(match (T.get ty).kind with
  | .slice e=>(match ob[self]? with
   | some none=>AU (Nat.blt 0 (T.get e).size) <| K (.own self 0) [(self,.row e (T.get e).size [] .no)]
   | _=>K (.d (.nil (T.get e).size)) [])
  | _=>False)
 | false=>x.force fun x=>K x []
def LN (keep:Bool)(ob:List (Option OB))(a:AV)(ρ:List Nat)(K:AV->List Nat->W->Prop):Prop:=match a with
 | .d x=>(match keep,x with
  | true,.nil sz=>K (.d (.nil sz)) ρ []
  | _,x=>PY x fun x=>K (.d x) ρ [])
 | .own r n=>(match keep with
  | true=>refK r ρ fun i ρ=>K (.own i n) ρ []
  | false=>toD ob (.own r n) fun x w=>K (.d x) ρ w)
 | .agg cs=>toD ob (.agg cs) fun x w=>K (.d x) ρ w
 | .ref r off=>refK r ρ fun i ρ=>K (.ref i off) ρ []
 | .mp r=>refK r ρ fun i ρ=>K (.mp i) ρ []
 | .it f r=>refK r ρ fun i ρ=>K (.it f i) ρ []
 | .eref cs=>K (.eref cs) ρ []
 | .fn f caps=>capsK caps ρ fun caps ρ=>K (.fn f caps) ρ []
 | _=>False where
 refK (r:Nat) (ρ:List Nat) (K:Nat->List Nat->Prop):Prop:=go r ρ 0 (fun i=>K i ρ) (fun n=>K n (ρ++[r]))
 go (r:Nat):List Nat->Nat->(Nat->Prop)->(Nat->Prop)->Prop
  | [],n,_,N=>N n
  | x::ρ,n,F,N=>match Nat.beq x r with
   | true=>F n
   | false=>go r ρ (n+1) F N
 capsK:List AV->List Nat->(List AV->List Nat->Prop)->Prop
  | [],ρ,K=>K [] ρ
  | .ref r off::cs,ρ,K=>refK r ρ fun i ρ=>capsK cs ρ fun cs ρ=>K (.ref i off::cs) ρ
  | _::_,_,_=>False
def RY (keep:List Bool)(ob:List (Option OB)):List AV->List Nat->(List AV->List Nat->W->Prop)->Prop
 | [],ρ,K=>K [] ρ []
 | a::asz,ρ,K=>LN (keep.headD false) ob a ρ fun a' ρ w=>RY keep.tail ob asz ρ fun asz' ρ w'=>K (a'::asz') ρ (w++w')
def Hq (ob:List (Option OB)):List Nat->(List OB->Prop)->Prop
 | [],K=>K []
 | r::ρ,K=>DT ob r fun o=>match o with
  | .box cs=>cellsD cs fun cs'=>Hq ob ρ fun l=>K (.box cs'::l)
  | .row e sz es frz=>AU (!frz.linked) <| Hq ob ρ fun l=>K (.row e sz es frz::l)
  | .map k e es=>Hq ob ρ fun l=>K (.map k e es::l)
  | .amap ..=>False
  | .gone=>False where
 cellsD:List AV->(List AV->Prop)->Prop
  | [],K=>K []
  | .d x::cs,K=>cellsD cs fun l=>K (.d x::l)
  | _::_,_=>False
def ND (ρ:List Nat)(self:Nat)(a:AV)(K:AV->Prop):Prop:=match a with
 | .d x=>K (.d x)
 | .ref i off=>K (.ref (ρ.getD i self) off)
 | .own i n=>K (.own (ρ.getD i self) n)
 | .mp i=>K (.mp (ρ.getD i self))
 | .it f i=>K (.it f (ρ.getD i self))
 | .tup vs=>renTup ρ self vs fun l=>K (.tup l)
 | .agg vs=>renTup ρ self vs fun l=>K (.agg l)
 | _=>False where
 renTup (ρ:List Nat) (self:Nat):List AV->(List AV->Prop)->Prop
  | [],K=>K []
  | .d x::l,K=>renTup ρ self l fun l'=>K (.d x::l')
  | .ref i off::l,K=>renTup ρ self l fun l'=>K (.ref (ρ.getD i self) off::l')
  | .own i n::l,K=>renTup ρ self l fun l'=>K (.own (ρ.getD i self) n::l')
  | _::_,_=>False
def BW:OB->Bool
 | .box cs=>cs.all fun | .d _=>true | _=>false
 | .row _ _ _ f=>!f.linked
 | .map _ _ _=>true
 | .amap ..=>false
 | .gone=>true
def KG (ρ:List Nat)(self:Nat)(objs:List OB)(K:W->Prop):Prop:=match ρ,objs with
 | [],[]=>K []
 | [],[o]=>match BW o with
  | true=>K [(self,o)]
  | false=>False
 | r::ρ,o::os=>match BW o with
  | true=>KG ρ self os fun w=>K ((r,o)::w)
  | false=>False
 | _,_=>False
def LO (cx:Cx)(f:FuncId)(self:Nat)(args:List AV)(ob:List (Option OB))(K:AV->W->Prop):Prop:=
 RY (cx.keep f) ob args [] fun args' ρ w=>AU (apartW w ρ) <| Hq ob ρ fun objs=>
  ∃res objs',cx.C f args' objs res objs'/\(objs'.length=ρ.length\/ob[self]?=some none)/\
   ND ρ self res fun res'=>KG ρ self objs' fun w'=>K res' (w++w') where
 apartW (w:W) (ρ:List Nat):Bool:=w.all fun x=>ρ.all fun r=>match Nat.beq r x.1 with
  | true=>false
  | false=>true
def Vb (cx:Cx)(f:FuncId)(self:Nat)(args:List AV)(ob:List (Option OB))(K:AV->W->Prop):Prop:=LO cx f self args ob K
theorem V1 (cx:Cx)(f:FuncId)(self:Nat)(args:List AV)(ob:List (Option OB))(K:AV->W->Prop):Vb cx f self args ob K=LO cx f self args ob K:=rfl
def TR:List Nat->List OB->(W->Prop)->Prop
 | [],[],K=>K []
 | r::ρ,o::os,K=>(match BW o with
  | true=>TR ρ os fun w=>K ((r,o)::w)
  | false=>False)
 | _,_,_=>False
def Ni:List Nat->Nat->Bool
 | [],_=>false
 | x::l,r=>Nat.beq r x || Ni l r
def Qj:List Nat->Bool
 | []=>true
 | x::l=>!Ni l x&&Qj l
def Y9 (ob:List (Option OB))(news:List Nat):Bool:=Qj news&&news.all fun r=>match ob[r]? with
 | some none=>true
 | _=>false
def PU:D->Bool
 | .val _=>true
 | .agg cs=>cs.all fun | .val _=>true | _=>false
 | _=>false
def XK:AV->Bool
 | .d x=>PU x
 | .tup vs=>vs.all fun | .d x=>PU x | _=>false
 | _=>false
def ZI (cx:Cx)(f:FuncId)(args:List AV)(ob:List (Option OB))(K:AV->W->Prop):Prop:=
 RY (cx.keep f) ob args [] fun args' ρ w=>AU (LO.apartW w ρ) <| Hq ob ρ fun objs=>
  ∃(res:AV) (objs':List OB) (b:Option (List Nat)),cx.C f args' objs res objs'/\(match b with
   | some news=>AU (Y9 ob news) <| ND (ρ++news) 0 res fun res'=>TR (ρ++news) objs' fun w'=>K res' (w++w')
   | none=>AU (ρ.isEmpty&&objs'.isEmpty&&XK res) (K res []))
def Uo (T:TT)(t r a n m:Nat)(ob:List (Option OB))(K:AV->W->Prop):Prop:=match (T.get t).kind with
 | .slice e=>DT ob r fun o=>(match o with
  | .row e' sz es frz=>AU (BS T e&&Nat.beq sz (T.get e).size&&frz.free&&RF T e) <| m=es.length/\∃z,Nc T e=z/\∃zs,es.take a++List.replicate n z++es.drop (a+n)=zs/\K (.tup []) [(r,.row e' sz zs .no)]
  | _=>False)
 | _=>False
def VS (T:TT)(e r a n m sz':Nat)(ys:List D)(ob:List (Option OB))(K:AV->W->Prop):Prop:=DT ob r fun o=>(match o with
  | .row e' sz es frz=>AU (BS T e&&Nat.beq sz (T.get e).size&&Nat.beq sz' sz&&frz.free) <| m=es.length/\∃zs,es.take a++ys.take n++es.drop (a+min ys.length n)=zs/\∃k:Nat,min ys.length n=k/\K (.i k) [(r,.row e' sz zs .no)]
  | _=>False)
def X0 (T:TT)(t:Nat)(x y:AV)(ob:List (Option OB))(K:AV->W->Prop):Prop:=match (T.get t).kind with
 | .slice e=>Ta ob y fun sz' ys=>(match x with
  | .own r n=>VS T e r 0 n n sz' ys ob K
  | .osl r a n m=>VS T e r a n m sz' ys ob K
  | _=>False)
 | _=>False
def aL (args:List AV)(K:AV->Prop):Prop:=match args with
 | [.d (.val (.int k x)),.d (.val (.int _ y))]=>∃r,(if y > x then y else x)=r/\K (.d (.val (.int k r)))
 | _=>False
def bA (args:List AV)(K:AV->Prop):Prop:=match args with
 | [.d (.val (.int k x)),.d (.val (.int _ y))]=>∃r,(if y<x then y else x)=r/\K (.d (.val (.int k r)))
 | _=>False
def HS (T:TT)(t:Nat)(a:AV):AV:=match isNil a with
 | true=>(match (T.get t).kind with
  | .slice e=>.d (.nil (T.get e).size)
  | _=>a)
 | false=>a
def Gl (T:TT)(av:Operand->AV):List Operand->List Nat->List AV
 | x::xs,t::ts=>HS T t (av x)::Gl T av xs ts
 | xs,_=>xs.map av
def fnK (a:AV)(K:FuncId->List AV->Prop):Prop:=match a with
 | .fn f caps=>K f caps
 | .d (.val (.func (.func f) p q))=>(match p.toList,q.toList with
  | [],[]=>K f []
  | _,_=>False)
 | _=>False
theorem UG {a:AV}{K:FuncId->List AV->Prop}(h:fnK a K) :∃f caps,K f caps/\(a=.fn f caps\/(a=.d (.val (.func (.func f) #[] #[]))/\caps=[])):=by
 unfold fnK at h
 split at h
 ·exact⟨_,_,h,.inl rfl⟩
 ·rename_i f p q
  split at h
  ·rename_i hp hq
   have hp:p=#[]:=by cases p;simp_all
   have hq:q=#[]:=by cases q;simp_all
   subst hp hq
   exact⟨_,_,h,.inr ⟨rfl,rfl⟩⟩
  exact h.elim
 exact h.elim
def opK (cx:Cx)(o:Oper)(av:Operand->AV)(ob:List (Option OB))(K:AV->W->Prop):Prop:=
 match o.op with
 | .move x | .assign x=>(match x with
  | .const v=>VG cx.T o.type (cx.np+o.dst.getD 0) (av (.const v)) ob K
  | x=>(av x).force fun v=>K v [])
 | .pick c a b=>ZN (av c) (av a) (av b) fun v=>K v []
 | .alloc t=>AU (BS cx.T t) <| noO ob (cx.np+o.dst.getD 0) <| K (.ref (cx.np+o.dst.getD 0) 0) [(cx.np+o.dst.getD 0,.box ((cx.T.get t).zero.map .d))]
 | .box t x=>noO ob (cx.np+o.dst.getD 0) <| NB (av x) fun cs=>AU (Nat.beq cs.length (cx.T.get t).size) <| K (.ref (cx.np+o.dst.getD 0) 0) [(cx.np+o.dst.getD 0,.box cs)]
 | .build t parts=>KU cx.T t (parts.toList.map fun (i,x)=>(i,av x)) fun v=>K v []
 | .buildSlice t len parts=>If cx.T t len (cx.np+o.dst.getD 0) (parts.toList.map fun (i,x)=>(i,av x)) ob K
 | .load t x=>X1 cx.T cx.G t (av x) ob fun v=>K v []
 | .store t a x=>PQ cx.T t (av a) (HS cx.T t (av x)) ob K
 | .nilCheck x=>(match av x with
  | .ref r off=>K (.ref r off) []
  | .eref cs=>K (.eref cs) []
  | .rref r n i k=>K (.rref r n i k) []
  | .fn f caps=>K (.fn f caps) []
  | .d (.val (.func (.func g) p q))=>K (.d (.val (.func (.func g) p q))) []
  | _=>False)
 | .binOp op t x y _=>cU cx.T op t (av x) (av y) fun v=>K v []
 | .unOp op _ x=>unK op (av x) fun v=>K v []
 | .convert src dst x=>Xz cx.T src dst (av x) ob fun v=>K v []
 | .fieldAddr t x i=>OD cx.T t i fun off size _=>(match av x with
  | .ref r o=>K (.ref r (o+off)) []
  | .eref cs=>Pv cs off fun cs=>ON cs size fun cs=>K (.eref cs) []
  | .rref r n i k=>DT ob r fun o=>(match o with
   | .row _ _ es _=>n=es.length/\K (.rref r n i (k+off)) []
   | _=>False)
  | _=>False)
 | .field t x i=>UU cx.T t i (av x) fun v=>K v []
 | .indexAddr t x y=>J3 cx.T t (av x) (av y) ob fun v=>K v []
 | .index t x y=>T0 cx.T t (av x) (av y) fun v=>K v []
 | .makeMap t none=>(match (cx.T.get t).kind with
  | .map k e=>noO ob (cx.np+o.dst.getD 0) <| K (.mp (cx.np+o.dst.getD 0)) [(cx.np+o.dst.getD 0,.map k e [])]
  | _=>False)
 | .lookup t x y ok=>Xm cx.T cx.G t (av x) (av y) ok ob fun v=>K v []
 | .mapUpdate t m k v | .insert t m k v=>NZ cx.T t (av m) (av k) (av v) ob K
 | .slice t x lo hi none=>Wb cx.T t (cx.np+o.dst.getD 0) (HS cx.T t (av x)) (lo.map av) (hi.map av) ob K
 | .slice t x lo hi (some m)=>Uf cx.T t (cx.np+o.dst.getD 0) (av x) (lo.map av) (hi.map av) (some (av m)) ob K
 | .makeSlice t n c=>Xs cx.T t (cx.np+o.dst.getD 0) (av n) (av c) ob K
 | .extract x i=>(match av x with
  | .tup vs=>(match vs[i]? with
   | some a=>a.force fun v=>K v []
   | none=>False)
  | _=>False)
 | .makeFunc (.func f) first caps=>(match first.toList with
  | []=>K (.fn f (caps.toList.map av)) []
  | _=>False)
 | .call c=>(match c.callee with
  | .value x=>fnK (av x) fun f caps=>Vb cx f (cx.np+o.dst.getD 0) (Gl cx.T av c.args.toList c.argTypes.toList++caps) ob K
  | .builtin .len=>(match c.args.toList,c.argTypes.toList with
   | [x],[t]=>Yq cx.T t (HS cx.T t (av x)) fun v=>K v []
   | _,_=>False)
  | .builtin .append=>(match c.args.toList,c.argTypes.toList with
   | [x,y],[t,u]=>(match Nat.beq t u with
    | true=>QP cx.T t (cx.np+o.dst.getD 0) (HS cx.T t (av x)) (HS cx.T t (av y)) ob K
    | false=>Xb cx.T t u (cx.np+o.dst.getD 0) (HS cx.T t (av x)) (av y) ob K)
   | _,_=>False)
  | .builtin .cap=>(match c.args.toList,c.argTypes.toList with
   | [x],[t]=>aP cx.T t (HS cx.T t (av x)) fun v=>K v []
   | _,_=>False)
  | .builtin .clear=>(match c.args.toList,c.argTypes.toList with
   | [x],[t]=>(match av x with
    | .osl r a n m=>Uo cx.T t r a n m ob K
    | _=>False)
   | _,_=>False)
  | .builtin .copy=>(match c.args.toList,c.argTypes.toList with
   | [x,y],[t,_]=>X0 cx.T t (av x) (av y) ob K
   | _,_=>False)
  | .builtin .max=>(match c.args.toList with
   | [x,y]=>aL [av x,av y] fun v=>K v []
   | _=>False)
  | .builtin .min=>(match c.args.toList with
   | [x,y]=>bA [av x,av y] fun v=>K v []
   | _=>False)
  | _=>False)
 | _=>False
def Lx (tm:List AV)(dst:Option Nat)(v:AV)(K:List AV->Prop):Prop:=match dst with
 | some d=>L9 tm d v K
 | none=>K tm
def wrK (ob:List (Option OB)):W->(List (Option OB)->Prop)->Prop
 | [],K=>K ob
 | (r,o)::w,K=>L9 ob r (some o) fun ob=>wrK ob w K
def Jp (ops:Array Oper)(o:Oper)(tm:List AV)(yes no:List AV->Prop):Prop:=match o.guard with
 | none=>yes tm
 | some (j,want)=>match (ops[j]?).bind (·.dst) with
  | some t=>(match tm.getD t .dead with
   | .d (.val (.bool b))=>(match want with
    | true=>KN b (L9 tm t (.b true) yes) (L9 tm t (.b false) no)
    | false=>KN b (L9 tm t (.b true) no) (L9 tm t (.b false) yes))
   | .tup _=>no tm
   | _=>False)
  | none=>False
def UK (T:TT)(t self:Nat)(cs:List AV)(y:AV)(ob:List (Option OB))(K:AV->W->Prop):Prop:=match (T.get t).kind with
 | .slice e=>noO ob self <| AU (rowT T e&&Nat.beq (T.get e).size cs.length&&Nat.blt 0 (T.get e).size&&Nat.ble (T.get e).bytes 65536) <| Ta ob y fun sz ys=>AU (Nat.beq sz (T.get e).size&&!ys.isEmpty) <| ys.length<=1000000/\
   toD ob (.agg cs) fun d w=>AU (w.all fun q=>!Nat.beq q.1 self) <| K (.own self (ys.length+1)) (w++[(self,.row e (T.get e).size (d::ys) .no)])
 | _=>False
def opX (cx:Cx)(o:Oper)(av:Operand->AV)(ob:List (Option OB))(K:AV->W->Prop):Prop:=match o.op with
 | .binOp op ty x y yt=>(match av x,av y with
  | .d (.lst sz es),.d (.val (.slice none 0 0))=>(match op,(cx.T.get ty).kind with
   | .eql,.slice _=>K (.b false) []/\(es.length=0->K (.b true) [])
   | _,_=>False)
  | _,_=>opK cx o av ob K)
 | .store ty a x=>(match av a,av x with
  | .rref r n i k,.own r' n'=>G7 cx.T ty r n i k (.own r' n') ob K\/G6 cx.T ty r n i k r' n' ob K
  | .rref r n i k,.agg cs=>G7 cx.T ty r n i k (.agg cs) ob K
  | _,_=>opK cx o av ob K)
 | .call c=>(match c.callee with
  | .builtin .append=>(match c.args.toList,c.argTypes.toList with
   | [x,y],[t,u]=>(match av x with
    | .own r _=>(match ob.getD r none with
     | some (.box cs)=>AU (Nat.beq t u) <| UK cx.T t (cx.np+o.dst.getD 0) cs (av y) ob K
     | _=>opK cx o av ob K)
    | _=>opK cx o av ob K)
   | _,_=>opK cx o av ob K)
  | .value x=>fnK (av x) fun f caps=>ZI cx f (Gl cx.T av c.args.toList c.argTypes.toList++caps) ob K
  | _=>opK cx o av ob K)
 | _=>opK cx o av ob K
def stepG (ops:Array Oper)(o:Oper)(F:(Operand->AV)->List (Option OB)->(AV->W->Prop)->Prop)(st:ASt)(K:ASt->Prop):Prop:=
 match st with
 | ⟨tm,ob⟩=>Jp ops o tm
  (fun tm=>F (evO tm) ob fun v w=>Lx tm o.dst v fun tm=>wrK ob w fun ob=>K ⟨tm,ob⟩)
  (fun tm=>Lx tm o.dst (.tup []) fun tm=>K ⟨tm,ob⟩)
def MG (cx:Cx)(ops:Array Oper)(o:Oper)(st:ASt)(K:ASt->Prop):Prop:=
 match st with
 | ⟨tm,ob⟩=>Jp ops o tm
  (fun tm=>opK cx o (evO tm) ob fun v w=>Lx tm o.dst v fun tm=>wrK ob w fun ob=>K ⟨tm,ob⟩)
  (fun tm=>Lx tm o.dst (.tup []) fun tm=>K ⟨tm,ob⟩)
inductive AE where
 | normal | exit (id:Nat)|ret
def AV.refs:AV->List Nat
 | .ref r _=>[r]
 | .own r _=>[r]
 | .mp r=>[r]
 | .it _ r=>[r]
 | .rref r _ _ _=>[r]
 | .osl r _ _ _=>[r]
 | .agg cs=>refsL cs
 | .fn _ cs=>refsL cs
 | .tup cs=>refsL cs
 | _=>[] where
 refsL:List AV->List Nat
  | []=>[]
  | a::l=>a.refs++refsL l
def OB.refs:OB->List Nat
 | .box cs=>AV.refs.refsL cs
 | .row _ _ _ f=>f.refs
 | .map _ _ _=>[]
 | .amap _ _ _ _ r _=>[r]
 | .gone=>[]
def CU (o:Oper):List Nat:=(o.after.toList.filter (Region.binds .any)).map (·.on)
def IX:List Oper->List (List Nat)->List (List Nat)
 | [],acc=>acc
 | o::l,acc=>IX l (((CU o).flatMap fun j=>j::acc.getD (acc.length-1-j) [])::acc)
def GZ (ops:Array Oper)(i:Nat):List Nat:=(IX ops.toList []).getD (ops.size-1-i) []
def IG (ops:Array Oper):Bool:=
 (List.range ops.size).all fun i=>match ops[i]? with
  | none=>false
  | some o=>(CU o).all (fun j=>Nat.blt j i)&&(match o.op with | .select _ _=>false | _=>true) &&
   (List.range i).all fun j=>(GZ ops i).contains j || (match ops[j]? with
    | none=>false
    | some q=>q.apart ops o)
def V5:Op->Bool
 | .move (.const _) | .assign (.const _) | .store .. | .alloc _ | .box .. | .buildSlice .. | .slice .. | .makeSlice .. | .makeMap .. | .mapUpdate .. | .insert ..=>true
 | .call c=>match c.callee with
  | .builtin .append=>true
  | .builtin .clear=>true
  | .builtin .copy=>true
  | .value _=>true
  | _=>false
 | _=>false
def AV.isOsl:AV->Bool
 | .osl _ _ _ _=>true
 | _=>false
def aK:Op->Bool
 | .slice ..=>true
 | _=>false
def apX:Op->Option Operand
 | .call c=>(match c.callee,c.args.toList with
  | .builtin .append,[x,_]=>some x
  | _,_=>none)
 | _=>none
def Q0 (o:Op):List Operand:=match o with
 | .move (.tmp _) | .assign (.tmp _) | .pick .. | .extract ..=>[]
 | o=>o.operands.toList
def QV (np:Nat)(o:Oper)(tm:List AV):List Nat:=
 (match V5 o.op with
  | true=>[np+o.dst.getD 0]
  | false=>[])++(Q0 o.op).flatMap fun x=>(evO tm x).refs
def Zi (np:Nat)(o:Oper)(tm tm':List AV):List Nat:=match aK o.op with
 | true=>(match o.dst with
  | some d=>(match (tm'.getD d .dead).isOsl with
   | true=>[]
   | false=>QV np o tm)
  | none=>QV np o tm)
 | false=>(match V5 o.op with
  | true=>(match apX o.op with
   | some x=>(np+o.dst.getD 0)::(evO tm x).refs
   | none=>QV np o tm)
  | false=>[])
def F9 (ops:Array Oper):Nat->List (List Nat×List Nat)->Bool
 | _,[]=>true
 | i,(fp,wr)::l=>conf ops i fp wr (i+1) l&&F9 ops (i+1) l where
 conf (ops:Array Oper) (i:Nat) (fp wr:List Nat):Nat->List (List Nat×List Nat)->Bool
  | _,[]=>true
  | j,(fp',wr')::l=>((GZ ops j).contains i || ((wr.all fun r=>!fp'.contains r)&&fp.all fun r=>!wr'.contains r))&&conf ops i fp wr (j+1) l
def Q5 (cx:Cx)(ops:Array Oper):List Oper->List (List Nat×List Nat)->ASt->(List (List Nat×List Nat)->ASt->Prop)->Prop
 | [],evs,st,K=>K evs.reverse st
 | o::rest,evs,⟨tm,ob⟩,K=>MG cx ops o ⟨tm,ob⟩ fun st'=>Q5 cx ops rest ((QV cx.np o tm,Zi cx.np o tm st'.tm)::evs) st' K
def AV.one:AV->Bool
 | .d x=>!x.isAgg
 | .agg _ | .tup _ | .dead | .gl _ | .gv _=>false
 | _=>true
def fzW (es:List D)(f frz:FZ):Prop:=(f.frozen=true->frz.frozen=true)/\match frz with
 | .lk i j q n=>es.length<=i \/∃i' n',f=.lk i' j q n'/\i'=i/\n'=n
 | _=>True
inductive AvW (s s':ASt):AV->AV->Prop where
 | refl (a:AV):AvW s s' a a
 | dead (a:AV):AvW s s' a .dead
 | norm (x:D):AvW s s' (.d x) (.d x.norm)
 | lst (r n e sz:Nat) (es:List D) (frz:FZ) (h:s.ob.getD r none=some (.row e sz es frz)) (hn:n=es.length)
   (h':s'.ob.getD r none=none\/s'.ob.getD r none=some (.row e sz es .yes)):AvW s s' (.own r n) (.d (.lst sz es))
 | ownL (r n n':Nat) (h:n=n'):AvW s s' (.own r n) (.own r n')
 | osl (r a n m m':Nat) (h:m=m'):AvW s s' (.osl r a n m) (.osl r a n m')
 | oslD (r a n m e sz:Nat) (es zs:List D) (frz:FZ) (h:s.ob.getD r none=some (.row e sz es frz)) (hm:m=es.length) (hz:(es.drop a).take n=zs)
   (h':s'.ob.getD r none=none\/s'.ob.getD r none=some (.row e sz es .yes)):AvW s s' (.osl r a n m) (.d (.lst sz zs))
 | fresh (r e sz:Nat) (h:s.ob.getD r none=none) (h':s'.ob.getD r none=some (.row e sz [] .no)):AvW s s' (.d (.nil sz)) (.own r 0)
 | lstB (r:Nat) (cs:List AV) (ys:List D) (sz:Nat) (h:s.ob.getD r none=some (.box cs)) (h':s'.ob.getD r none=none) (hsz:sz=cs.length) (hl:ys.length=cs.length) (hp:0<cs.length)
   (hc :∀i (hi:i<cs.length) (hi':i<ys.length),AvW s s' cs[i] (.d ys[i])) (hn :∀i (hi:i<ys.length),ys[i].isAgg=false):AvW s s' (.own r 1) (.d (.lst sz [.agg ys]))
 | tup (cs cs':List AV) (hl:cs.length=cs'.length) (hc :∀i (hi:i<cs.length) (hi':i<cs'.length),AvW s s' cs[i] cs'[i]):AvW s s' (.tup cs) (.tup cs')
 | agg (cs cs':List AV) (hl:cs.length=cs'.length) (hc :∀i (hi:i<cs.length) (hi':i<cs'.length),AvW s s' cs[i] cs'[i]) (hn :∀i (hi:i<cs'.length),cs'[i].one=true):AvW s s' (.agg cs) (.agg cs')
 | aggD (cs:List AV) (ys:List D) (hl:cs.length=ys.length) (hc :∀i (hi:i<cs.length) (hi':i<ys.length),AvW s s' cs[i] (.d ys[i])) (hn :∀i (hi:i<ys.length),ys[i].isAgg=false):AvW s s' (.agg cs) (.d (.agg ys))
 | dagg (ds:List D) (cs':List AV) (hl:ds.length=cs'.length) (hc :∀i (hi:i<ds.length) (hi':i<cs'.length),AvW s s' (.d ds[i]) cs'[i]) (hn :∀i (hi:i<cs'.length),cs'[i].one=true):AvW s s' (.d (.agg ds)) (.agg cs')
def tmW (s s':ASt):List AV->List AV->Prop
 | [],[]=>True
 | a::l,a'::l'=>(match a' with
  | .dead=>tmW s s' l l'
  | a'=>AvW s s' a a'/\tmW s s' l l')
 | _,_=>False
def MZ (s s':ASt):List AV->List AV->Prop
 | [],[]=>True
 | a::l,a'::l'=>(a'.one=true/\AvW s s' a a')/\MZ s s' l l'
 | _,_=>False
def obW (s s':ASt):List (Option OB)->List (Option OB)->Prop
 | [],[]=>True
 | o::l,o'::l'=>(match o' with
  | none=>obW s s' l l'
  | some (.box cs')=>(∃cs,o=some (.box cs)/\MZ s s' cs cs')/\obW s s' l l'
  | some (.row e sz es frz)=>((∃f,o=some (.row e sz es f)/\fzW es f frz)\/(o=none/\es=[]/\0<sz))/\obW s s' l l'
  | some (.map k e es)=>(o=some (.map k e es) \/∃kv r n,o=some (.amap k e es kv r n))/\obW s s' l l'
  | some (.amap k e es kv r n)=>((∃n',o=some (.amap k e es kv r n')/\n'=n)\/((o=some (.map k e es) \/∃kv r n,o=some (.amap k e es kv r n))/\(∃tk,CQ tk (.val kv) es=some none)/\n=0/\s.ob.getD r none=none/\∃e' sz f,s'.ob.getD r none=some (.row e' sz [] f)))/\obW s s' l l'
  | some .gone=>o=some .gone/\obW s s' l l')
 | _,_=>False
def Nb (s:ASt):Bool:=
 (AV.refs.refsL s.tm).all (fun r=>(s.ob.getD r none).isSome)&&s.ob.all fun
  | none=>true
  | some o=>o.refs.all fun r=>(s.ob.getD r none).isSome
structure Weak0 (np:Nat)(s s':ASt):Prop where
 par:((List.range np).all fun r=>!(s.ob.getD r none).isSome || (s'.ob.getD r none).isSome)=true
 tm:tmW s s' s.tm s'.tm
 ob:obW s s' s.ob s'.ob
 closed:Nb s'=true
def sw (i j r:Nat):Nat:=match Nat.beq r i with
 | true=>j
 | false=>match Nat.beq r j with
  | true=>i
  | false=>r
def AV.sw (i j:Nat):AV->AV
 | .d x=>.d x
 | .agg cs=>.agg (swL i j cs)
 | .ref r off=>.ref (Go.AX.sw i j r) off
 | .eref cs=>.eref cs
 | .own r n=>.own (Go.AX.sw i j r) n
 | .rref r n a k=>.rref (Go.AX.sw i j r) n a k
 | .fn f cs=>.fn f (swL i j cs)
 | .tup cs=>.tup (swL i j cs)
 | .mp r=>.mp (Go.AX.sw i j r)
 | .it f r=>.it f (Go.AX.sw i j r)
 | .gl g=>.gl g
 | .gv g=>.gv g
 | .osl r a n m=>.osl (Go.AX.sw i j r) a n m
 | .dead=>.dead where
 swL (i j:Nat):List AV->List AV
  | []=>[]
  | a::l=>a.sw i j::swL i j l
def FZ.sw (i j:Nat):FZ->FZ
 | .lk a b q n=>.lk a b (Go.AX.sw i j q) n
 | f=>f
def OB.sw (i j:Nat):OB->OB
 | .box cs=>.box (AV.sw.swL i j cs)
 | .row e sz es frz=>.row e sz es (frz.sw i j)
 | .map k e es=>.map k e es
 | .amap k e es kv r n=>.amap k e es kv (Go.AX.sw i j r) n
 | .gone=>.gone
def NS (i j:Nat):List (Option OB)->List (Option OB)
 | []=>[]
 | none::l=>none::NS i j l
 | some o::l=>some (o.sw i j)::NS i j l
def Jm (i j:Nat)(s:ASt):ASt:=⟨AV.sw.swL i j s.tm,((NS i j s.ob).set i ((NS i j s.ob).getD j none)).set j ((NS i j s.ob).getD i none)⟩
inductive Weak (np:Nat):ASt->ASt->Prop where
 | mk {s s':ASt} (par:((List.range np).all fun r=>!(s.ob.getD r none).isSome || (s'.ob.getD r none).isSome)=true) (tm:tmW s s' s.tm s'.tm) (ob:obW s s' s.ob s'.ob) (closed:Nb s'=true):Weak np s s'
 | swap {s s':ASt} (i j:Nat) (hi:Nat.ble np i=true) (hj:Nat.ble np j=true) (hl:(Nat.blt i s.ob.length&&Nat.blt j s.ob.length)=true) (h:Weak np (Jm i j s) s'):Weak np s s'
def onL (K:AE->ASt->Prop)(K':ASt->Prop)(e:AE)(st:ASt):Prop:=match e with
 | .normal=>K' st
 | .exit i=>K (.exit i) st
 | .ret=>K .ret st
inductive LoopP (np:Nat)(body:(AE->ASt->Prop)->ASt->Prop)(K:AE->ASt->Prop)(st:ASt):Prop where
 | mk (h:(∀t sz es,st.tm.getD t .dead=.d (.lst sz es)->es.length<=9223372036854775807)->(∀r e sz es f,st.ob.getD r none=some (.row e sz es f)->es.length<=9223372036854775807)->∃I:ASt->Nat->Prop,(∃s n,Weak np st s/\I s n)/\
  ∀s n,I s n->body (onL K fun t=>∃s' m,m<n/\Weak np t s'/\I s' m) s)
inductive CutP (np:Nat)(X:(ASt->Prop)->Prop)(K:ASt->Prop):Prop where
 | go (h:X K)
 | cut (J:ASt->Prop) (h1:X fun t=>∃s,Weak np t s/\J s) (h2 :∀s,J s->K s)
def cA (cx:Cx)(o:Oper)(tm:List AV)(ob:List (Option OB))(K:ASt->Prop):Prop:=match o.op with
 | .call c=>(match c.callee with
  | .value x=>fnK (evO tm x) fun f caps=>(match cx.inl f with
   | true=>CutP cx.np (fun K'=>cx.I f (Gl cx.T (evO tm) c.args.toList c.argTypes.toList++caps) ob fun r ob'=>Lx tm o.dst r fun tm=>K' ⟨tm,ob'⟩) K
   | false=>opX cx o (evO tm) ob fun v w=>Lx tm o.dst v fun tm=>wrK ob w fun ob=>K ⟨tm,ob⟩)
  | _=>opX cx o (evO tm) ob fun v w=>Lx tm o.dst v fun tm=>wrK ob w fun ob=>K ⟨tm,ob⟩)
 | _=>opX cx o (evO tm) ob fun v w=>Lx tm o.dst v fun tm=>wrK ob w fun ob=>K ⟨tm,ob⟩
def Xd (cx:Cx)(ops:Array Oper)(o:Oper)(st:ASt)(K:ASt->Prop):Prop:=match st with
 | ⟨tm,ob⟩=>Jp ops o tm (fun tm=>cA cx o tm ob K) (fun tm=>Lx tm o.dst (.tup []) fun tm=>K ⟨tm,ob⟩)
def Zn (cx:Cx)(ops:Array Oper):List Oper->ASt->(ASt->Prop)->Prop
 | [],st,K=>K st
 | o::rest,st,K=>Xd cx ops o st fun st=>Zn cx ops rest st K
def guarded:List Oper->Bool
 | []=>false
 | o::l=>match o.guard with
  | none=>guarded l
  | some _=>true
def onN (K:AE->ASt->Prop)(K':ASt->Prop)(e:AE)(st:ASt):Prop:=match e with
 | .normal=>K' st
 | .exit i=>K (.exit i) st
 | .ret=>K .ret st
def onB (id:Nat)(K:AE->ASt->Prop)(K':ASt->Prop)(e:AE)(st:ASt):Prop:=match e with
 | .normal=>K' st
 | .exit i=>(match Nat.beq i id with
  | true=>K' st
  | false=>K (.exit i) st)
 | .ret=>K .ret st
def cM (cx:Cx)(ops:Array Oper)(st:ASt)(K:ASt->Prop):Prop:=match guarded ops.toList with
 | true=>CutP cx.np (Zn cx ops ops.toList st) K
 | false=>Zn cx ops ops.toList st K
def Ys (cx:Cx)(ops:Array Oper)(st:ASt)(K:ASt->Prop):Prop:=IG ops=true/\Q5 cx ops ops.toList [] st fun evs st'=>F9 ops 0 evs=true/\K st'
def Zv (ops:Array Oper):Bool:=Nat.blt 0 ops.size&&(List.range (ops.size-1)).all fun j=>(GZ ops (ops.size-1)).contains j
def ZM (cx:Cx)(ops:Array Oper)(st:ASt)(K:ASt->Prop):List Oper->Prop
 | []=>False
 | [o]=>Xd cx ops o st K
 | _::l=>ZM cx ops st K l
def LC:List Oper->List Oper
 | []=>[]
 | [_]=>[]
 | o::l=>o::LC l
def Wj (cx:Cx)(ops:Array Oper)(st:ASt)(K:ASt->Prop):Prop:=(IG ops=true/\Zv ops=true)/\Q5 cx ops (LC ops.toList) [] st fun evs st'=>F9 ops 0 evs=true/\ZM cx ops st' K ops.toList
def Gi (cx:Cx):Code->(AE->ASt->Prop)->ASt->Prop
 | .skip,K,st=>K .normal st
 | .region _ ops false,K,st=>cM cx ops st (K .normal)
 | .region _ ops true,K,st=>(match guarded ops.toList with
  | true=>CutP cx.np (fun K'=>Ys cx ops st K'\/Wj cx ops st K') (K .normal)
  | false=>Ys cx ops st (K .normal)\/Wj cx ops st (K .normal))
 | .seq a b,K,st=>Gi cx a (onN K (Gi cx b K)) st
 | .cond c x y,K,st=>(match evO st.tm c with
  | .d (.val (.bool b))=>CutP cx.np (fun K'=>KN b (Gi cx x (onN K K') st) (Gi cx y (onN K K') st)) (K .normal)
  | _=>False)
 | .block id b,K,st=>CutP cx.np (fun K'=>Gi cx b (onB id K K') st) (K .normal)
 | .loop b,K,st=>LoopP cx.np (Gi cx b) K st
 | .exit id,K,st=>K (.exit id) st
 | .ret,K,st=>K .ret st
 | _,_,_=>False
def Ut (cx:Cx)(st:ASt):List ResultVar->(List AV->Prop)->Prop
 | [],K=>K []
 | .tmp t::rs,K=>(st.tm.getD t .dead).force fun a=>Ut cx st rs fun l=>K (a::l)
 | .cell a ty::rs,K=>(match st.tm.getD a .dead with
  | .ref r off=>Va cx.T ty (.ref r off) st.ob fun v=>Ut cx st rs fun l=>K (v::l)
  | _=>False)
def U0:List Nat->Nat->Option Nat
 | [],_=>none
 | x::l,r=>match Nat.beq r x with
  | true=>some 0
  | false=>match U0 l r with
   | some k=>some (k+1)
   | none=>none
def O3 (rs:List Nat):List AV->List AV
 | []=>[]
 | .own r n::cs=>(match Ni rs r with
  | true=>.d (.nil 1)
  | false=>.own r n)::O3 rs cs
 | a::cs=>a::O3 rs cs
def XA (np:Nat)(rs:List Nat):List AV->List D->List AV
 | .own r n::cs,d::ds=>(match U0 rs r with
  | some k=>.own (np+k) n
  | none=>.d d)::XA np rs cs ds
 | _::cs,d::ds=>.d d::XA np rs cs ds
 | _,_=>[]
def S8 (ob:List (Option OB)):List Nat->(List OB->Prop)->Prop
 | [],K=>K []
 | r::rs,K=>DT ob r fun o=>match o with
  | .row e sz es f=>AU (!f.linked) <| S8 ob rs fun l=>K (.row e sz es f::l)
  | _=>False
def Up (np:Nat)(ob:List (Option OB))(rs:List Nat)(cs:List AV)(K:AV->Prop):Prop:=
 AU (Qj rs&&rs.all fun r=>Nat.ble np r) <| toD ob (.agg (O3 rs cs)) fun x w=>match x with
  | .agg ds=>AU (w.all fun q=>Nat.ble np q.1&&!Ni rs q.1) <| K (.agg (XA np rs cs ds))
  | _=>False
def WY (np:Nat)(ob:List (Option OB))(a:AV)(K:AV->Option Nat->Prop):Prop:=match a with
 | .d x=>PY x fun x=>K (.d x) none
 | .own r n=>(match Nat.blt r np with
  | true=>K (.own r n) none
  | false=>toD ob (.own r n) (fun x _=>K (.d x) none)\/K (.own np n) (some r))
 | .agg cs=>toD ob (.agg cs) (fun x w=>AU (w.all fun q=>Nat.ble np q.1) <| K (.d x) none)
 | .ref r off=>(match Nat.blt r np with
  | true=>K (.ref r off) none
  | false=>K (.ref np off) (some r))
 | .mp r=>(match Nat.blt r np with
  | true=>K (.mp r) none
  | false=>K (.mp np) (some r))
 | _=>False
def Vt (np:Nat)(ob:List (Option OB)):List AV->(List AV->Prop)->Prop
 | [],K=>K []
 | a::l,K=>WY np ob a fun a' nw=>match nw with
  | none=>Vt np ob l fun l'=>K (a'::l')
  | some _=>False
def Jg (ob:List (Option OB)):Nat->Nat->(List OB->Prop)->Prop
 | 0,_,K=>K []
 | n+1,i,K=>DT ob i fun o=>match o with
  | .box cs=>Hq.cellsD cs fun cs=>Jg ob n (i+1) fun l=>K (.box cs::l)
  | .row e sz es frz=>AU (!frz.linked) <| Jg ob n (i+1) fun l=>K (.row e sz es frz::l)
  | .map k e es=>Jg ob n (i+1) fun l=>K (.map k e es::l)
  | .amap ..=>False
  | .gone=>Jg ob n (i+1) fun l=>K (.gone::l)
def leave1 (np:Nat)(ob:List (Option OB))(R:AV->List OB->Prop)(a:AV)(objs:List OB):Prop:=match a with
 | .d (.nil sz)=>R (.d (.lst sz [])) objs\/(0<sz/\∃e,R (.own np 0) (objs++[.row e sz [] .no]))
 | .agg cs=>toD ob (.agg cs) (fun x w=>AU (w.all fun q=>Nat.ble np q.1) <| R (.d x) objs) \/∃rs,Up np ob rs cs fun x=>S8 ob rs fun os=>R x (objs++os)
 | .own r n=>(WY np ob (.own r n) fun a' nw=>(match nw with
   | none=>R a' objs
   | some r=>DT ob r fun o=>match o with
    | .box cs=>Hq.cellsD cs fun cs=>R a' (objs++[.box cs])
    | .row e sz es frz=>AU (!frz.linked) <| R a' (objs++[.row e sz es frz])
    | .map k e es=>R a' (objs++[.map k e es])
    | .amap ..=>False
    | .gone=>False))\/(AU (Nat.blt r np) <| match objs[r]? with
     | some (.row e sz es .no)=>R (.own np n) (objs.set r .gone++[.row e sz es .no])
     | _=>False)
 | a=>WY np ob a fun a' nw=>(match nw with
   | none=>R a' objs
   | some r=>DT ob r fun o=>match o with
    | .box cs=>Hq.cellsD cs fun cs=>R a' (objs++[.box cs])
    | .row e sz es frz=>AU (!frz.linked) <| R a' (objs++[.row e sz es frz])
    | .map k e es=>R a' (objs++[.map k e es])
    | .amap ..=>False
    | .gone=>False)
def cE (cx:Cx)(fn:Func)(R:AV->List OB->Prop)(e:AE)(st:ASt):Prop:=
 match e with
 | .exit _=>False
 | _=>Ut cx st fn.results.toList fun asz=>Jg st.ob cx.np 0 fun objs=>(match asz with
  | [a]=>leave1 cx.np st.ob R a objs
  | asz=>Vt cx.np st.ob asz fun asz'=>R (.tup asz') objs)
def RV (ex:Nat)(fn:Func)(args:List AV)(objs:List OB):ASt:=
 { tm:=args++List.replicate (fn.ntmps-args.length) .dead,ob:=objs.map some++List.replicate (fn.ntmps+ex) none }
def Wz (cx:Cx)(fn:Func)(args:List AV)(objs:List OB)(R:AV->List OB->Prop):Prop:=
 cx.np=objs.length/\match fn.body with
  | some c=>Gi cx c (cE cx fn R) (RV cx.ex fn args objs)
  | none=>False
def II:List (Option OB)->Nat->Bool
 | [],_=>true
 | _::l,n+1=>II l n
 | none::l,0=>II l 0
 | some _::_,0=>false
def bk (cx:Cx)(fn:Func)(K:AV->List (Option OB)->Prop)(e:AE)(st:ASt):Prop:=
 match e with
 | .exit _=>False
 | _=>Ut cx st fn.results.toList fun asz=>(match asz with
  | [a]=>K a st.ob
  | asz=>K (.tup asz) st.ob)
def bB (cx:Cx)(fn:Func)(args:List AV)(ob:List (Option OB))(K:AV->List (Option OB)->Prop):Prop:=
 II ob cx.np=true/\match fn.body with
  | some c=>Gi cx c (bk cx fn K) ⟨args++List.replicate (fn.ntmps-args.length) .dead,ob⟩
  | none=>False
theorem GK {α:Type}(l:List α)(n:Nat)(v:α)(K:List α->Prop):L9 l n v K↔K (l.set n v):=by
 induction l generalizing n K with
 | nil=>simp[L9]
 | cons x l ih=>cases n<;>simp[L9,ih]
theorem G0 {α:Type}(l:List α)(n:Nat)(K:List α->Prop):Pv l n K↔K (l.drop n):=by
 induction l generalizing n with
 | nil=>cases n<;>simp[Pv]
 | cons x l ih=>cases n<;>simp[Pv,ih]
theorem GX {α:Type}(l:List α)(n:Nat)(K:List α->Prop):ON l n K↔K (l.take n):=by
 induction l generalizing n K with
 | nil=>cases n<;>simp[ON]
 | cons x l ih=>cases n<;>simp[ON,ih]
theorem G1 {α:Type}(cs:List α)(n:Nat)(vs:List α)(K:List α->Prop) :
  OC cs n vs K↔n+vs.length<=cs.length/\K (cs.take n++vs++cs.drop (n+vs.length)):=by
 induction cs generalizing n vs K with
 | nil=>cases n<;>cases vs<;>simp[OC]
 | cons c cs ih=>
  cases n with
  | zero=>cases vs<;>simp[OC,ih]
  | succ n=>simp[OC,ih,Nat.add_right_comm]
@[simp] theorem AI (b:Bool)(P:Prop):AU b P↔b=true/\P:=by cases b<;>simp[AU]
theorem Bn (a:AV)(K:AV->Prop):a.force K↔K a:=by cases a<;>rfl
theorem Fj (x:D)(K:D->Prop):PY x K↔K x.norm:=by
 cases x with
 | agg cs=>
  simp only[PY,D.norm]
  induction cs generalizing K with
  | nil=>simp[QH]
  | cons c cs ih=>
   simp only[QH,List.map_cons]
   cases c<;>simp only<;>exact ih fun x=>match x with
    | .agg l=>K (.agg (_::l))
    | x=>K x
 | _=>simp[PY,D.norm]
theorem A1 (ob:List (Option OB))(r:Nat)(K:OB->Prop):DT ob r K ↔∃o,ob.getD r none=some o/\K o:=by
 unfold DT
 cases ob.getD r none with
 | none=>simp
 | some o=>cases o<;>simp
theorem E6 (ob:List (Option OB))(r:Nat)(K:Prop):noO ob r K↔ob[r]?=some none/\K:=by
 unfold noO
 cases ob[r]? with
 | none=>simp
 | some o=>cases o<;>simp
def Ye (cs:List AV):AV:=match SN cs with
 | some l=>.d (.agg l)
 | none=>.agg cs
theorem Gy (cs:List AV)(K:AV->Prop):TN cs K↔K (Ye cs):=by
 unfold TN Ye
 cases SN cs<;>rfl
theorem XO :∀(cs:List AV) (l:List D),SN cs=some l->cs=l.map .d
 | [],l,h=>by simp[SN] at h;simp[<- h]
 | a::r,l,h=>by
  cases a<;>simp[SN] at h
  rename_i x
  cases hr:SN r with
  | none=>simp[hr] at h
  | some l'=>simp[hr] at h;subst h;simp[XO r l' hr]
def Ii:List D->Option (List AV)
 | []=>some []
 | c::cs=>match c.isAgg,Ii cs with
  | false,some l=>some (.d c::l)
  | _,_=>none
theorem MR :∀(cs:List D) (l:List AV),Ii cs=some l->l=cs.map .d/\∀c∈cs,c.isAgg=false
 | [],l,h=>by simp[Ii] at h;simp[<- h]
 | c::cs,l,h=>by
  simp only[Ii] at h
  split at h
  ·rename_i l' h1 h2
   obtain⟨g1,g2⟩:=MR cs l' h2
   simp only[X24] at h
   subst h g1
   refine⟨rfl,fun x hx=>?_⟩
   cases hx with
   | head=>exact h1
   | tail _ hx=>exact g2 x hx
  simp at h
def DW:AV->Option (List AV)
 | .d (.agg cs)=>Ii cs
 | .d x=>some [.d x]
 | .agg cs=>some cs
 | .ref r o=>some [.ref r o]
 | .own r n=>some [.own r n]
 | .mp r=>some [.mp r]
 | .fn f c=>some [.fn f c]
 | _=>none
theorem Gx (a:AV)(K:List AV->Prop):NB a K ↔∃l,DW a=some l/\K l:=by
 cases a with
 | d x=>
  cases x with
  | agg cs=>
   simp only[NB,DW]
   induction cs generalizing K with
   | nil=>simp[QH,Ii]
   | cons c cs ih=>
    cases c<;>simp only[QH,ih,Ii,D.isAgg]<;>cases h:Ii cs<;>simp
  | _=>simp[NB,DW]
 | _=>simp[NB,DW]
abbrev Sc:=Nat->Nat->Prop
def cellAt (w:World)(b o:Nat):Option Value:=w.cell? ⟨b,o,none⟩
inductive RepD (S:Sc)(w:World):D->Value->Prop
 | val (v:Value) (h:v.oneCell'=true):RepD S w (.val v) v
 | agg (cs:List D) (vs:Array Value) (f:Nat->Value) (hs:vs.size=cs.length) (hf :∀i,i<cs.length->vs[i]?=some (f i))
   (hn :∀i (hi:i<cs.length),cs[i].isAgg=false) (h :∀i (hi:i<cs.length),RepD S w cs[i] (f i)):RepD S w (.agg cs) (.agg vs)
 | nil (sz:Nat):RepD S w (.nil sz) (.slice none 0 0)
 | lst0 (sz:Nat) (a:Option Addr) (cap:Nat):RepD S w (.lst sz []) (.slice a 0 cap)
 | lst (sz:Nat) (es:List D) (b o cap:Nat) (f:Nat->Nat->Value) (hl:es.length<=maxLen) (hc:es.length<=cap) (hsz :∀i (hi:i<es.length),es[i].cells.length=sz)
   (hS :∀i j,i<es.length->j<sz->S b (o+i*sz+j)/\cellAt w b (o+i*sz+j)=some (f i j))
   (hn :∀i (hi:i<es.length) j (hj:j<es[i].cells.length),es[i].cells[j].isAgg=false)
   (h :∀i (hi:i<es.length) j (hj:j<es[i].cells.length),RepD S w es[i].cells[j] (f i j)):RepD S w (.lst sz es) (.slice (some ⟨b,o,none⟩) es.length cap)
abbrev Rp:=Nat×Nat
def Ib (φ:Nat->Option (Nat×Rp))(r n:Nat)(v:Value):Prop:=
 (φ r=none/\n=0/\∃a,v=.slice a 0 0) \/∃b cap,φ r=some (b,cap)/\v=.slice (some ⟨b,cap.2,none⟩) n cap.1
inductive RepA (S:Sc)(w:World)(φ:Nat->Option (Nat×Rp))(ob:Nat->Option OB):AV->Value->Prop
 | d (x:D) (v:Value) (h:RepD S w x v):RepA S w φ ob (.d x) v
 | agg (cs:List AV) (vs:Array Value) (f:Nat->Value) (hs:vs.size=cs.length) (hf :∀i,i<cs.length->vs[i]?=some (f i))
   (hn :∀i (hi:i<cs.length),cs[i].one=true) (h :∀i (hi:i<cs.length),RepA S w φ ob cs[i] (f i)):RepA S w φ ob (.agg cs) (.agg vs)
 | tup (cs:List AV) (vs:Array Value) (f:Nat->Value) (hs:vs.size=cs.length) (hf :∀i,i<cs.length->vs[i]?=some (f i))
   (h :∀i (hi:i<cs.length),RepA S w φ ob cs[i] (f i)):RepA S w φ ob (.tup cs) (.tuple vs)
 | ref (r off b:Nat) (c:Rp) (h:φ r=some (b,c)) (hb :∀e sz es frz,ob r≠some (.row e sz es frz)):RepA S w φ ob (.ref r off) (.pointer (some ⟨b,off,none⟩))
 | eref (cs:List D) (b o:Nat) (f:Nat->Value) (hS :∀j,j<cs.length->S b (o+j)/\cellAt w b (o+j)=some (f j))
   (hn :∀j (hj:j<cs.length),cs[j].isAgg=false) (h :∀j (hj:j<cs.length),RepD S w cs[j] (f j)):RepA S w φ ob (.eref cs) (.pointer (some ⟨b,o,none⟩))
 | own (r n:Nat) (v:Value) (k c:Nat) (a0:Option Addr) (hv:v=.slice a0 k c) (hk:k=n)
   (h :∀e sz es frz,ob r=some (.row e sz es frz)->n<=es.length/\(n=es.length->Ib φ r n v)) (hb :∀cs,ob r=some (.box cs)->n=1/\∃b c,φ r=some (b,c)/\v=.slice (some ⟨b,0,none⟩) 1 1):RepA S w φ ob (.own r n) v
 | rref (r n i k:Nat) (v:Value) (h :∀e sz es frz,ob r=some (.row e sz es frz)->n<=es.length/\(n=es.length->i<n/\∃b c,φ r=some (b,c)/\v=.pointer (some ⟨b,c.2+(i*sz+k),none⟩)))
   (hb :∀cs,ob r=some (.box cs)->∃b c,φ r=some (b,c)/\v=.pointer (some ⟨b,k+i,none⟩)) (hp :∃a,v=.pointer (some a)):RepA S w φ ob (.rref r n i k) v
 | osl (r a n m:Nat) (v:Value) (k c:Nat) (a0:Option Addr) (hv:v=.slice a0 k c) (hk:k=n)
   (h :∀e sz es frz,ob r=some (.row e sz es frz)->m<=es.length/\(m=es.length->a+n<=m/\(n=0 \/∃b cap c',φ r=some (b,cap)/\v=.slice (some ⟨b,cap.2+a*sz,none⟩) n c'/\n<=c')/\(a=0->Ib φ r n v))):RepA S w φ ob (.osl r a n m) v
 | mp (r b:Nat) (c:Rp) (h:φ r=some (b,c)) (hb :∀e sz es frz,ob r≠some (.row e sz es frz)) (hc :∀cs,ob r≠some (.box cs)):RepA S w φ ob (.mp r) (.map (some b))
 | it (f:FuncId) (r b:Nat) (c:Rp) (B:Nat) (h:φ r=some (b,c)) (hb :∀e sz es frz,ob r≠some (.row e sz es frz)) (hc :∀cs,ob r≠some (.box cs)) (hS:S B 0) (hm:cellAt w B 0=some (.map (some b))) :
   RepA S w φ ob (.it f r) (.func (.func f) #[] #[.pointer (some ⟨B,0,none⟩)])
 | fn (f:FuncId) (cs:List AV) (vs:Array Value) (g:Nat->Value) (hs:vs.size=cs.length) (hf :∀i,i<cs.length->vs[i]?=some (g i))
   (h :∀i (hi:i<cs.length),RepA S w φ ob cs[i] (g i)):RepA S w φ ob (.fn f cs) (.func (.func f) #[] vs)
 | gl (g:Nat):RepA S w φ ob (.gl g) (.pointer (some ⟨g,0,none⟩))
 | gv (g:Nat) (v:Value) (hS:S g 0) (hv:cellAt w g 0=some v):RepA S w φ ob (.gv g) v
 | dead (v:Value):RepA S w φ ob .dead v
def Nk (S:Sc)(w:World)(S':Sc)(w':World):Prop:=∀b o,S b o->S' b o/\cellAt w' b o=cellAt w b o
theorem RepD.mono {S S':Sc}{w w':World}(hk:Nk S w S' w'){x:D}{v:Value}(h:RepD S w x v):RepD S' w' x v:=by
 induction h with
 | val v h=>exact .val v h
 | agg cs vs f hs hf hn _ ih=>exact .agg cs vs f hs hf hn ih
 | nil sz=>exact .nil sz
 | lst0 sz a cap=>exact .lst0 sz a cap
 | lst sz es b o cap f hl hc hsz hS hn _ ih=>
  exact .lst sz es b o cap f hl hc hsz (fun i j hi hj=>⟨(hk _ _ (hS i j hi hj).1).1,(hk _ _ (hS i j hi hj).1).2.trans (hS i j hi hj).2⟩) hn ih
def hdr:Option OB->Option (Nat×Nat×Nat)
 | some (.row e sz es _)=>some (e,sz,es.length)
 | _=>none
def RefOK (φ:Nat->Option (Nat×Rp))(ob:Nat->Option OB)(φ':Nat->Option (Nat×Rp))(ob':Nat->Option OB)(r:Nat):Prop:=
 (φ' r=φ r/\hdr (ob' r)=hdr (ob r)/\((∃cs,ob' r=some (.box cs))->∃cs,ob r=some (.box cs))) \/
 (∃e sz es frz es' frz',ob r=some (.row e sz es frz)/\ob' r=some (.row e sz es' frz')/\es.length<=es'.length/\(es'.length=es.length->φ' r=φ r)) \/
 ((∃e sz es frz,ob r=some (.row e sz es frz))/\hdr (ob' r)=none/\∀cs,ob' r≠some (.box cs))
theorem Ic {o:Option OB}{e sz:Nat}{es:List D}{frz:FZ}{o':Option OB}(h:o'=some (.row e sz es frz))(hh:hdr o'=hdr o) :
  ∃es0 f,o=some (.row e sz es0 f)/\es0.length=es.length:=by
 subst h
 cases o with
 | none=>simp[hdr] at hh
 | some o=>
  cases o with
  | box cs=>simp[hdr] at hh
  | map=>simp[hdr] at hh
  | amap=>simp[hdr] at hh
  | gone=>simp[hdr] at hh
  | row e' sz' es' f=>simp[hdr] at hh;exact⟨es',f,by simp[hh],hh.2.2.symm⟩
theorem Ru {o:Option OB}(h:hdr o=none)(e sz:Nat)(es:List D)(frz:FZ):o≠some (.row e sz es frz):=by
 rintro rfl
 simp[hdr] at h
theorem RepA.mono {S S':Sc}{w w':World}{φ φ':Nat->Option (Nat×Rp)}{ob ob':Nat->Option OB}(hk:Nk S w S' w'){a:AV}{v:Value}(h:RepA S w φ ob a v)
  (hr :∀r,r∈a.refs->RefOK φ ob φ' ob' r):RepA S' w' φ' ob' a v:=by
 have hl :∀(cs:List AV) (i:Nat) (hi:i<cs.length) (r:Nat),r∈cs[i].refs->r∈AV.refs.refsL cs:=by
  intro cs
  induction cs with
  | nil=>intro i hi;simp at hi
  | cons c cs ih=>
   intro i hi r hm
   simp only[AV.refs.refsL,X23]
   cases i with
   | zero=>exact .inl hm
   | succ i=>exact .inr (ih i (by simpa using hi) r hm)
 induction h with
 | d x v h=>exact .d x v (h.mono hk)
 | agg cs vs f hs hf hn _ ih=>exact .agg cs vs f hs hf hn fun i hi=>ih i hi fun r hm=>hr r (hl cs i hi r hm)
 | tup cs vs f hs hf _ ih=>exact .tup cs vs f hs hf fun i hi=>ih i hi fun r hm=>hr r (hl cs i hi r hm)
 | ref r off b c h hb=>
  rcases hr r (by simp[AV.refs]) with ⟨h1,h2,_⟩|⟨e,sz,es,frz,_,_,h1,_⟩|⟨⟨e,sz,es,frz,h1⟩,_⟩
  rotate_left 2
  ·exact absurd h1 (hb _ _ _ _)
  ·refine .ref r off b c (h1.trans h) fun e sz es frz hx=>?_
   obtain⟨es0,f,h0,_⟩:=Ic hx h2
   exact hb _ _ _ _ h0
  exact absurd h1 (hb _ _ _ _)
 | mp r b c h hb hc=>
  rcases hr r (by simp[AV.refs]) with ⟨h1,h2,h3⟩|⟨e,sz,es,frz,_,_,h1,_⟩|⟨⟨e,sz,es,frz,h1⟩,_⟩
  rotate_left 2
  ·exact absurd h1 (hb _ _ _ _)
  ·refine .mp r b c (h1.trans h) (fun e sz es frz hx=>?_) fun cs hx=>?_
   ·obtain⟨es0,f,h0,_⟩:=Ic hx h2
    exact hb _ _ _ _ h0
   obtain⟨cs',h'⟩:=h3 ⟨cs,hx⟩
   exact hc cs' h'
  exact absurd h1 (hb _ _ _ _)
 | it f r b c B h hb hc hS hm=>
  rcases hr r (by simp[AV.refs]) with ⟨h1,h2,h3⟩|⟨e,sz,es,frz,_,_,h1,_⟩|⟨⟨e,sz,es,frz,h1⟩,_⟩
  rotate_left 2
  ·exact absurd h1 (hb _ _ _ _)
  ·refine .it f r b c B (h1.trans h) (fun e sz es frz hx=>?_) (fun cs hx=>?_) (hk _ _ hS).1 ((hk _ _ hS).2.trans hm)
   ·obtain⟨es0,f,h0,_⟩:=Ic hx h2
    exact hb _ _ _ _ h0
   obtain⟨cs',h'⟩:=h3 ⟨cs,hx⟩
   exact hc cs' h'
  exact absurd h1 (hb _ _ _ _)
 | eref cs b o f hS hn h=>exact .eref cs b o f (fun j hj=>⟨(hk _ _ (hS j hj).1).1,(hk _ _ (hS j hj).1).2.trans (hS j hj).2⟩) hn fun j hj=>(h j hj).mono hk
 | own r n v k c a0 hv hkn h hb=>
  rcases hr r (by simp[AV.refs]) with ⟨h1,h2,h3⟩|⟨e,sz,es,frz,es',frz',h1,h2,h3,h4⟩|⟨_,h2,h3⟩
  rotate_left 2
  ·exact .own r n v k c a0 hv hkn (fun e sz es frz hx=>absurd hx (Ru h2 _ _ _ _)) fun cs hx=>absurd hx (h3 cs)
  ·refine .own r n v k c a0 hv hkn (fun e sz es frz hx=>?_) fun cs hx=>?_
   ·obtain⟨es0,f,h0,hl0⟩:=Ic hx h2
    obtain⟨g1,g2⟩:=h _ _ _ _ h0
    refine⟨hl0 ▸ g1,fun hn=>?_⟩
    have:=g2 (hl0 ▸ hn)
    unfold Ib at *
    rwa [h1]
   obtain⟨cs',h'⟩:=h3 ⟨cs,hx⟩
   rw[h1]
   exact hb cs' h'
  refine .own r n v k c a0 hv hkn (fun e0 sz0 es0 frz0 hx=>?_) fun cs hx=>by rw[h2] at hx;simp at hx
  rw[h2] at hx
  simp only[X24,OB.row.injEq] at hx
  obtain⟨rfl,rfl,rfl,rfl⟩:=hx
  obtain⟨g1,g2⟩:=h _ _ _ _ h1
  refine⟨Nat.le_trans g1 h3,fun hn=>?_⟩
  have he:es'.length=es.length:=by omega
  have:=g2 (by omega)
  unfold Ib at *
  rwa [h4 he]
 | rref r n i k v h hb hp=>
  rcases hr r (by simp[AV.refs]) with ⟨h1,h2,h3⟩|⟨e,sz,es,frz,es',frz',h1,h2,h3,h4⟩|⟨_,h2,h3⟩
  rotate_left 2
  ·exact .rref r n i k v (fun e sz es frz hx=>absurd hx (Ru h2 _ _ _ _)) (fun cs hx=>absurd hx (h3 cs)) hp
  ·refine .rref r n i k v (fun e sz es frz hx=>?_) (fun cs hx=>?_) hp
   ·obtain⟨es0,f,h0,hl0⟩:=Ic hx h2
    obtain⟨g1,g2⟩:=h _ _ _ _ h0
    refine⟨hl0 ▸ g1,fun hn=>?_⟩
    have:=g2 (hl0 ▸ hn)
    rwa [h1]
   obtain⟨cs',h'⟩:=h3 ⟨cs,hx⟩
   rw[h1]
   exact hb cs' h'
  refine .rref r n i k v (fun e0 sz0 es0 frz0 hx=>?_) (fun cs hx=>by rw[h2] at hx;simp at hx) hp
  rw[h2] at hx
  simp only[X24,OB.row.injEq] at hx
  obtain⟨rfl,rfl,rfl,rfl⟩:=hx
  obtain⟨g1,g2⟩:=h _ _ _ _ h1
  refine⟨Nat.le_trans g1 h3,fun hn=>?_⟩
  have he:es'.length=es.length:=by omega
  have:=g2 (by omega)
  rwa [h4 he]
 | osl r a n m v k c a0 hv hkn h=>
  rcases hr r (by simp[AV.refs]) with ⟨h1,h2,h3⟩|⟨e,sz,es,frz,es',frz',h1,h2,h3,h4⟩|⟨_,h2,h3⟩
  ·refine .osl r a n m v k c a0 hv hkn fun e sz es frz hx=>?_
   obtain⟨es0,f,h0,hl0⟩:=Ic hx h2
   obtain⟨g1,g2⟩:=h _ _ _ _ h0
   refine⟨hl0 ▸ g1,fun hn=>?_⟩
   have:=g2 (hl0 ▸ hn)
   refine⟨this.1,by rw[h1];exact this.2.1,fun h0=>?_⟩
   have:=this.2.2 h0
   unfold Ib at *
   rwa [h1]
  ·refine .osl r a n m v k c a0 hv hkn fun e0 sz0 es0 frz0 hx=>?_
   rw[h2] at hx
   simp only[X24,OB.row.injEq] at hx
   obtain⟨rfl,rfl,rfl,rfl⟩:=hx
   obtain⟨g1,g2⟩:=h _ _ _ _ h1
   refine⟨Nat.le_trans g1 h3,fun hn=>?_⟩
   have he:es'.length=es.length:=by omega
   have:=g2 (by omega)
   refine⟨this.1,by rw[h4 he];exact this.2.1,fun h0=>?_⟩
   have:=this.2.2 h0
   unfold Ib at *
   rwa [h4 he]
  exact .osl r a n m v k c a0 hv hkn fun e sz es frz hx=>absurd hx (Ru h2 _ _ _ _)
 | fn f cs vs g hs hf _ ih=>exact .fn f cs vs g hs hf fun i hi=>ih i hi fun r hm=>hr r (hl cs i hi r hm)
 | gl g=>exact .gl g
 | gv g v hS hv=>exact .gv g v (hk _ _ hS).1 ((hk _ _ hS).2.trans hv)
 | dead v=>exact .dead v
theorem RepD.one {S:Sc}{w:World}{x:D}{v:Value}(h:RepD S w x v)(hx:x.isAgg=false):v.oneCell'=true:=by
 cases h<;>first | assumption | rfl | simp[D.isAgg] at hx
theorem RepA.one {S:Sc}{w:World}{φ:Nat->Option (Nat×Rp)}{ob:Nat->Option OB}{a:AV}{v:Value}(h:RepA S w φ ob a v)(ha:a.one=true):v.oneCell'=true:=by
 cases h<;>simp[AV.one] at ha
 case d h=>exact h.one ha
 case own=>subst_vars;rfl
 case osl=>subst_vars;rfl
 case rref hp=>obtain⟨a,rfl⟩:=hp;rfl
 all_goals rfl
def EntsOK (S:Sc)(w:World)(es:List (D×D))(l:List MapEntry):Prop:=
 l.length=es.length/\∀i (hi:i<es.length),∃x,l[i]?=some x/\(∃u,es[i].1=.val u/\x.key=u/\u.oneCell'=true)/\RepD S w es[i].2 x.val
structure WL where
 wl:Prop
 G:Nat->Option (List (D×D))
def WL.low (W:WL):WL:=⟨False,W.G⟩
def WL.high (W:WL):WL:=⟨True,W.G⟩
def WL.plain:WL:=⟨True,fun _=>none⟩
def WL.gf (W:WL)(gb:Nat->Prop)(w:World):Prop:=∀g es,W.G g=some es->gb g/\∃b arr clock es',gb b/\cellAt w g 0=some (.map (some b))/\w.heap[b]?=some (.map arr clock)/\(∀tk x q,CQ tk x es=some q->CQ tk x es'=some q)/\EntsOK (fun _ _=>False) w es' arr.toList
theorem WL.ext (W:WL)(gb:Nat->Prop)(w w':World)(h :∀b,gb b->w'.heap[b]?=w.heap[b]?)(hg:W.gf gb w):W.gf gb w':=by
 intro g es he
 obtain⟨h1,b,arr,clock,es',h2,h3,h4,h6,h5⟩:=hg g es he
 refine⟨h1,b,arr,clock,es',h2,?_,(h b h2).trans h4,h6,h5.1,fun i hi=>?_⟩
 ·rw[<- h3]
  simp[cellAt,World.cell?,h g h1]
 obtain⟨x,e1,e2,e3⟩:=h5.2 i hi
 exact⟨x,e1,e2,e3.mono fun _ _ hf=>hf.elim⟩
structure GlobOK (W:WL)(gb PB:Nat->Prop)(S:Sc)(w:World):Prop where
 gf:W.gf gb w
 lt :∀b,gb b->b<w.heap.size
 pb :∀b,gb b->¬ PB b
 st :∀b o,gb b->cellAt w b o≠none->S b o
structure Env where
 w0:World
 S0:Sc
 PB:Nat->Prop
 wl:WL
 gb:Nat->Prop
 hg:GlobOK wl gb PB S0 w0
def AliasP (kv:Value)(Q:Value->Prop):List MapEntry->Prop
 | []=>Q (.slice none 0 0)
 | x::l=>(x.key=kv->Q x.val)/\(x.key≠kv->AliasP kv Q l)
theorem AliasP.imp {kv:Value}{Q Q':Value->Prop}(h :∀v,Q v->Q' v) :∀{l:List MapEntry},AliasP kv Q l->AliasP kv Q' l
 | [],a=>h _ a
 | _::_,a=>⟨fun e=>h _ (a.1 e),fun e=>(a.2 e).imp h⟩
def BornOK (arr:Array MapEntry)(clock:Nat):Prop:=(∀x∈arr.toList,x.born<clock)/\(arr.toList.map (·.born)).Nodup
theorem BornOK.empty (c:Nat):BornOK #[] c:=⟨fun x hx=>by simp at hx,by simp⟩
theorem BornOK.push {arr:Array MapEntry}{c:Nat}(h:BornOK arr c)(k v:Value):BornOK (arr.push ⟨k,v,c⟩) (c+1):=by
 refine⟨fun x hx=>?_,?_⟩
 ·rw[Array.toList_push,X23] at hx
  rcases hx with hx | hx
  ·exact Nat.lt_succ_of_lt (h.1 x hx)
  rw[X14.1 hx];exact Nat.lt_succ_self _
 rw[Array.toList_push,List.map_append,List.nodup_append]
 refine⟨h.2,by simp,fun a ha b hb e=>?_⟩
 obtain⟨x,hx,rfl⟩:=List.mem_map.1 ha
 have:=h.1 x hx
 simp only[List.map_cons,List.map_nil,X14] at hb
 omega
theorem BornOK.modify {arr:Array MapEntry}{c:Nat}(h:BornOK arr c)(j:Nat)(f:MapEntry->MapEntry)(hf :∀x,(f x).born=x.born):BornOK (arr.modify j f) c:=by
 have e:(arr.modify j f).toList.map (·.born)=arr.toList.map (·.born):=by
  apply List.ext_getElem
  ·simp
  intro i h1 h2
  simp only[List.getElem_map,Array.getElem_toList,Array.getElem_modify]
  split
  ·exact hf _
  rfl
 refine⟨fun x hx=>?_,by rw[e];exact h.2⟩
 have:x.born∈(arr.modify j f).toList.map (·.born):=List.mem_map.2 ⟨x,hx,rfl⟩
 rw[e] at this
 obtain⟨y,hy,he⟩:=List.mem_map.1 this
 rw[<- he];exact h.1 y hy
def ObjOK (S:Sc)(w:World)(φ:Nat->Option (Nat×Rp))(ob:Nat->Option OB)(r:Nat):OB->Prop
 | .box cs=>∃b c vs e,∃f:Nat->Value,φ r=some (b,c)/\w.heap[b]?=some (.cells vs e (0,0))/\vs.size=cs.length/\(∀o,¬ S b o)/\
   (∀j,j<cs.length->vs[j]?=some (f j))/\(∀j (hj:j<cs.length),cs[j].one=true/\RepA S w φ ob cs[j] (f j))
 | .row e sz es frz=>0<sz/\(∀i (hi:i<es.length),es[i].cells.length=sz)/\(∀i (hi:i<es.length) j (hj:j<es[i].cells.length),es[i].cells[j].isAgg=false)/\
   ((φ r=none/\es=[]) \/∃b cap vs,∃f:Nat->Nat->Value,φ r=some (b,cap)/\w.heap[b]?=some (.cells vs e (0,0))/\es.length<=cap.1/\cap.1<=maxLen/\cap.2+cap.1*sz<=vs.size/\
    (∀i j,i<es.length->j<sz->vs[cap.2+(i*sz+j)]?=some (f i j))/\(∀i (hi:i<es.length) j (hj:j<es[i].cells.length),RepD S w es[i].cells[j] (f i j))/\
    (∀o,(if frz.frozen then cap.2+es.length*sz else 0)<=o->¬ S b o)/\∀i j q n,frz=.lk i j q n->i<es.length->j<sz->RepA S w φ ob (.own q n) (f i j))
 | .gone=>True
 | .map _ _ es=>∃b c arr clock,φ r=some (b,c)/\w.heap[b]?=some (.map arr clock)/\(arr.size=es.length/\BornOK arr clock)/\(∀o,¬ S b o)/\
   ∀i (hi:i<es.length),∃x:MapEntry,arr[i]?=some x/\(∃u,es[i].1=.val u/\x.key=u/\u.oneCell'=true)/\RepD S w es[i].2 x.val
 | .amap _ _ es kv r' n=>∃b c arr clock,φ r=some (b,c)/\w.heap[b]?=some (.map arr clock)/\(arr.size=es.length/\BornOK arr clock)/\(∀o,¬ S b o)/\
   (∀i (hi:i<es.length),∃x:MapEntry,arr[i]?=some x/\(∃u,es[i].1=.val u/\x.key=u/\u.oneCell'=true)/\RepD S w es[i].2 x.val)/\
   AliasP kv (RepA S w φ ob (.own r' n)) arr.toList
structure Mem (E:Env)(w:World)(S:Sc)(φ:Nat->Option (Nat×Rp))(ob:Nat->Option OB):Prop where
 obj :∀r o,ob r=some o->ObjOK S w φ ob r o
 inj :∀r r' b c c',ob r≠none->ob r'≠none->φ r=some (b,c)->φ r'=some (b,c')->r=r'
 men :∀r o,ob r=some o->∀r'∈o.refs,ob r'≠none
 sS :∀b o,E.S0 b o->S b o
 kS :∀b o,E.S0 b o->cellAt w b o=cellAt E.w0 b o
 bS :∀b o,S b o->b<w.heap.size
 nS :∀b o,S b o->b<E.w0.heap.size->¬ E.PB b->E.S0 b o
 fr :∀b,b<E.w0.heap.size->¬ E.PB b->w.heap[b]?=E.w0.heap[b]?
 sz:E.w0.heap.size<=w.heap.size
 ow :∀r b c,ob r≠none->φ r=some (b,c)->b<w.heap.size/\(E.w0.heap.size<=b\/E.PB b)
 os:w.os=E.w0.os/\w.output=E.w0.output/\w.tape=E.w0.tape/\(E.wl.wl\/E.w0.drawn<=w.drawn)
theorem Mem.glob {E:Env}{w:World}{S:Sc}{φ:Nat->Option (Nat×Rp)}{ob:Nat->Option OB}(m:Mem E w S φ ob){PB:Nat->Prop}(h :∀b,PB b->∃r c,ob r≠none/\φ r=some (b,c)) :
  GlobOK E.wl E.gb PB S w:=by
 obtain⟨h1,h2,h3,h4⟩:=E.hg
 have e :∀b,E.gb b->w.heap[b]?=E.w0.heap[b]?:=fun b hb=>m.fr b (h2 b hb) (h3 b hb)
 refine⟨E.wl.ext _ _ _ e h1,fun b hb=>Nat.lt_of_lt_of_le (h2 b hb) m.sz,fun b hb hp=>?_,fun b o hb hc=>m.sS b o (h4 b o hb ?_)⟩
 ·obtain⟨r,c,q3,q4⟩:=h b hp
  rcases (m.ow r b c q3 q4).2 with h5 | h5
  ·have:=h2 b hb;omega
  exact h3 b hb h5
 intro hn
 apply hc
 rw[<- hn]
 simp[cellAt,World.cell?,e b hb]
def Closed (ob:Nat->Option OB)(a:AV):Prop:=∀r∈a.refs,ob r≠none
structure Kept (w:World)(S:Sc)(φ:Nat->Option (Nat×Rp))(ob:Nat->Option OB)(w':World)(S':Sc)(φ':Nat->Option (Nat×Rp))(ob':Nat->Option OB):Prop where
 k:Nk S w S' w'
 r :∀r,ob r≠none->RefOK φ ob φ' ob' r
 c :∀r,ob r≠none->ob' r≠none
theorem Kept.rep {w w':World}{S S':Sc}{φ φ':Nat->Option (Nat×Rp)}{ob ob':Nat->Option OB}(h:Kept w S φ ob w' S' φ' ob'){a:AV}{v:Value}
  (hc:Closed ob a) (ha:RepA S w φ ob a v):RepA S' w' φ' ob' a v:=ha.mono h.k fun r hr=>h.r r (hc r hr)
theorem Kept.closed {w w':World}{S S':Sc}{φ φ':Nat->Option (Nat×Rp)}{ob ob':Nat->Option OB}(h:Kept w S φ ob w' S' φ' ob'){a:AV}
  (hc:Closed ob a):Closed ob' a:=fun r hr=>h.c r (hc r hr)
theorem RefOK.refl (φ:Nat->Option (Nat×Rp))(ob:Nat->Option OB)(r:Nat):RefOK φ ob φ ob r:=.inl ⟨rfl,rfl,id⟩
theorem Kept.refl (w:World)(S:Sc)(φ:Nat->Option (Nat×Rp))(ob:Nat->Option OB):Kept w S φ ob w S φ ob:=
 ⟨fun _ _ h=>⟨h,rfl⟩,fun r _=>.refl φ ob r,fun _ h=>h⟩
def upd {α:Type}(f:Nat->α)(r:Nat)(x:α):Nat->α:=fun i=>if i=r then x else f i
@[simp] theorem upd_same {α:Type}(f:Nat->α)(r:Nat)(x:α):upd f r x r=x:=by simp[upd]
theorem AK {α:Type}(f:Nat->α)(r i:Nat)(x:α)(h:i≠r):upd f r x i=f i:=by simp[upd,h]
theorem Bd {w:World}{b:Nat}{vs:Array Value}{e:Nat}{fr:Nat×Nat}(h:w.heap[b]?=some (.cells vs e fr))(o:Nat):cellAt w b o=vs[o]?:=by
 simp[cellAt,World.cell?,h]
theorem G4 (w:World)(o:Obj){b:Nat}(h:b<w.heap.size):(w.alloc o).heap[b]?=w.heap[b]?:=by
 show (w.heap.push o)[b]?=_
 rw[Array.getElem?_push,if_neg (by omega)]
theorem lt_of_heap {w:World}{b:Nat}{o:Obj}(h:w.heap[b]?=some o):b<w.heap.size:=(Array.getElem?_eq_some_iff.1 h).1
theorem C4 {w w':World}{b:Nat}(h:w'.heap[b]?=w.heap[b]?)(o:Nat):cellAt w' b o=cellAt w b o:=by simp[cellAt,World.cell?,h]
theorem ObjOK.keep {w w':World}{S S':Sc}{φ φ':Nat->Option (Nat×Rp)}{ob ob':Nat->Option OB}(hk:Kept w S φ ob w' S' φ' ob'){r:Nat}{o:OB}
  (h:ObjOK S w φ ob r o) (hφ:φ' r=φ r) (hb :∀b c,φ r=some (b,c)->w'.heap[b]?=w.heap[b]?/\∀o,S' b o->S b o) (hc :∀r'∈o.refs,ob r'≠none):ObjOK S' w' φ' ob' r o:=by
 cases o with
 | box cs=>
  obtain⟨b,c,vs,e,f,h1,h2,h3,h4,h5,h6⟩:=h
  have hrefs :∀(cs:List AV) (j:Nat) (hj:j<cs.length) (r:Nat),r∈cs[j].refs->r∈AV.refs.refsL cs:=by
   intro cs
   induction cs with
   | nil=>intro i hi;simp at hi
   | cons c cs ih=>
    intro i hi r hm
    simp only[AV.refs.refsL,X23]
    cases i with
    | zero=>exact .inl hm
    | succ i=>exact .inr (ih i (by simpa using hi) r hm)
  exact⟨b,c,vs,e,f,hφ.trans h1,(hb b c h1).1.trans h2,h3,fun o ho=>h4 o ((hb b c h1).2 o ho),h5,
   fun j hj=>⟨(h6 j hj).1,hk.rep (fun r' hr'=>hc r' (hrefs cs j hj r' hr')) (h6 j hj).2⟩⟩
 | row e sz es frz=>
  obtain⟨h0,h1,h2,h3⟩:=h
  refine⟨h0,h1,h2,h3.imp (fun g=>⟨hφ.trans g.1,g.2⟩) ?_⟩
  rintro⟨b,cap,vs,f,g1,g2,g3,g4,g5,g6,g7,g8⟩
  exact⟨b,cap,vs,f,hφ.trans g1,(hb b cap g1).1.trans g2,g3,g4,g5,g6,fun i hi j hj=>(g7 i hi j hj).mono hk.k,⟨fun o ho hs=>g8.1 o ho ((hb b cap g1).2 o hs),fun i j q n hf hi hj=>hk.rep (fun q' hq=>hc q' (by subst hf;simpa[AV.refs,OB.refs] using hq)) (g8.2 i j q n hf hi hj)⟩⟩
 | gone=>trivial
 | map k e es=>
  obtain⟨b,c,arr,clock,h1,h2,h3,h4,h5⟩:=h
  refine⟨b,c,arr,clock,hφ.trans h1,(hb b c h1).1.trans h2,h3,fun o ho=>h4 o ((hb b c h1).2 o ho),fun i hi=>?_⟩
  obtain⟨x,g1,g2,g3⟩:=h5 i hi
  exact⟨x,g1,g2,g3.mono hk.k⟩
 | amap k e es kv r' n=>
  obtain⟨b,c,arr,clock,h1,h2,h3,h4,h5,h6⟩:=h
  have hr :∀{v:Value},RepA S w φ ob (.own r' n) v->RepA S' w' φ' ob' (.own r' n) v:=fun ha=>hk.rep (fun q hq=>hc q (by simpa[AV.refs,OB.refs] using hq)) ha
  refine⟨b,c,arr,clock,hφ.trans h1,(hb b c h1).1.trans h2,h3,fun o ho=>h4 o ((hb b c h1).2 o ho),fun i hi=>?_,h6.imp fun v hv=>hr hv⟩
  obtain⟨x,g1,g2,g3⟩:=h5 i hi
  exact⟨x,g1,g2,g3.mono hk.k⟩
theorem Mem.allocO {E:Env}{w:World}{S:Sc}{φ:Nat->Option (Nat×Rp)}{ob:Nat->Option OB}(m:Mem E w S φ ob)(r:Nat)(cap:Rp)(x:OB)(q:Obj)
  (hr:ob r=none) (hx :∀r'∈x.refs,ob r'≠none)
  (hok:Kept w S φ ob (w.alloc q) S (upd φ r (some (w.heap.size,cap))) (upd ob r (some x))->ObjOK S (w.alloc q) (upd φ r (some (w.heap.size,cap))) (upd ob r (some x)) r x) :
  Mem E (w.alloc q) S (upd φ r (some (w.heap.size,cap))) (upd ob r (some x))/\
  Kept w S φ ob (w.alloc q) S (upd φ r (some (w.heap.size,cap))) (upd ob r (some x)):=by
 have hlt :∀b,b<w.heap.size->(w.alloc q).heap[b]?=w.heap[b]?:=fun b hb=>G4 w _ hb
 have hne :∀r',ob r'≠none->r'≠r:=fun r' h e=>h (e ▸ hr)
 have hk:Kept w S φ ob (w.alloc q) S (upd φ r (some (w.heap.size,cap))) (upd ob r (some x)):=by
  refine⟨fun b o h=>⟨h,C4 (hlt b (m.bS b o h)) o⟩,fun r' h=>.inl ?_,fun r' h=>?_⟩
  ·rw[AK _ _ _ _ (hne r' h),AK _ _ _ _ (hne r' h)]
   exact⟨rfl,rfl,id⟩
  rw[AK _ _ _ _ (hne r' h)]
  exact h
 refine⟨⟨?_,?_,?_,m.sS,?_,?_,m.nS,?_,?_,?_,m.os⟩,hk⟩
 ·intro r' o h
  by_cases hh:r'=r
  ·subst hh
   simp only[upd_same,X24] at h
   subst h
   exact hok hk
  rw[AK _ _ _ _ hh] at h
  refine (m.obj r' o h).keep hk (AK _ _ _ _ hh) (fun b c hb=>⟨hlt b (m.ow r' b c (by simp[h]) hb).1,fun _ h=>h⟩) (m.men r' o h)
 ·intro r1 r2 b c c' h1 h2 g1 g2
  by_cases e1:r1=r
  ·by_cases e2:r2=r
   ·rw[e1,e2]
   subst e1
   rw[upd_same] at g1
   rw[AK _ _ _ _ e2] at g2 h2
   simp only[X24,X26] at g1
   have:=(m.ow r2 b c' h2 g2).1
   omega
  by_cases e2:r2=r
  ·subst e2
   rw[upd_same] at g2
   rw[AK _ _ _ _ e1] at g1 h1
   simp only[X24,X26] at g2
   have:=(m.ow r1 b c h1 g1).1
   omega
  rw[AK _ _ _ _ e1] at g1 h1
  rw[AK _ _ _ _ e2] at g2 h2
  exact m.inj r1 r2 b c c' h1 h2 g1 g2
 ·intro r' o h r'' hm
  by_cases hh:r'=r
  ·subst hh
   simp only[upd_same,X24] at h
   subst h
   exact hk.c _ (hx r'' hm)
  rw[AK _ _ _ _ hh] at h
  exact hk.c _ (m.men r' o h r'' hm)
 ·intro b o h
  exact (C4 (hlt b (m.bS b o (m.sS b o h))) o).trans (m.kS b o h)
 ·intro b o h
  have:=m.bS b o h
  simp
  omega
 ·intro b h h'
  exact (hlt b (Nat.lt_of_lt_of_le h m.sz)).trans (m.fr b h h')
 ·have:=m.sz
  simp
  omega
 intro r' b c h g
 by_cases hh:r'=r
 ·subst hh
  simp only[upd_same,X24,X26] at g
  have:=m.sz
  exact⟨by simp;omega,.inl (by omega)⟩
 rw[AK _ _ _ _ hh] at g h
 have:=m.ow r' b c h g
 exact⟨by simp;omega,this.2⟩
theorem Mem.alloc {E:Env}{w:World}{S:Sc}{φ:Nat->Option (Nat×Rp)}{ob:Nat->Option OB}(m:Mem E w S φ ob)(r:Nat)(cap:Rp)(x:OB)(vs:Array Value)(e:Nat)
  (hr:ob r=none) (hx :∀r'∈x.refs,ob r'≠none)
  (hok:Kept w S φ ob (w.alloc (.cells vs e)) S (upd φ r (some (w.heap.size,cap))) (upd ob r (some x))->ObjOK S (w.alloc (.cells vs e)) (upd φ r (some (w.heap.size,cap))) (upd ob r (some x)) r x) :
  Mem E (w.alloc (.cells vs e)) S (upd φ r (some (w.heap.size,cap))) (upd ob r (some x))/\
  Kept w S φ ob (w.alloc (.cells vs e)) S (upd φ r (some (w.heap.size,cap))) (upd ob r (some x)):=
 m.allocO r cap x (.cells vs e) hr hx hok
theorem Mem.empty {E:Env}{w:World}{S:Sc}{φ:Nat->Option (Nat×Rp)}{ob:Nat->Option OB}(m:Mem E w S φ ob)(r e sz:Nat)(hr:ob r=none)(hsz:0<sz) :
  Mem E w S (upd φ r none) (upd ob r (some (.row e sz [] .no)))/\Kept w S φ ob w S (upd φ r none) (upd ob r (some (.row e sz [] .no))):=by
 have hne :∀r',ob r'≠none->r'≠r:=fun r' h e=>h (e ▸ hr)
 have hk:Kept w S φ ob w S (upd φ r none) (upd ob r (some (.row e sz [] .no))):=by
  refine⟨fun b o h=>⟨h,rfl⟩,fun r' h=>.inl ?_,fun r' h=>?_⟩
  ·rw[AK _ _ _ _ (hne r' h),AK _ _ _ _ (hne r' h)]
   exact⟨rfl,rfl,id⟩
  rw[AK _ _ _ _ (hne r' h)]
  exact h
 refine⟨⟨?_,?_,?_,m.sS,m.kS,m.bS,m.nS,m.fr,m.sz,?_,m.os⟩,hk⟩
 ·intro r' o h
  by_cases hh:r'=r
  ·subst hh
   simp only[upd_same,X24] at h
   subst h
   exact⟨hsz,fun i hi=>by simp at hi,fun i hi=>by simp at hi,.inl ⟨upd_same _ _ _,rfl⟩⟩
  rw[AK _ _ _ _ hh] at h
  exact (m.obj r' o h).keep hk (AK _ _ _ _ hh) (fun b c hb=>⟨rfl,fun _ h=>h⟩) (m.men r' o h)
 ·intro r1 r2 b c c' h1 h2 g1 g2
  by_cases e1:r1=r
  ·subst e1;simp at g1
  by_cases e2:r2=r
  ·subst e2;simp at g2
  rw[AK _ _ _ _ e1] at g1 h1
  rw[AK _ _ _ _ e2] at g2 h2
  exact m.inj r1 r2 b c c' h1 h2 g1 g2
 ·intro r' o h r'' hm
  by_cases hh:r'=r
  ·subst hh
   simp only[upd_same,X24] at h
   subst h
   simp[OB.refs] at hm
  rw[AK _ _ _ _ hh] at h
  exact hk.c _ (m.men r' o h r'' hm)
 intro r' b c h g
 by_cases hh:r'=r
 ·subst hh;simp at g
 rw[AK _ _ _ _ hh] at g h
 exact m.ow r' b c h g
theorem Mem.set {E:Env}{w:World}{S:Sc}{φ:Nat->Option (Nat×Rp)}{ob:Nat->Option OB}(m:Mem E w S φ ob)(r:Nat)(o0 x:OB)(w':World)(l:Option (Nat×Rp))
  (h0:ob r=some o0) (hw :∀k,k<w.heap.size->(∀c,φ r≠some (k,c))->w'.heap[k]?=w.heap[k]?) (hs:w.heap.size<=w'.heap.size)
  (hos:w'.os=w.os/\w'.output=w.output/\w'.tape=w.tape/\w.drawn<=w'.drawn) (hkp :∀b c o,φ r=some (b,c)->S b o->cellAt w' b o=cellAt w b o)
  (hl:l=φ r \/∃b c,l=some (b,c)/\w.heap.size<=b/\b<w'.heap.size)
  (hr:RefOK φ ob (upd φ r l) (upd ob r (some x)) r) (hx :∀r'∈x.refs,ob r'≠none)
  (hok:Kept w S φ ob w' S (upd φ r l) (upd ob r (some x))->ObjOK S w' (upd φ r l) (upd ob r (some x)) r x) :
  Mem E w' S (upd φ r l) (upd ob r (some x))/\Kept w S φ ob w' S (upd φ r l) (upd ob r (some x)):=by
 have hk:Kept w S φ ob w' S (upd φ r l) (upd ob r (some x)):=by
  refine⟨fun b o h=>⟨h,?_⟩,fun r' h=>?_,fun r' h=>?_⟩
  ·by_cases hb :∃c,φ r=some (b,c)
   ·obtain⟨c,hc⟩:=hb
    exact hkp b c o hc h
   exact C4 (hw b (m.bS b o h) fun c hc=>hb ⟨c,hc⟩) o
  ·by_cases hh:r'=r
   ·rw[hh];exact hr
   refine .inl ?_
   rw[AK _ _ _ _ hh,AK _ _ _ _ hh]
   exact⟨rfl,rfl,id⟩
  by_cases hh:r'=r
  ·rw[hh];simp
  rw[AK _ _ _ _ hh];exact h
 have hr0:ob r≠none:=by simp[h0]
 refine⟨⟨?_,?_,?_,m.sS,?_,?_,m.nS,?_,?_,?_,?_⟩,hk⟩
 ·intro r' o h
  by_cases hh:r'=r
  ·subst hh
   simp only[upd_same,X24] at h
   subst h
   exact hok hk
  rw[AK _ _ _ _ hh] at h
  refine (m.obj r' o h).keep hk (AK _ _ _ _ hh) (fun b c hb=>⟨hw b (m.ow r' b c (by simp[h]) hb).1 fun c' hc'=>hh (m.inj r' r b c c' (by simp[h]) hr0 hb hc'),fun _ h=>h⟩) (m.men r' o h)
 ·intro r1 r2 b c c' h1 h2 g1 g2
  by_cases e1:r1=r
  ·by_cases e2:r2=r
   ·rw[e1,e2]
   rw[e1,upd_same] at g1
   rw[AK _ _ _ _ e2] at g2 h2
   rcases hl with hl | ⟨b',c'',hl,hl2,_⟩
   ·exact e1 ▸ m.inj r r2 b c c' hr0 h2 (hl ▸ g1) g2
   rw[hl] at g1
   simp only[X24,X26] at g1
   have:=(m.ow r2 b c' h2 g2).1
   omega
  by_cases e2:r2=r
  ·rw[e2,upd_same] at g2
   rw[AK _ _ _ _ e1] at g1 h1
   rcases hl with hl | ⟨b',c'',hl,hl2,_⟩
   ·exact e2 ▸ m.inj r1 r b c c' h1 hr0 g1 (hl ▸ g2)
   rw[hl] at g2
   simp only[X24,X26] at g2
   have:=(m.ow r1 b c h1 g1).1
   omega
  rw[AK _ _ _ _ e1] at g1 h1
  rw[AK _ _ _ _ e2] at g2 h2
  exact m.inj r1 r2 b c c' h1 h2 g1 g2
 ·intro r' o h r'' hm
  by_cases hh:r'=r
  ·subst hh
   simp only[upd_same,X24] at h
   subst h
   exact hk.c _ (hx r'' hm)
  rw[AK _ _ _ _ hh] at h
  exact hk.c _ (m.men r' o h r'' hm)
 ·intro b o h
  exact (hk.k b o (m.sS b o h)).2.trans (m.kS b o h)
 ·intro b o h
  exact Nat.lt_of_lt_of_le (m.bS b o h) hs
 ·intro b h h'
  refine (hw b (Nat.lt_of_lt_of_le h m.sz) fun c hc=>?_).trans (m.fr b h h')
  rcases (m.ow r b c hr0 hc).2 with g | g
  ·omega
  exact h' g
 ·exact Nat.le_trans m.sz hs
 ·intro r' b c h g
  by_cases hh:r'=r
  ·subst hh
   rw[upd_same] at g
   rcases hl with hl | ⟨b',c',hl,hl2,hl3⟩
   ·have:=m.ow r' b c hr0 (hl ▸ g)
    exact⟨by omega,this.2⟩
   rw[hl] at g
   simp only[X24,X26] at g
   have:=m.sz
   exact⟨by omega,.inl (by omega)⟩
  rw[AK _ _ _ _ hh] at g h
  have:=m.ow r' b c h g
  exact⟨by omega,this.2⟩
 obtain⟨a1,a2,a3,a4⟩:=hos
 obtain⟨b1,b2,b3,b4⟩:=m.os
 exact⟨a1.trans b1,a2.trans b2,a3.trans b3,b4.imp_right fun h=>Nat.le_trans h a4⟩
theorem Mem.freeze {E:Env}{w:World}{S:Sc}{φ:Nat->Option (Nat×Rp)}{ob:Nat->Option OB}(m:Mem E w S φ ob)(r e sz:Nat)(es:List D)(frz:FZ)
  (h0:ob r=some (.row e sz es frz)) :∃S',Mem E w S' φ (upd ob r (some (.row e sz es .yes)))/\Kept w S φ ob w S' φ (upd ob r (some (.row e sz es .yes)))/\
   ∀v,Ib φ r es.length v->RepD S' w (.lst sz es) v:=by
 let S':Sc:=fun b o=>S b o \/∃c,φ r=some (b,c)/\c.2<=o/\o<c.2+es.length*sz
 have hr0:ob r≠none:=by simp[h0]
 have hS :∀b o,S b o->S' b o:=fun b o h=>.inl h
 have hk:Kept w S φ ob w S' φ (upd ob r (some (.row e sz es .yes))):=by
  refine⟨fun b o h=>⟨hS b o h,rfl⟩,fun r' h=>?_,fun r' h=>?_⟩
  ·by_cases hh:r'=r
   ·subst hh
    refine .inl ⟨rfl,?_,?_⟩
    ·simp[h0,hdr]
    rintro⟨cs,hcs⟩;simp at hcs
   refine .inl ?_
   rw[AK _ _ _ _ hh]
   exact⟨rfl,rfl,id⟩
  by_cases hh:r'=r
  ·rw[hh];simp
  rw[AK _ _ _ _ hh];exact h
 have hobj:=m.obj r _ h0
 refine⟨S',⟨?_,?_,?_,fun b o h=>hS b o (m.sS b o h),m.kS,?_,?_,m.fr,m.sz,?_,m.os⟩,hk,?_⟩
 ·intro r' o h
  by_cases hh:r'=r
  ·subst hh
   simp only[upd_same,X24] at h
   subst h
   obtain⟨g0,g1,g2,g3⟩:=hobj
   refine⟨g0,g1,g2,g3.imp id ?_⟩
   rintro⟨b,cap,vs,f,f1,f2,f3,f4,f5,f6,f7,f8⟩
   refine⟨b,cap,vs,f,f1,f2,f3,f4,f5,f6,fun i hi j hj=>(f7 i hi j hj).mono hk.k,fun o ho hs=>?_,fun _ _ _ _ h=>nomatch h⟩
   simp only[FZ.frozen_yes,if_true] at ho
   rcases hs with hs | ⟨c',hc',_,hs⟩
   ·refine f8.1 o ?_ hs
    cases frz<;>simp
    exact ho
   rw[f1] at hc'
   simp only[X24,X26,true_and] at hc'
   subst hc'
   omega
  rw[AK _ _ _ _ hh] at h
  refine (m.obj r' o h).keep hk rfl (fun b c hb=>⟨rfl,fun o ho=>?_⟩) (m.men r' o h)
  rcases ho with ho | ⟨c',hc',_⟩
  ·exact ho
  exact absurd (m.inj r' r b c c' (by simp[h]) hr0 hb hc') hh
 ·intro r1 r2 b c c' h1 h2 g1 g2
  refine m.inj r1 r2 b c c' ?_ ?_ g1 g2
  ·by_cases e1:r1=r
   ·rw[e1];exact hr0
   rwa [AK _ _ _ _ e1] at h1
  by_cases e2:r2=r
  ·rw[e2];exact hr0
  rwa [AK _ _ _ _ e2] at h2
 ·intro r' o h r'' hm
  by_cases hh:r'=r
  ·subst hh
   simp only[upd_same,X24] at h
   subst h
   simp[OB.refs] at hm
  rw[AK _ _ _ _ hh] at h
  exact hk.c _ (m.men r' o h r'' hm)
 ·intro b o h
  rcases h with h | ⟨c,hc,_⟩
  ·exact m.bS b o h
  exact (m.ow r b c hr0 hc).1
 ·intro b o h h1 h2
  rcases h with h | ⟨c,hc,_⟩
  ·exact m.nS b o h h1 h2
  rcases (m.ow r b c hr0 hc).2 with g | g
  ·omega
  exact absurd g h2
 ·intro r' b c h g
  refine m.ow r' b c ?_ g
  by_cases e1:r'=r
  ·rw[e1];exact hr0
  rwa [AK _ _ _ _ e1] at h
 intro v hv
 obtain⟨g0,g1,g2,g3⟩:=hobj
 rcases hv with ⟨a1,a2,a3,rfl⟩|⟨b,cap,a1,rfl⟩
 ·have:es=[]:=List.eq_nil_of_length_eq_zero a2
  subst this
  exact .lst0 sz _ _
 rcases g3 with ⟨b1,rfl⟩|⟨b',cap',vs,f,f1,f2,f3,f4,f5,f6,f7,f8⟩
 ·rw[b1] at a1;simp at a1
 rw[f1] at a1
 simp only[X24,X26] at a1
 obtain⟨rfl,rfl⟩:=a1
 refine .lst sz es b' cap'.2 cap'.1 f (Nat.le_trans f3 f4) f3 g1 (fun i j hi hj=>⟨.inr ⟨cap',f1,?_,?_⟩,?_⟩) g2 fun i hi j hj=>(f7 i hi j hj).mono hk.k
 ·omega
 ·have:(i+1)*sz<=es.length*sz:=X31 _ hi
  rw[X32] at this
  omega
 rw[Bd f2,Nat.add_assoc]
 exact f6 i j hi hj
theorem RefOK.trans {φ φ' φ'':Nat->Option (Nat×Rp)}{ob ob' ob'':Nat->Option OB}{r:Nat}(h:RefOK φ ob φ' ob' r)(k:RefOK φ' ob' φ'' ob'' r):RefOK φ ob φ'' ob'' r:=by
 rcases h with ⟨a1,a2,a3⟩|⟨e,sz,es,frz,es',frz',a1,a2,a3,a4⟩|⟨a1,a2,a3⟩
 ·rcases k with ⟨b1,b2,b3⟩|⟨e,sz,es,frz,es',frz',b1,b2,b3,b4⟩|⟨⟨e,sz,es,frz,b1⟩,b2,b3⟩
  ·exact .inl ⟨b1.trans a1,b2.trans a2,fun x=>a3 (b3 x)⟩
  ·obtain⟨es0,f0,c1,c2⟩:=Ic b1 a2
   exact .inr (.inl ⟨e,sz,es0,f0,es',frz',c1,b2,by omega,fun hh=>(b4 (by omega)).trans a1⟩)
  obtain⟨es0,f0,c1,_⟩:=Ic b1 a2
  exact .inr (.inr ⟨⟨e,sz,es0,f0,c1⟩,b2,b3⟩)
 ·rcases k with ⟨b1,b2,b3⟩|⟨e2,sz2,es2,frz2,es3,frz3,b1,b2,b3,b4⟩|⟨_,b2,b3⟩
  ·obtain⟨es0,f0,c1,c2⟩ :∃es0 f0,ob'' r=some (.row e sz es0 f0)/\es0.length=es'.length:=by
    rw[a2] at b2
    cases h'':ob'' r with
    | none=>rw[h''] at b2;simp[hdr] at b2
    | some o=>
     rw[h''] at b2
     cases o with
     | box cs=>simp[hdr] at b2
     | map=>simp[hdr] at b2
     | amap=>simp[hdr] at b2
     | gone=>simp[hdr] at b2
     | row e' sz' es'' f=>simp[hdr] at b2;exact⟨es'',f,by simp[b2],b2.2.2⟩
   exact .inr (.inl ⟨e,sz,es,frz,es0,f0,a1,c1,by omega,fun hh=>b1.trans (a4 (by omega))⟩)
  ·rw[a2] at b1
   simp only[X24,OB.row.injEq] at b1
   obtain⟨rfl,rfl,rfl,rfl⟩:=b1
   exact .inr (.inl ⟨e,sz,es,frz,es3,frz3,a1,b2,by omega,fun hh=>(b4 (by omega)).trans (a4 (by omega))⟩)
  exact .inr (.inr ⟨⟨e,sz,es,frz,a1⟩,b2,b3⟩)
 rcases k with ⟨b1,b2,b3⟩|⟨e2,sz2,es2,frz2,es3,frz3,b1,b2,b3,b4⟩|⟨⟨e,sz,es,frz,b1⟩,_⟩
 ·exact .inr (.inr ⟨a1,b2.trans a2,fun cs hx=>by
   obtain⟨cs',h'⟩:=b3 ⟨cs,hx⟩
   exact a3 cs' h'⟩)
 ·exact absurd b1 (Ru a2 _ _ _ _)
 exact absurd b1 (Ru a2 _ _ _ _)
theorem Kept.trans {w w' w'':World}{S S' S'':Sc}{φ φ' φ'':Nat->Option (Nat×Rp)}{ob ob' ob'':Nat->Option OB}(h:Kept w S φ ob w' S' φ' ob')(k:Kept w' S' φ' ob' w'' S'' φ'' ob'') :
  Kept w S φ ob w'' S'' φ'' ob'':=
 ⟨fun b o hs=>⟨(k.k b o (h.k b o hs).1).1,(k.k b o (h.k b o hs).1).2.trans (h.k b o hs).2⟩,fun r hr=>(h.r r hr).trans (k.r r (h.c r hr)),fun r hr=>k.c r (h.c r hr)⟩
end Go.AX
end
section
namespace Go.AX
def KindOk (P:Program)(t:Nat):TK->Prop
 | .bool=>P.underlying t=some .bool
 | .int k=>P.underlying t=some (.int k)
 | .str=>P.underlying t=some .string
 | .ptr=>∃e,P.underlying t=some (.pointer e)
 | .fn=>∃a b c,P.underlying t=some (.func a b c)
 | .slice e=>P.underlying t=some (.slice e)
 | .arr n e=>P.underlying t=some (.array n e)
 | .map k e=>P.underlying t=some (.map k e)
 | .struct fs=>P.stoodInHeld t=false/\P.eqGuardType P.depth t=false/\∃F:Array Field,P.underlying t=some (.struct F)/\
   F.toList.map (fun f => (f.offset, (P.info? f.type).map (·.size), f.type)) = fs.map (fun x => (x.1, some x.2.1, x.2.2)) ∧ ∀ f ∈ F.toList, f.name ≠ "_"
 | .other=>True
def Iu:D->Value->Prop
 | .val v,v'=>v=v'/\v.oneCell'=true
 | .nil _,v'=>v'=.slice none 0 0
 | _,_=>False
structure TiOk (P:Program)(t:Nat)(ti:TI):Prop where
 info :∃i z,P.info? t=some i/\i.size=ti.size/\i.bytes=ti.bytes/\i.zero=some z/\z.cells.size=ti.size/\ti.zero.length=ti.size/\
  ∀j (hj:j<ti.zero.length) v,z.cells[j]?=some v->Iu ti.zero[j] v
 kind:KindOk P t ti.kind
 aggz :∀i z,P.info? t=some i->i.zero=some z->(ti.kind.cls=some true->∃cs,z=.agg cs)/\(ti.kind.cls=some false->∀cs,z≠.agg cs)
def TabOk (P:Program)(T:TT):Prop:=∀t,(T.get t).kind.cls=none\/TiOk P t (T.get t)
section
variable {P:Program} {T:TT}
theorem TabOk.of (h:TabOk P T){t:Nat}(hk:(T.get t).kind.cls≠none):TiOk P t (T.get t):=(h t).resolve_left hk
theorem TiOk.info1 {t:Nat}{ti:TI}(h:TiOk P t ti):(P.info? t).map (·.size)=some ti.size:=by
 obtain⟨i,z,h1,h2,_⟩:=h.info
 simp[h1,h2]
theorem KindOk.plain {t:Nat}{k:TK}(h:KindOk P t k)(hc:k.cls=some false) :∃d,P.underlying t=some d/\d.isRow=false:=by
 cases k<;>simp[TK.cls] at hc<;>simp only[KindOk] at h
 case ptr=>obtain⟨e,h⟩:=h;exact⟨_,h,rfl⟩
 case fn=>obtain⟨a,b,c,h⟩:=h;exact⟨_,h,rfl⟩
 all_goals exact⟨_,h,rfl⟩
theorem KindOk.row {t:Nat}{k:TK}(h:KindOk P t k)(hc:k.cls=some true) :∃d,P.underlying t=some d/\d.isRow=true:=by
 cases k<;>simp[TK.cls] at hc<;>simp only[KindOk] at h
 case arr=>exact⟨_,h,rfl⟩
 case struct=>obtain⟨_,_,F,h,_⟩:=h;exact⟨_,h,rfl⟩
theorem Og {t:Nat}{d:TypeDesc}(h:P.underlying t=some d)(w:World):(isAgg t).run P w=.ok d.isRow w:=by
 unfold isAgg
 rw[Sem.run_bind,run_underlying h w]
 cases d<;>rfl
def Au (ob:Nat->Option OB):W->Nat->Option OB
 | []=>ob
 | (r,x)::w=>Au (upd ob r (some x)) w
def RunOK (P:Program)(o:Oper)(ρ:Operand->Value)(w:World)(Q:Value->World->Prop):Prop:=
 match (execOp ρ o).run P w with
 | .ok (.value v) w'=>Q v w'
 | .ok .skip w'=>Q undef w'
 | .ok (.enter f args) w'=>Calls P f args w' fun e w''=>∃v,e=.returned v/\Q v w''
 | _=>False
def Post (E:Env)(w:World)(S:Sc)(φ:Nat->Option (Nat×Rp))(ob:Nat->Option OB)(out:AV)(wr:W)(v:Value)(w':World):Prop:=
 ∃S' φ',Mem E w' S' φ' (Au ob wr)/\Kept w S φ ob w' S' φ' (Au ob wr)/\RepA S' w' φ' (Au ob wr) out v/\Closed (Au ob wr) out
variable {E:Env} {w:World} {S:Sc} {φ:Nat->Option (Nat×Rp)} {ob:Nat->Option OB}
theorem Post.pure (m:Mem E w S φ ob){out:AV}{v:Value}(h:RepA S w φ ob out v)(hc:Closed ob out):Post E w S φ ob out [] v w:=
 ⟨S,φ,m,.refl w S φ ob,h,hc⟩
theorem BJ (ob:Nat->Option OB)(x:D):Closed ob (.d x):=fun r hr=>by simp[AV.refs] at hr
theorem GW (ob:Nat->Option OB):Closed ob .dead:=fun r hr=>by simp[AV.refs] at hr
theorem RepA.int {k:IntKind}{n:Int}{v:Value}(h:RepA S w φ ob (.d (.val (.int k n))) v):v=.int k n:=by
 cases h with | d _ _ h=>cases h with | val _ _=>rfl
theorem RepA.bool {b:Bool}{v:Value}(h:RepA S w φ ob (.d (.val (.bool b))) v):v=.bool b:=by
 cases h with | d _ _ h=>cases h with | val _ _=>rfl
theorem RepA.str {s:ByteArray}{v:Value}(h:RepA S w φ ob (.d (.val (.string s))) v):v=.string s:=by
 cases h with | d _ _ h=>cases h with | val _ _=>rfl
theorem RepA.val {x v:Value}(h:RepA S w φ ob (.d (.val x)) v):v=x:=by
 cases h with | d _ _ h=>cases h with | val _ _=>rfl
theorem RepA.ref' {r off:Nat}{v:Value}(h:RepA S w φ ob (.ref r off) v) :∃b c,φ r=some (b,c)/\v=.pointer (some ⟨b,off,none⟩):=by
 cases h with | ref _ _ b c h hb=>exact⟨b,c,h,rfl⟩
theorem Bo (l:List (Option OB))(r:Nat)(o:OB):l.getD r none=some o->r<l.length:=by
 intro h
 rcases Nat.lt_or_ge r l.length with hl | hl
 ·exact hl
 simp[hl] at h
theorem Addr.add_none (b o n:Nat):(⟨b,o,none⟩:Addr).add n=⟨b,o+n,none⟩:=Addr.add_mid b o n
theorem AV.refs_mem :∀(cs:List AV) (j:Nat) (hj:j<cs.length) (r:Nat),r∈cs[j].refs->r∈AV.refs.refsL cs
 | [],j,hj,_,_=>by simp at hj
 | c::cs,0,_,r,hm=>by simp only[AV.refs.refsL,X23];exact .inl hm
 | c::cs,j+1,hj,r,hm=>by
  simp only[AV.refs.refsL,X23]
  exact .inr (AV.refs_mem cs j (by simpa using hj) r hm)
theorem AV.refs_mem' :∀(cs:List AV) (r:Nat),r∈AV.refs.refsL cs->∃c∈cs,r∈c.refs
 | [],r,h=>by simp[AV.refs.refsL] at h
 | c::cs,r,h=>by
  simp only[AV.refs.refsL,X23] at h
  rcases h with h | h
  ·exact⟨c,by simp,h⟩
  obtain⟨c',h1,h2⟩:=AV.refs_mem' cs r h
  exact⟨c',by simp[h1],h2⟩
theorem Nr {cs:List AV}{vs:Array Value}(hs:vs.size=cs.length)(h :∀i (hi:i<cs.length),∃v,vs[i]?=some v/\cs[i].one=true/\RepA S w φ ob cs[i] v) :
  RepA S w φ ob (Ye cs) (.agg vs):=by
 have hv :∀i (hi:i<cs.length),vs[i]?=some (vs.getD i undef):=fun i hi=>by
  obtain⟨v,h1,_⟩:=h i hi
  simp[h1]
 have hr :∀i (hi:i<cs.length),RepA S w φ ob cs[i] (vs.getD i undef):=fun i hi=>by
  obtain⟨v,h1,_,h3⟩:=h i hi
  simpa[h1] using h3
 unfold Ye
 cases hc:SN cs with
 | none=>exact .agg cs vs _ hs hv (fun i hi=>by obtain⟨v,_,h2,_⟩:=h i hi;exact h2) hr
 | some l=>
  have:=XO cs l hc
  subst this
  refine .d _ _ (.agg l vs _ (by simpa using hs) (fun i hi=>hv i (by simpa using hi)) (fun i hi=>?_) fun i hi=>?_)
  ·obtain⟨v,_,h2,_⟩:=h i (by simpa using hi)
   simpa[AV.one] using h2
  have:=hr i (by simpa using hi)
  simp only[List.getElem_map] at this
  cases this with | d _ _ h=>exact h
theorem Ik {cs:List AV}(h :∀c∈cs,Closed ob c):Closed ob (Ye cs):=by
 unfold Ye
 cases hc:SN cs with
 | some l=>exact BJ ob _
 | none=>
  intro r hr
  obtain⟨c,h1,h2⟩:=AV.refs_mem' cs r (by simpa[AV.refs] using hr)
  exact h c h1 r h2
theorem PK {a:AV}{v:Value}{cs:List AV}(h:RepA S w φ ob a v)(hc:DW a=some cs) :
  v.cells.size=cs.length/\∀i (hi:i<cs.length),∃u,v.cells[i]?=some u/\cs[i].one=true/\RepA S w φ ob cs[i] u:=by
 have one :∀{a:AV} {v:Value},RepA S w φ ob a v->a.one=true->v.cells.size=[a].length/\∀i (hi:i<[a].length),∃u,v.cells[i]?=some u/\[a][i].one=true/\RepA S w φ ob [a][i] u:=by
  intro a v h h1
  have h2:=h.one h1
  have hv:v.cells=#[v]:=by cases v<;>first | rfl | simp[Value.oneCell'] at h2
  refine⟨by simp[hv],fun i hi=>?_⟩
  have:i=0:=by simpa using hi
  subst this
  exact⟨v,by simp[hv],h1,h⟩
 cases a with
 | d x=>
  cases x with
  | agg l=>
   simp only[DW] at hc
   obtain⟨h1,h2⟩:=MR l cs hc
   subst h1
   cases h with | d _ _ h=>cases h with | agg _ vs f hs hf hn hr=>
    refine⟨by simp[Value.cells,hs],fun i hi=>⟨f i,?_,?_,?_⟩⟩
    ·exact hf i (by simpa using hi)
    ·simpa[AV.one] using hn i (by simpa using hi)
    simpa using RepA.d _ _ (hr i (by simpa using hi))
  | val v=>simp only[DW,X24] at hc;subst hc;exact one h rfl
  | nil=>simp only[DW,X24] at hc;subst hc;exact one h rfl
  | lst=>simp only[DW,X24] at hc;subst hc;exact one h rfl
 | agg l=>
  simp only[DW,X24] at hc
  subst hc
  cases h with | agg _ vs f hs hf hn hr=>exact⟨by simp[Value.cells,hs],fun i hi=>⟨f i,hf i hi,hn i hi,hr i hi⟩⟩
 | ref=>simp only[DW,X24] at hc;subst hc;exact one h rfl
 | own=>simp only[DW,X24] at hc;subst hc;exact one h rfl
 | mp=>simp only[DW,X24] at hc;subst hc;exact one h rfl
 | fn=>simp only[DW,X24] at hc;subst hc;exact one h rfl
 | _=>simp[DW] at hc
theorem J2 {a:AV}{cs:List AV}(h:Closed ob a)(hc:DW a=some cs) :∀c∈cs,Closed ob c:=by
 cases a with
 | d x=>
  cases x with
  | agg l=>
   simp only[DW] at hc
   obtain⟨h1,_⟩:=MR l cs hc
   subst h1
   intro c hm
   obtain⟨x,_,rfl⟩:=List.mem_map.1 hm
   exact BJ ob x
  | _=>simp only[DW,X24] at hc;subst hc;intro c hm;rw[X14.1 hm];exact h
 | agg l=>
  simp only[DW,X24] at hc
  subst hc
  intro c hm r hr
  obtain⟨j,hj,rfl⟩:=List.getElem_of_mem hm
  exact h r (AV.refs_mem l j hj r hr)
 | ref=>simp only[DW,X24] at hc;subst hc;intro c hm;rw[X14.1 hm];exact h
 | own=>simp only[DW,X24] at hc;subst hc;intro c hm;rw[X14.1 hm];exact h
 | mp=>simp only[DW,X24] at hc;subst hc;intro c hm;rw[X14.1 hm];exact h
 | fn=>simp only[DW,X24] at hc;subst hc;intro c hm;rw[X14.1 hm];exact h
 | _=>simp[DW] at hc
theorem EL {t:Nat}{d:TypeDesc}(hu:P.underlying t=some d)(hd:d.isRow=false){b o:Nat}{v:Value}(h:cellAt w b o=some v) :
  (loadVar t ⟨b,o,none⟩).run P w=.ok v w:=by
 have:w.cell? ⟨b,o,none⟩=some v:=h
 simp[loadVar,Og hu,hd,this]
theorem JZ {t:Nat}{ti:TI}(hti:TiOk P t ti)(hc:ti.kind.cls=some true){b o:Nat}{vs:List Value}(hl:vs.length=ti.size)
  (h :∀j v,vs[j]?=some v->cellAt w b (o+j)=some v):(loadVar t ⟨b,o,none⟩).run P w=.ok (.agg vs.toArray) w:=by
 obtain⟨d,hu,hd⟩:=hti.kind.row hc
 exact run_loadVar_mid w b o t vs d h hu hd (by rw[hti.info1,hl])
theorem Py {obl:List (Option OB)}(hT:TabOk P T)(m:Mem E w S φ (fun r=>obl.getD r none)){t:Nat}{a:AV}{v:Value}{K:AV->Prop}(ha:RepA S w φ (fun r=>obl.getD r none) a v)
  (hc:Closed (fun r=>obl.getD r none) a) (h:Va T t a obl K) :
  ∃out u,K out/\(Instr.loadAt t v).run P w=.ok u w/\RepA S w φ (fun r=>obl.getD r none) out u/\Closed (fun r=>obl.getD r none) out:=by
 cases a<;>simp only[Va] at h
 case ref r off=>
  obtain⟨b,c,hφ,rfl⟩:=ha.ref'
  rw[A1] at h
  obtain⟨o,ho,h⟩:=h
  cases o with
  | row=>simp at h
  | map=>simp at h
  | amap=>simp at h
  | gone=>simp at h
  | box cs=>
   simp only at h
   obtain⟨b',c',vs,e,f,g1,g2,g3,g4,g5,g6⟩:=m.obj r _ ho
   rw[hφ] at g1
   simp only[X24,X26] at g1
   obtain⟨rfl,rfl⟩:=g1
   have hcell :∀j,j<cs.length->cellAt w b j=some (f j):=fun j hj=>by rw[Bd g2];exact g5 j hj
   have hclo :∀c∈cs,Closed (fun r=>obl.getD r none) c:=fun c hm r' hr'=>by
    obtain⟨j,hj,rfl⟩:=List.getElem_of_mem hm
    exact m.men r _ ho r' (by simpa[OB.refs] using AV.refs_mem cs j hj r' hr')
   cases hcl:(T.get t).kind.cls with
   | none=>simp[hcl] at h
   | some q=>
    have hti:=hT.of (t:=t) (by rw[hcl];simp)
    cases q with
    | true=>
     simp only[hcl,G0,AI,GX,Gy,Nat.ble_eq] at h
     obtain⟨hle,hK⟩:=h
     simp only[X17] at hle
     let vl:List Value:=(List.range (T.get t).size).map fun j=>f (off+j)
     have hlen:((cs.drop off).take (T.get t).size).length=(T.get t).size:=by simp;omega
     refine⟨_,.agg vl.toArray,hK,?_,?_,?_⟩
     ·simp only[Instr.loadAt,Instr.sureAddr,Sem.run_bind,Sem.run_pure,Result.andThen_ok]
      refine JZ hti hcl (by simp[vl]) fun j u hu=>?_
      simp only[vl,List.getElem?_map,Option.map_eq_some_iff] at hu
      obtain⟨j',hj',rfl⟩:=hu
      obtain⟨h1,h2⟩:=X16.1 hj'
      simp at h1 h2
      subst h2
      exact hcell _ (by omega)
     ·refine Nr (by rw[hlen];simp[vl]) fun i hi=>⟨f (off+i),?_,?_,?_⟩
      ·rw[hlen] at hi
       simp[vl,hi]
      ·simp only[List.getElem_take,List.getElem_drop]
       rw[hlen] at hi
       exact (g6 (off+i) (by omega)).1
      simp only[List.getElem_take,List.getElem_drop]
      rw[hlen] at hi
      exact (g6 (off+i) (by omega)).2
     exact Ik fun c hm=>hclo c (List.mem_of_mem_drop (List.mem_of_mem_take hm))
    | false=>
     simp only[hcl] at h
     cases hg:cs[off]? with
     | none=>simp[hg] at h
     | some x=>
      simp only[hg,Bn] at h
      obtain⟨h1,h2⟩:=X16.1 hg
      obtain⟨d,hu,hd⟩:=hti.kind.plain hcl
      refine⟨x,f off,h,?_,h2 ▸ (g6 off h1).2,hclo x (List.mem_of_getElem? hg)⟩
      simp only[Instr.loadAt,Instr.sureAddr,Sem.run_bind,Sem.run_pure,Result.andThen_ok,EL hu hd (hcell off h1)]
 case eref cs=>
  cases ha with | eref _ b o f hS hn hr=>
   cases hcl:(T.get t).kind.cls with
   | none=>simp[hcl] at h
   | some q=>
    have hti:=hT.of (t:=t) (by rw[hcl];simp)
    cases q with
    | true=>
     simp only[hcl,AI,GX,Nat.ble_eq] at h
     obtain⟨hle,hK⟩:=h
     let vl:List Value:=(List.range (T.get t).size).map fun j=>f j
     refine⟨_,.agg vl.toArray,hK,?_,?_,BJ _ _⟩
     ·simp only[Instr.loadAt,Instr.sureAddr,Sem.run_bind,Sem.run_pure,Result.andThen_ok]
      refine JZ hti hcl (by simp[vl]) fun j u hu=>?_
      simp only[vl,List.getElem?_map,Option.map_eq_some_iff] at hu
      obtain⟨j',hj',rfl⟩:=hu
      obtain⟨h1,h2⟩:=X16.1 hj'
      simp at h1 h2
      subst h2
      exact (hS _ (by omega)).2
     refine .d _ _ (.agg _ _ f (by simp[vl];omega) (fun i hi=>?_) (fun i hi=>?_) fun i hi=>?_)
     ·simp only[X18] at hi
      have:=Nat.lt_of_lt_of_le hi (Nat.min_le_left _ _)
      simp[vl,this]
     ·simp only[List.getElem_take]
      exact hn i _
     simp only[List.getElem_take]
     exact hr i _
    | false=>
     simp only[hcl] at h
     cases hg:cs[0]? with
     | none=>simp[hg] at h
     | some x=>
      simp only[hg] at h
      obtain⟨h1,h2⟩:=X16.1 hg
      obtain⟨d,hu,hd⟩:=hti.kind.plain hcl
      refine⟨.d x,f 0,h,?_,h2 ▸ .d _ _ (hr 0 h1),BJ _ _⟩
      simp only[Instr.loadAt,Instr.sureAddr,Sem.run_bind,Sem.run_pure,Result.andThen_ok,EL hu hd (by simpa using (hS 0 h1).2)]
 case rref r n i k=>
  rw[A1] at h
  obtain⟨o,ho,h⟩:=h
  cases o with
  | box cs=>
   simp only at h
   cases hcl:(T.get t).kind.cls with
   | none=>simp[hcl] at h
   | some q=>
    cases q with
    | true=>simp[hcl] at h
    | false=>
     simp only[hcl,Bn] at h
     obtain⟨x,hg,h⟩:=h
     have hti:=hT.of (t:=t) (by rw[hcl];simp)
     obtain⟨b',c',vs,e,f,g1,g2,g3,g4,g5,g6⟩:=m.obj r _ ho
     cases ha with | rref _ _ _ _ _ h1 hb hp=>
     obtain⟨b,c,hφ,rfl⟩:=hb cs ho
     rw[hφ] at g1
     simp only[X24,X26] at g1
     obtain⟨rfl,rfl⟩:=g1
     obtain⟨p1,p2⟩:=X16.1 hg
     obtain⟨d,hu,hd⟩:=hti.kind.plain hcl
     have hcell:cellAt w b (k+i)=some (f (k+i)):=by rw[Bd g2];exact g5 _ p1
     refine⟨x,f (k+i),h,?_,p2 ▸ (g6 _ p1).2,fun r' hr'=>?_⟩
     ·simp only[Instr.loadAt,Instr.sureAddr,Sem.run_bind,Sem.run_pure,Result.andThen_ok,EL hu hd hcell]
     rw[<- p2] at hr'
     exact m.men r _ ho r' (by simpa[OB.refs] using AV.refs_mem cs (k+i) p1 r' hr')
  | map=>simp at h
  | amap=>simp at h
  | gone=>simp at h
  | row e sz es frz=>
   have h:OA T t n i k es K \/∃q m,frz=.lk i k q m/\n=es.length/\i<es.length/\k<sz/\(T.get t).kind.cls=some false/\K (.own q m):=by
    simp only at h
    cases frz with
    | no=>exact .inl h
    | yes=>exact .inl h
    | lk i' j q m=>
     rcases h with h | ⟨h1,rfl,rfl,h4,h5,h6,h7⟩
     ·exact .inl h
     exact .inr ⟨q,m,rfl,h1,h4,h5,h6,h7⟩
   rcases h with h | ⟨q,m',rfl,hn,hi',hk',hcl,hK⟩
   rotate_left
   ·cases ha with | rref _ _ _ _ _ h1 hb hp=>
    obtain⟨_,h2⟩:=h1 e sz es _ ho
    obtain⟨hi,b,c,hφ,rfl⟩:=h2 hn
    obtain⟨g0,g1,g2,g3⟩:=m.obj r _ ho
    rcases g3 with ⟨f1,_⟩|⟨b',cap,vs,f,f1,f2,f3,f4,f5,f6,f7,f8⟩
    ·rw[hφ] at f1;simp at f1
    rw[hφ] at f1
    simp only[X24,X26] at f1
    obtain⟨rfl,rfl⟩:=f1
    have hti:=hT.of (t:=t) (by rw[hcl];simp)
    obtain⟨d,hu,hd⟩:=hti.kind.plain hcl
    have hcell:cellAt w b (c.2+(i*sz+k))=some (f i k):=by rw[Bd f2];exact f6 i k hi' hk'
    refine⟨_,f i k,hK,?_,f8.2 i k q m' rfl hi' hk',fun r' hr'=>m.men r _ ho r' (by simpa[OB.refs,AV.refs] using hr')⟩
    simp only[Instr.loadAt,Instr.sureAddr,Sem.run_bind,Sem.run_pure,Result.andThen_ok,EL hu hd hcell]
   obtain⟨hn,x,hx,h⟩:=h
   cases ha with | rref _ _ _ _ _ h1 hb hp=>
    obtain⟨_,h2⟩:=h1 e sz es frz ho
    obtain⟨hi,b,c,hφ,rfl⟩:=h2 hn
    obtain⟨g0,g1,g2,g3⟩:=m.obj r _ ho
    rcases g3 with ⟨f1,_⟩|⟨b',cap,vs,f,f1,f2,f3,f4,f5,f6,f7,f8⟩
    ·rw[hφ] at f1;simp at f1
    rw[hφ] at f1
    simp only[X24,X26] at f1
    obtain⟨rfl,rfl⟩:=f1
    have hi':i<es.length:=by omega
    have hxe:x=es[i]:=by rw[<- hx];simp[hi']
    subst hxe
    have hszx:=g1 i hi'
    have hcell :∀j,j<sz->cellAt w b (c.2+(i*sz+j))=some (f i j):=fun j hj=>by rw[Bd f2];exact f6 i j hi' hj
    rw[G0] at h
    cases hcl:(T.get t).kind.cls with
    | none=>simp[hcl] at h
    | some q=>
     have hti:=hT.of (t:=t) (by rw[hcl];simp)
     cases q with
     | true=>
      simp only[hcl,AI,GX,Nat.ble_eq] at h
      obtain⟨hle,hK⟩:=h
      simp only[X17,hszx] at hle
      let vl:List Value:=(List.range (T.get t).size).map fun j=>f i (k+j)
      refine⟨_,.agg vl.toArray,hK,?_,?_,BJ _ _⟩
      ·simp only[Instr.loadAt,Instr.sureAddr,Sem.run_bind,Sem.run_pure,Result.andThen_ok]
       refine JZ hti hcl (by simp[vl]) fun j u hu=>?_
       simp only[vl,List.getElem?_map,Option.map_eq_some_iff] at hu
       obtain⟨j',hj',rfl⟩:=hu
       obtain⟨h1,h2⟩:=X16.1 hj'
       simp at h1 h2
       subst h2
       rw[Nat.add_assoc,Nat.add_assoc]
       exact hcell _ (by omega)
      refine .d _ _ (.agg _ _ (fun j=>f i (k+j)) (by simp[vl,hszx];omega) (fun j hj=>?_) (fun j hj=>?_) fun j hj=>?_)
      ·simp only[X18] at hj
       have:=Nat.lt_of_lt_of_le hj (Nat.min_le_left _ _)
       simp[vl,this]
      ·simp only[List.getElem_take,List.getElem_drop]
       exact g2 i hi' _ _
      simp only[List.getElem_take,List.getElem_drop]
      exact f7 i hi' _ _
     | false=>
      simp only[hcl] at h
      cases hg:(es[i].cells.drop k)[0]? with
      | none=>simp[hg] at h
      | some y=>
       simp only[hg] at h
       obtain⟨h1,h2⟩:=X16.1 hg
       simp[hszx] at h1
       obtain⟨d,hu,hd⟩:=hti.kind.plain hcl
       refine⟨.d y,f i k,h,?_,?_,BJ _ _⟩
       ·simp only[Instr.loadAt,Instr.sureAddr,Sem.run_bind,Sem.run_pure,Result.andThen_ok,EL hu hd (hcell k (by omega))]
       simp only[List.getElem_drop,Nat.add_zero] at h2
       subst h2
       exact .d _ _ (f7 i hi' k _)
theorem aR (obl:List (Option OB))(r:Nat)(x:OB)(h:r<obl.length):(fun i=>(obl.set r (some x)).getD i none)=upd (fun i=>obl.getD i none) r (some x):=by
 funext i
 by_cases hi:i=r
 ·subst hi;simp[h]
 rw[AK _ _ _ _ hi]
 simp[List.getElem?_set_ne (Ne.symm hi)]
theorem Ss (m:Mem E w S φ ob){self:Nat}{cs:List AV}{v:Value}(e:Nat)(hself:ob self=none)(hs:v.cells.size=cs.length)
  (h :∀i (hi:i<cs.length),∃u,v.cells[i]?=some u/\cs[i].one=true/\RepA S w φ ob cs[i] u) (hc :∀c∈cs,Closed ob c) :
  Post E w S φ ob (.ref self 0) [(self,.box cs)] (.pointer (some ⟨w.heap.size,0,none⟩)) (w.alloc (.cells v.cells e)):=by
 obtain⟨m',k'⟩:=m.alloc self (0,0) (.box cs) v.cells e hself (fun r hr=>by
  obtain⟨c,h1,h2⟩:=AV.refs_mem' cs r (by simpa[OB.refs] using hr)
  exact hc c h1 r h2) (fun hk=>by
  refine⟨w.heap.size,(0,0),v.cells,e,fun j=>v.cells.getD j undef,upd_same _ _ _,heap_alloc_new w _,hs,fun o ho=>?_,fun j hj=>?_,fun j hj=>?_⟩
  ·exact absurd (m.bS _ _ ho) (Nat.lt_irrefl _)
  ·obtain⟨u,h1,_⟩:=h j hj
   simp[h1]
  obtain⟨u,h1,h2,h3⟩:=h j hj
  refine⟨h2,?_⟩
  have:=hk.rep (hc _ (List.getElem_mem hj)) h3
  simpa[h1] using this)
 refine⟨S,_,m',k',.ref self 0 w.heap.size (0,0) (upd_same _ _ _) (fun e' sz es frz hx=>?_),fun r hr=>?_⟩
 ·simp[Au] at hx
 simp only[AV.refs,X14] at hr
 subst hr
 simp[Au]
theorem WZ {t:Nat}{ti:TI}(h:TiOk P t ti){i:TypeInfo}{z:Value}(hi:P.info? t=some i)(hz:i.zero=some z)(S:Sc)(w:World)(φ:Nat->Option (Nat×Rp))(ob:Nat->Option OB) :
  z.cells.size=(ti.zero.map AV.d).length/\ti.zero.length=ti.size/\∀j (hj:j<(ti.zero.map AV.d).length),∃u,z.cells[j]?=some u/\(ti.zero.map AV.d)[j].one=true/\RepA S w φ ob (ti.zero.map AV.d)[j] u:=by
 obtain⟨i',z',h1,h2,h3,h4,h5,h6,h7⟩:=h.info
 rw[hi] at h1
 obtain rfl:=X25 h1
 rw[hz] at h4
 obtain rfl:=X25 h4
 refine⟨by simp[h5,h6],h6,fun j hj=>?_⟩
 have hj':j<ti.zero.length:=by simpa using hj
 have hlt:j<z.cells.size:=by omega
 refine⟨z.cells[j],by simp[hlt],?_⟩
 have:=h7 j hj' z.cells[j] (by simp[hlt])
 simp only[List.getElem_map]
 generalize ti.zero[j]=x at this
 generalize z.cells[j]=u at this
 cases x with
 | val v=>obtain⟨rfl,h⟩:=this;exact⟨rfl,.d _ _ (.val _ h)⟩
 | nil=>simp only[Iu] at this;subst this;exact⟨rfl,.d _ _ (.nil _)⟩
 | agg=>simp[Iu] at this
 | lst=>simp[Iu] at this
def BY {α:Type}(cs:List α)(n:Nat)(vs:List α):List α:=cs.take n++vs++cs.drop (n+vs.length)
theorem Bg {α:Type}(cs:List α)(n:Nat)(vs:List α)(h:n+vs.length<=cs.length):(BY cs n vs).length=cs.length:=by
 simp[BY];omega
theorem EY {α:Type}(cs:List α)(n:Nat)(vs:List α)(h:n+vs.length<=cs.length)(j:Nat) :
  (BY cs n vs)[j]?=if n<=j/\j<n+vs.length then vs[j-n]? else cs[j]?:=by
 unfold BY
 rw[List.append_assoc,List.getElem?_append]
 simp only[X18,Nat.min_eq_left (show n<=cs.length by omega)]
 split
 ·rw[if_neg (by omega),List.getElem?_take_of_lt (by assumption)]
 rw[List.getElem?_append]
 split
 ·rw[if_pos (by omega)]
 rw[if_neg (by omega),List.getElem?_drop]
 congr 1
 omega
theorem J9 {t:Nat}{v:Value}{b o:Nat}{e:Nat}{cur:Array Value}(hg:w.heap[b]?=some (.cells cur e (0,0)))(hi:(P.info? t).map (·.size)=some v.cells.size)
  (hl:o+v.cells.size<=cur.size) (h1 :∀u∈v.cells.toList,u.oneCell'=true) :
  (Instr.storeAt t (.pointer (some ⟨b,o,none⟩)) v).run P w=.ok () (w.setRow b (BY cur.toList o v.cells.toList).toArray):=by
 have:=run_storeCells_at P b o e v.cells.toList 0 cur w hg (by simpa using hl) h1
 simp only[Nat.add_zero] at this
 cases hq:P.info? t with
 | none=>simp[hq] at hi
 | some i=>
  have hs:v.cells.size=i.size:=by simp[hq] at hi;omega
  simp[Instr.storeAt,Instr.sureAddr,storeVar,sizeOf,typeInfo,hq,hs,this,BY]
theorem HJ (w:World)(b:Nat)(cs:Array Value):(∀k,k≠b->(w.setRow b cs).heap[k]?=w.heap[k]?)/\(w.setRow b cs).heap.size=w.heap.size/\
  ((w.setRow b cs).os=w.os/\(w.setRow b cs).output=w.output/\(w.setRow b cs).tape=w.tape/\w.drawn<=(w.setRow b cs).drawn):=
 ⟨fun k hk=>setRow_other w b k cs hk,size_setRow w b cs,rfl,rfl,rfl,Nat.le_refl _⟩
theorem cells_one {v:Value}{cs:List AV}(hs:v.cells.size=cs.length)(h :∀i (hi:i<cs.length),∃u,v.cells[i]?=some u/\cs[i].one=true/\RepA S w φ ob cs[i] u) :
  ∀u∈v.cells.toList,u.oneCell'=true:=by
 intro u hu
 obtain⟨i,hi,rfl⟩:=List.getElem_of_mem hu
 have hi':i<cs.length:=by simpa[hs] using hi
 obtain⟨u,h1,h2,h3⟩:=h i hi'
 have:u=v.cells.toList[i]:=by
  have:v.cells.toList[i]?=some u:=by simpa using h1
  rw[X15 hi] at this
  exact (X25 this).symm
 rw[<- this]
 exact h3.one h2
theorem QC (m:Mem E w S φ ob){t r off:Nat}{cs vs:List AV}{v:Value}{b:Nat}{c:Rp}(hφ:φ r=some (b,c))(ho:ob r=some (.box cs))(hi:(P.info? t).map (·.size)=some vs.length)
  (hs:v.cells.size=vs.length) (h :∀i (hi:i<vs.length),∃u,v.cells[i]?=some u/\vs[i].one=true/\RepA S w φ ob vs[i] u) (hc :∀c∈vs,Closed ob c) (hle:off+vs.length<=cs.length) :
  ∃w',(Instr.storeAt t (.pointer (some ⟨b,off,none⟩)) v).run P w=.ok () w'/\Post E w S φ ob .dead [(r,.box (BY cs off vs))] undef w':=by
 obtain⟨b',c',cur,e,f,g1,g2,g3,g4,g5,g6⟩:=m.obj r _ ho
 rw[hφ] at g1
 simp only[X24,X26] at g1
 obtain⟨rfl,rfl⟩:=g1
 have hsz:off+v.cells.toList.length<=cur.toList.length:=by simp;omega
 refine⟨_,J9 g2 (by rw[hi,hs]) (by omega) (cells_one hs h),?_⟩
 obtain⟨q1,q2,q3⟩:=HJ w b (BY cur.toList off v.cells.toList).toArray
 have hh:=setRow_heap w b cur (BY cur.toList off v.cells.toList).toArray e (0,0) g2
 have hrefs :∀r'∈(OB.box (BY cs off vs)).refs,ob r'≠none:=by
  intro r' hr'
  obtain⟨x,h1,h2⟩:=AV.refs_mem' _ r' (by simpa[OB.refs] using hr')
  simp only[BY,X23] at h1
  rcases h1 with (h1 | h1)|h1
  ·obtain⟨j,hj,rfl⟩:=List.getElem_of_mem (List.mem_of_mem_take h1)
   exact m.men r _ ho r' (by simpa[OB.refs] using AV.refs_mem cs j hj r' h2)
  ·exact hc x h1 r' h2
  obtain⟨j,hj,rfl⟩:=List.getElem_of_mem (List.mem_of_mem_drop h1)
  exact m.men r _ ho r' (by simpa[OB.refs] using AV.refs_mem cs j hj r' h2)
 have hl0:(BY cs off vs).length=cs.length:=Bg _ _ _ hle
 have:=m.set r _ (.box (BY cs off vs)) (w.setRow b (BY cur.toList off v.cells.toList).toArray) (φ r) ho (fun k hk hne=>q1 k fun e=>hne c (by rw[e];exact hφ)) (by omega) q3
  (fun b' c' o hb hS=>by rw[hφ] at hb;simp only[X24,X26] at hb;rw[<- hb.1] at hS;exact absurd hS (g4 o)) (.inl rfl)
  (.inl ⟨upd_same _ _ _,by simp[ho,hdr],fun _=>⟨cs,ho⟩⟩) hrefs (fun hk=>by
   refine⟨b,c,_,e,fun j=>(BY cur.toList off v.cells.toList).getD j undef,by rw[upd_same];exact hφ,hh,?_,g4,fun j hj=>?_,fun j hj=>?_⟩
   ·simp only[List.size_toArray]
    rw[Bg _ _ _ hsz,hl0]
    simpa using g3
   ·rw[hl0] at hj
    have:j<(BY cur.toList off v.cells.toList).length:=by rw[Bg _ _ _ hsz];simp;omega
    simp[this]
   rw[hl0] at hj
   have e1:=EY cs off vs hle j
   have e2:=EY cur.toList off v.cells.toList hsz j
   have hj2:j<(BY cs off vs).length:=by rw[hl0];exact hj
   rw[X15 hj2] at e1
   simp only[Array.length_toList,hs] at e2
   by_cases hin:off<=j/\j<off+vs.length
   ·rw[if_pos hin,X15 (by omega)] at e1
    rw[if_pos hin] at e2
    obtain⟨u,h1,h2,h3⟩:=h (j-off) (by omega)
    have h1':v.cells.toList[j-off]?=some u:=by simpa using h1
    simp only[X24] at e1
    rw[e1]
    refine⟨h2,?_⟩
    have:=hk.rep (hc _ (List.getElem_mem (h:=by omega))) h3
    simp only[List.getD_eq_getElem?_getD,e2,h1',Option.getD_some]
    exact this
   rw[if_neg hin,X15 hj] at e1
   rw[if_neg hin] at e2
   simp only[X24] at e1
   rw[e1]
   refine⟨(g6 j hj).1,?_⟩
   have:=hk.rep (a:=cs[j]) (fun r' hr'=>m.men r _ ho r' (by simpa[OB.refs] using AV.refs_mem cs j hj r' hr')) (g6 j hj).2
   have h1':cur.toList[j]?=some (f j):=by simpa using g5 j hj
   simp only[List.getD_eq_getElem?_getD,e2,h1',Option.getD_some]
   exact this)
 have hu:upd φ r (φ r)=φ:=by funext i;by_cases hi:i=r<;>simp[upd,hi]
 rw[hu] at this
 exact⟨S,φ,this.1,this.2,.dead _,GW _⟩
theorem D.cells_plain {x:D}(h:x.isAgg=false):x.cells=[x]:=by cases x<;>first | rfl | simp[D.isAgg] at h
theorem RepD.cells {x:D}{v:Value}(h:RepD S w x v):v.cells.size=x.cells.length/\∀i (hi:i<x.cells.length),∃u,v.cells[i]?=some u/\x.cells[i].isAgg=false/\RepD S w x.cells[i] u:=by
 by_cases hx:x.isAgg=true
 ·cases x with
  | agg cs=>
   cases h with | agg _ vs f hs hf hn hr=>exact⟨by simp[Value.cells,hs,D.cells],fun i hi=>⟨f i,hf i hi,hn i hi,hr i hi⟩⟩
  | _=>simp[D.isAgg] at hx
 have hx:x.isAgg=false:=by simpa using hx
 have hv:v.cells=#[v]:=by have:=h.one hx;cases v<;>first | rfl | simp[Value.oneCell'] at this
 rw[D.cells_plain hx,hv]
 refine⟨rfl,fun i hi=>⟨v,?_,?_,?_⟩⟩
 ·have:i=0:=by simpa using hi
  simp[this]
 ·simpa using hx
 simpa using h
theorem RepD.norm {x:D}{v:Value}(h:RepD S w x v):RepD S w x.norm v:=by
 cases h with
 | val v h=>exact .val v h
 | nil sz=>exact .lst0 sz _ _
 | lst0 sz a cap=>exact .lst0 sz a cap
 | lst sz es b o cap f hl hc hsz hS hn hr=>exact .lst sz es b o cap f hl hc hsz hS hn hr
 | agg cs vs f hs hf hn hr=>
  refine .agg _ vs f (by simpa using hs) (fun i hi=>hf i (by simpa using hi)) (fun i hi=>?_) fun i hi=>?_
  ·have hi':i<cs.length:=by simpa using hi
   have:=hn i hi'
   simp only[List.getElem_map]
   revert this
   cases cs[i]<;>simp[D.isAgg]
  have hi':i<cs.length:=by simpa using hi
  have:=hr i hi'
  simp only[List.getElem_map]
  revert this
  generalize cs[i]=y
  generalize f i=u
  cases y with
  | nil sz=>intro h;cases h;exact .lst0 sz _ _
  | _=>intro h;exact h
theorem D.norm_cells_length (x:D):x.norm.cells.length=x.cells.length:=by
 cases x<;>simp[D.norm,D.cells]
theorem Ho (m:Mem E w S φ ob){t r i k e sz:Nat}{es:List D}{x y:D}{v:Value}{b:Nat}{c:Rp}(hφ:φ r=some (b,c)){fz fz':FZ}(ho:ob r=some (.row e sz es fz))(hfz:fz.frozen=false)(hfz':fz'.frozen=false)(hi:(P.info? t).map (·.size)=some x.cells.length)
  (hlk :∀i' j q n,fz'=.lk i' j q n->i'=i/\j=k/\ob q≠none/\v.cells=#[v]/\RepA S w φ ob (.own q n) v) (hx:RepD S w x v) (hl:i<es.length) (hle:k+x.cells.length<=sz) (hy:y.cells=BY es[i].cells k x.cells) :
  ∃w',(Instr.storeAt t (.pointer (some ⟨b,c.2+(i*sz+k),none⟩)) v).run P w=.ok () w'/\Post E w S φ ob .dead [(r,.row e sz (es.set i y) fz')] undef w':=by
 obtain⟨g0,g1,g2,g3⟩:=m.obj r _ ho
 rcases g3 with ⟨f1,_⟩|⟨b',cap,cur,f,f1,f2,f3,f4,f5,f6,f7,f8⟩
 ·rw[hφ] at f1;simp at f1
 rw[hφ] at f1
 simp only[X24,X26] at f1
 obtain⟨rfl,rfl⟩:=f1
 obtain⟨x1,x2⟩:=hx.cells
 have hrow:(i+1)*sz<=c.1*sz:=X31 _ (by omega)
 rw[X32] at hrow
 have h1 :∀u∈v.cells.toList,u.oneCell'=true:=by
  intro u hu
  obtain⟨j,hj,rfl⟩:=List.getElem_of_mem hu
  have hj':j<x.cells.length:=by simpa[x1] using hj
  obtain⟨u,q1,q2,q3⟩:=x2 j hj'
  have:v.cells.toList[j]?=some u:=by simpa using q1
  rw[X15 hj] at this
  rw[X25 this]
  exact q3.one q2
 have hszl:(c.2+(i*sz+k))+v.cells.toList.length<=cur.toList.length:=by simp;omega
 refine⟨_,J9 f2 (by rw[hi,x1]) (by omega) h1,?_⟩
 obtain⟨q1,q2,q3⟩:=HJ w b (BY cur.toList (c.2+(i*sz+k)) v.cells.toList).toArray
 have hh:=setRow_heap w b cur (BY cur.toList (c.2+(i*sz+k)) v.cells.toList).toArray e (0,0) f2
 have hylen:y.cells.length=sz:=by rw[hy,Bg _ _ _ (by rw[g1 i hl];exact hle),g1 i hl]
 have hes :∀j (hj:j<(es.set i y).length),(es.set i y)[j]=if i=j then y else es[j]'(by simpa using hj):=fun j hj=>by rw[List.getElem_set]
 have hov:=EY es[i].cells k x.cells (by rw[g1 i hl];exact hle)
 have:=m.set r _ (.row e sz (es.set i y) fz') (w.setRow b (BY cur.toList (c.2+(i*sz+k)) v.cells.toList).toArray) (φ r) ho (fun k hk hne=>q1 k fun e=>hne c (by rw[e];exact hφ)) (by omega) q3
  (fun b' c' o hb hS=>by rw[hφ] at hb;simp only[X24,X26] at hb;rw[<- hb.1] at hS;exact absurd hS (f8.1 o (by simp[hfz]))) (.inl rfl)
  (.inl ⟨upd_same _ _ _,by simp[ho,hdr],fun h=>by simp at h⟩) (fun r' hr'=>by
   cases hq:fz' with
   | no=>simp[OB.refs,hq] at hr'
   | yes=>simp[OB.refs,hq] at hr'
   | lk i' j q n=>
    simp only[OB.refs,hq,FZ.refs_lk,X14] at hr'
    rw[hr'];exact (hlk _ _ _ _ hq).2.2.1) (fun hk=>by
   have yget :∀j (hj:j<y.cells.length),y.cells[j].isAgg=false/\∃u,(if k<=j/\j<k+x.cells.length then v.cells[j-k]? else some (f i j))=some u/\RepD S (w.setRow b (BY cur.toList (c.2+(i*sz+k)) v.cells.toList).toArray) y.cells[j] u:=by
    intro j hj
    have e1:=hov j
    rw[<- hy,X15 hj] at e1
    by_cases hin:k<=j/\j<k+x.cells.length
    ·rw[if_pos hin] at e1 ⊢
     rw[X15 (by omega)] at e1
     obtain⟨u,p1,p2,p3⟩:=x2 (j-k) (by omega)
     rw[X25 e1]
     exact⟨p2,u,p1,p3.mono hk.k⟩
    rw[if_neg hin] at e1 ⊢
    rw[X15 (by rw[g1 i hl];omega)] at e1
    rw[X25 e1]
    exact⟨g2 i hl j (by rw[g1 i hl];omega),f i j,rfl,(f7 i hl j (by rw[g1 i hl];omega)).mono hk.k⟩
   refine⟨g0,fun j hj=>?_,fun j hj l hl'=>?_,.inr ⟨b,c,_,fun j l=>(BY cur.toList (c.2+(i*sz+k)) v.cells.toList).getD (c.2+(j*sz+l)) undef,by rw[upd_same];exact hφ,hh,by simpa using f3,f4,?_,fun j l hj hl'=>?_,fun j hj l hl'=>?_,fun o _=>f8.1 o (by simp[hfz]),fun i' j' q n hq hi' hj'=>?_⟩⟩
   ·rw[hes j hj];split
    ·exact hylen
    exact g1 j _
   ·have:=hes j hj
    simp only[this] at hl' ⊢
    split at hl'
    ·rename_i hij;simp only[hij,if_true];exact (yget l hl').1
    rename_i hij;simp only[hij,if_false];exact g2 j _ l hl'
   ·simp only[List.size_toArray]
    rw[Bg _ _ _ hszl]
    simpa using f5
   ·have hj':j<es.length:=by simpa using hj
    have:(j+1)*sz<=c.1*sz:=X31 _ (by omega)
    rw[X32] at this
    have hlt:c.2+(j*sz+l)<(BY cur.toList (c.2+(i*sz+k)) v.cells.toList).length:=by rw[Bg _ _ _ hszl];simp;omega
    simp[hlt]
   ·have hj':j<es.length:=by simpa using hj
    have hjj:=hes j hj
    have e2:=EY cur.toList (c.2+(i*sz+k)) v.cells.toList hszl (c.2+(j*sz+l))
    simp only[hjj] at hl' ⊢
    simp only[List.getD_eq_getElem?_getD,e2]
    by_cases hij:i=j
    ·subst hij
     simp only[if_true] at hl' ⊢
     obtain⟨_,u,p1,p2⟩:=yget l hl'
     simp only[Array.length_toList,x1]
     have hiff:(c.2+(i*sz+k)<=c.2+(i*sz+l)/\c.2+(i*sz+l)<c.2+(i*sz+k)+x.cells.length)↔(k<=l/\l<k+x.cells.length):=by omega
     by_cases hin:k<=l/\l<k+x.cells.length
     ·rw[if_pos hin] at p1
      rw[if_pos (hiff.2 hin),show c.2+(i*sz+l)-(c.2+(i*sz+k))=l-k by omega]
      have:v.cells.toList[l-k]?=some u:=by simpa using p1
      rw[this]
      exact p2
     rw[if_neg hin] at p1
     rw[if_neg (fun h=>hin (hiff.1 h))]
     have:cur.toList[c.2+(i*sz+l)]?=some (f i l):=by simpa using f6 i l hl (by omega)
     rw[this]
     rw[X25 p1]
     exact p2
    simp only[hij,if_false] at hl' ⊢
    have hl2:l<sz:=by rw[g1 j hj'] at hl';exact hl'
    have hout:¬ (c.2+(i*sz+k)<=c.2+(j*sz+l)/\c.2+(j*sz+l)<c.2+(i*sz+k)+v.cells.toList.length):=by
     simp only[Array.length_toList,x1]
     rcases Nat.lt_or_ge i j with h | h
     ·have:(i+1)*sz<=j*sz:=X31 _ h
      rw[X32] at this
      omega
     have:(j+1)*sz<=i*sz:=X31 _ (by omega)
     rw[X32] at this
     omega
    rw[if_neg hout]
    have:cur.toList[c.2+(j*sz+l)]?=some (f j l):=by simpa using f6 j l hj' hl2
    rw[this]
    exact (f7 j hj' l hl').mono hk.k
   obtain⟨rfl,rfl,hq0,hv1,hrep⟩:=hlk _ _ _ _ hq
   have e2:=EY cur.toList (c.2+(i'*sz+j')) v.cells.toList hszl (c.2+(i'*sz+j'))
   rw[if_pos (by simp[hv1]),Nat.sub_self] at e2
   have e3:(BY cur.toList (c.2+(i'*sz+j')) v.cells.toList).getD (c.2+(i'*sz+j')) undef=v:=by
    rw[List.getD_eq_getElem?_getD,e2,hv1];rfl
   simp only[e3]
   exact hk.rep (fun q' hq'=>by simp only[AV.refs,X14] at hq';rw[hq'];exact hq0) hrep)
 have hu:upd φ r (φ r)=φ:=by funext i;by_cases hi:i=r<;>simp[upd,hi]
 rw[hu] at this
 exact⟨S,φ,this.1,this.2,.dead _,GW _⟩
theorem Mem.move (m:Mem E w S φ ob)(r self e sz:Nat)(es zs:List D)(h0:ob r=some (.row e sz es .no))(hs:ob self=none)(hz:zs <+: es) :
  Mem E w S (upd (upd φ r none) self (φ r)) (upd (upd ob r (some .gone)) self (some (.row e sz zs .no)))/\Kept w S φ ob w S (upd (upd φ r none) self (φ r)) (upd (upd ob r (some .gone)) self (some (.row e sz zs .no))):=by
 have hrs:r≠self:=fun he=>by rw[he,hs] at h0;simp at h0
 have hne :∀r',ob r'≠none->r'≠self:=fun r' h e=>h (e ▸ hs)
 have oth :∀r',r'≠r->r'≠self->upd (upd φ r none) self (φ r) r'=φ r'/\upd (upd ob r (some .gone)) self (some (.row e sz zs .no)) r'=ob r':=fun r' h1 h2=>by
  rw[AK _ _ _ _ h2,AK _ _ _ _ h1,AK _ _ _ _ h2,AK _ _ _ _ h1]
  exact⟨rfl,rfl⟩
 have hr1:upd (upd ob r (some .gone)) self (some (.row e sz zs .no)) r=some .gone:=by rw[AK _ _ _ _ hrs,upd_same]
 have hφr:upd (upd φ r none) self (φ r) r=none:=by rw[AK _ _ _ _ hrs,upd_same]
 have hk:Kept w S φ ob w S (upd (upd φ r none) self (φ r)) (upd (upd ob r (some .gone)) self (some (.row e sz zs .no))):=by
  refine⟨fun b o h=>⟨h,rfl⟩,fun r' h=>?_,fun r' h=>?_⟩
  ·by_cases hh:r'=r
   ·subst hh
    exact .inr (.inr ⟨⟨_,_,_,_,h0⟩,by rw[hr1];rfl,fun cs hx=>by rw[hr1] at hx;simp at hx⟩)
   obtain⟨e1,e2⟩:=oth r' hh (hne r' h)
   exact .inl ⟨e1,by rw[e2],fun h=>by rwa [e2] at h⟩
  by_cases hh:r'=r
  ·rw[hh,hr1];simp
  rw[(oth r' hh (hne r' h)).2];exact h
 obtain⟨g0,g1,g2,g3⟩:=m.obj r _ h0
 have hlen:zs.length<=es.length:=hz.length_le
 have hget :∀i (hi:i<zs.length),zs[i]=es[i]'(by omega):=fun i hi=>hz.getElem hi
 have pre :∀{r':Nat} {x:Nat×Rp},upd (upd ob r (some .gone)) self (some (.row e sz zs .no)) r'≠none->upd (upd φ r none) self (φ r) r'=some x->(r'=self/\φ r=some x)\/(r'≠self/\r'≠r/\ob r'≠none/\φ r'=some x):=by
  intro r' x h1 h2
  by_cases hs':r'=self
  ·subst hs'
   rw[upd_same] at h2
   exact .inl ⟨rfl,h2⟩
  by_cases hr':r'=r
  ·subst hr';rw[hφr] at h2;simp at h2
  obtain⟨e1,e2⟩:=oth r' hr' hs'
  exact .inr ⟨hs',hr',by rwa [e2] at h1,by rwa [e1] at h2⟩
 have hr0:ob r≠none:=by rw[h0];simp
 refine⟨⟨?_,?_,?_,m.sS,m.kS,m.bS,m.nS,m.fr,m.sz,?_,m.os⟩,hk⟩
 ·intro r' o h
  by_cases hs':r'=self
  ·subst hs'
   simp only[upd_same,X24] at h
   subst h
   refine⟨g0,fun i hi=>by rw[hget i hi];exact g1 _ _,fun i hi j hj=>by
    have:=hget i hi
    simp only[this] at hj ⊢
    exact g2 _ _ j hj,?_⟩
   rcases g3 with ⟨f1,f2⟩|⟨b,cap,vs,f,f1,f2,f3,f4,f5,f6,f7,f8⟩
   ·refine .inl ⟨by rw[upd_same];exact f1,?_⟩
    rw[f2] at hlen
    exact List.eq_nil_of_length_eq_zero (by simpa using hlen)
   refine .inr ⟨b,cap,vs,f,by rw[upd_same];exact f1,f2,by omega,f4,f5,fun i j hi hj=>f6 i j (by omega) hj,fun i hi j hj=>?_,fun o _=>f8.1 o (by simp),fun _ _ _ _ h=>nomatch h⟩
   have:=hget i hi
   simp only[this] at hj ⊢
   exact f7 i (by omega) j hj
  by_cases hr':r'=r
  ·subst hr'
   rw[hr1] at h
   obtain rfl:=X25 h
   trivial
  obtain⟨e1,e2⟩:=oth r' hr' hs'
  rw[e2] at h
  exact (m.obj r' o h).keep hk e1 (fun b c hb=>⟨rfl,fun _ h=>h⟩) (m.men r' o h)
 ·intro r1 r2 b c c' h1 h2 k1 k2
  rcases pre h1 k1 with ⟨rfl,a1⟩|⟨a1,a2,a3,a4⟩<;>rcases pre h2 k2 with ⟨rfl,b1⟩|⟨b1,b2,b3,b4⟩
  ·rfl
  ·exact absurd (m.inj r2 r b c' c b3 hr0 b4 a1) b2
  ·exact absurd (m.inj r1 r b c c' a3 hr0 a4 b1) a2
  exact m.inj r1 r2 b c c' a3 b3 a4 b4
 ·intro r' o h r'' hm
  by_cases hs':r'=self
  ·subst hs'
   simp only[upd_same,X24] at h
   subst h
   simp[OB.refs] at hm
  by_cases hr':r'=r
  ·subst hr'
   rw[hr1] at h
   obtain rfl:=X25 h
   simp[OB.refs] at hm
  rw[(oth r' hr' hs').2] at h
  exact hk.c _ (m.men r' o h r'' hm)
 intro r' b c h g
 rcases pre h g with ⟨rfl,a1⟩|⟨a1,a2,a3,a4⟩
 ·exact m.ow r b c hr0 a1
 exact m.ow r' b c a3 a4
theorem Mem.moveAt (m:Mem E w S φ ob)(r self e sz l:Nat)(es zs:List D)(p:Option (Nat×Rp))(h0:ob r=some (.row e sz es .no))(hs:ob self=none)(hl:l+zs.length<=es.length)(hz :∀i (hi:i<zs.length),zs[i]=es[l+i]'(by omega))
  (hp:(p=none/\zs=[]) \/∃b c c',φ r=some (b,c)/\p=some (b,(c',c.2+l*sz))/\zs.length<=c'/\l+c'<=c.1) :
  Mem E w S (upd (upd φ r none) self p) (upd (upd ob r (some .gone)) self (some (.row e sz zs .no)))/\Kept w S φ ob w S (upd (upd φ r none) self p) (upd (upd ob r (some .gone)) self (some (.row e sz zs .no))):=by
 have hrs:r≠self:=fun he=>by rw[he,hs] at h0;simp at h0
 have hne :∀r',ob r'≠none->r'≠self:=fun r' h e=>h (e ▸ hs)
 have oth :∀r',r'≠r->r'≠self->upd (upd φ r none) self p r'=φ r'/\upd (upd ob r (some .gone)) self (some (.row e sz zs .no)) r'=ob r':=fun r' h1 h2=>by
  rw[AK _ _ _ _ h2,AK _ _ _ _ h1,AK _ _ _ _ h2,AK _ _ _ _ h1]
  exact⟨rfl,rfl⟩
 have hr1:upd (upd ob r (some .gone)) self (some (.row e sz zs .no)) r=some .gone:=by rw[AK _ _ _ _ hrs,upd_same]
 have hφr:upd (upd φ r none) self p r=none:=by rw[AK _ _ _ _ hrs,upd_same]
 have hk:Kept w S φ ob w S (upd (upd φ r none) self p) (upd (upd ob r (some .gone)) self (some (.row e sz zs .no))):=by
  refine⟨fun b o h=>⟨h,rfl⟩,fun r' h=>?_,fun r' h=>?_⟩
  ·by_cases hh:r'=r
   ·subst hh
    exact .inr (.inr ⟨⟨_,_,_,_,h0⟩,by rw[hr1];rfl,fun cs hx=>by rw[hr1] at hx;simp at hx⟩)
   obtain⟨e1,e2⟩:=oth r' hh (hne r' h)
   exact .inl ⟨e1,by rw[e2],fun h=>by rwa [e2] at h⟩
  by_cases hh:r'=r
  ·rw[hh,hr1];simp
  rw[(oth r' hh (hne r' h)).2];exact h
 obtain⟨g0,g1,g2,g3⟩:=m.obj r _ h0
 have hpb :∀{b:Nat} {x:Rp},p=some (b,x)->∃c,φ r=some (b,c):=by
  intro b x h
  rcases hp with ⟨h2,_⟩|⟨b',c,c',h1,h2,_⟩
  ·rw[h2] at h;simp at h
  rw[h2] at h
  simp only[X24,X26] at h
  exact⟨c,h.1 ▸ h1⟩
 have pre :∀{r':Nat} {x:Nat×Rp},upd (upd ob r (some .gone)) self (some (.row e sz zs .no)) r'≠none->upd (upd φ r none) self p r'=some x->(r'=self/\p=some x)\/(r'≠self/\r'≠r/\ob r'≠none/\φ r'=some x):=by
  intro r' x h1 h2
  by_cases hs':r'=self
  ·subst hs'
   rw[upd_same] at h2
   exact .inl ⟨rfl,h2⟩
  by_cases hr':r'=r
  ·subst hr';rw[hφr] at h2;simp at h2
  obtain⟨e1,e2⟩:=oth r' hr' hs'
  exact .inr ⟨hs',hr',by rwa [e2] at h1,by rwa [e1] at h2⟩
 have hr0:ob r≠none:=by rw[h0];simp
 refine⟨⟨?_,?_,?_,m.sS,m.kS,m.bS,m.nS,m.fr,m.sz,?_,m.os⟩,hk⟩
 ·intro r' o h
  by_cases hs':r'=self
  ·subst hs'
   simp only[upd_same,X24] at h
   subst h
   refine⟨g0,fun i hi=>by rw[hz i hi];exact g1 _ _,fun i hi j hj=>by
    have:=hz i hi
    simp only[this] at hj ⊢
    exact g2 _ _ j hj,?_⟩
   rcases g3 with ⟨f1,f2⟩|⟨b,cap,vs,f,f1,f2,f3,f4,f5,f6,f7,f8⟩
   ·rcases hp with ⟨h2,h3⟩|⟨b',c,c',h1,_⟩
    ·exact .inl ⟨by rw[upd_same];exact h2,h3⟩
    rw[f1] at h1;simp at h1
   rcases hp with ⟨h1,h2⟩|⟨b',c,c',h1,h2,h3,h4⟩
   ·exact .inl ⟨by rw[upd_same];exact h1,h2⟩
   rw[f1] at h1
   simp only[X24,X26] at h1
   obtain⟨rfl,rfl⟩:=h1
   have hcs:(l+c')*sz<=cap.1*sz:=X31 _ h4
   rw[X32] at hcs
   refine .inr ⟨b,(c',cap.2+l*sz),vs,fun i j=>f (l+i) j,by rw[upd_same];exact h2,f2,h3,by simp only;omega,by simp only;omega,fun i j hi hj=>?_,fun i hi j hj=>?_,fun o _=>f8.1 o (by simp),fun _ _ _ _ h=>nomatch h⟩
   ·have:=f6 (l+i) j (by omega) hj
    rw[X32] at this
    simp only
    rw[<- this]
    congr 1
    omega
   have:=hz i hi
   simp only[this] at hj ⊢
   exact f7 (l+i) (by omega) j hj
  by_cases hr':r'=r
  ·subst hr'
   rw[hr1] at h
   obtain rfl:=X25 h
   trivial
  obtain⟨e1,e2⟩:=oth r' hr' hs'
  rw[e2] at h
  exact (m.obj r' o h).keep hk e1 (fun b c hb=>⟨rfl,fun _ h=>h⟩) (m.men r' o h)
 ·intro r1 r2 b c c' h1 h2 k1 k2
  rcases pre h1 k1 with ⟨rfl,a1⟩|⟨a1,a2,a3,a4⟩<;>rcases pre h2 k2 with ⟨rfl,b1⟩|⟨b1,b2,b3,b4⟩
  ·rfl
  ·obtain⟨c0,a1⟩:=hpb a1
   exact absurd (m.inj r2 r b c' c0 b3 hr0 b4 a1) b2
  ·obtain⟨c0,b1⟩:=hpb b1
   exact absurd (m.inj r1 r b c c0 a3 hr0 a4 b1) a2
  exact m.inj r1 r2 b c c' a3 b3 a4 b4
 ·intro r' o h r'' hm
  by_cases hs':r'=self
  ·subst hs'
   simp only[upd_same,X24] at h
   subst h
   simp[OB.refs] at hm
  by_cases hr':r'=r
  ·subst hr'
   rw[hr1] at h
   obtain rfl:=X25 h
   simp[OB.refs] at hm
  rw[(oth r' hr' hs').2] at h
  exact hk.c _ (m.men r' o h r'' hm)
 intro r' b c h g
 rcases pre h g with ⟨rfl,a1⟩|⟨a1,a2,a3,a4⟩
 ·obtain⟨c0,a1⟩:=hpb a1
  exact m.ow r b c0 hr0 a1
 exact m.ow r' b c a3 a4
def FrzExt (ob ob':Nat->Option OB):Prop:=∀r,ob' r=ob r \/∃e sz es f,ob r=some (.row e sz es f)/\ob' r=some (.row e sz es .yes)
theorem FrzExt.refl (ob:Nat->Option OB):FrzExt ob ob:=fun _=>.inl rfl
theorem FrzExt.row {ob ob':Nat->Option OB}(h:FrzExt ob ob'){r e sz:Nat}{es:List D}{f:FZ}(hr:ob r=some (.row e sz es f)) :∃f',ob' r=some (.row e sz es f'):=by
 rcases h r with h1 | ⟨e',sz',es',f',h1,h2⟩
 ·exact⟨f,h1.trans hr⟩
 rw[hr] at h1
 simp only[X24,OB.row.injEq] at h1
 obtain⟨rfl,rfl,rfl,rfl⟩:=h1
 exact⟨.yes,h2⟩
theorem FrzExt.upd {ob ob':Nat->Option OB}(h:FrzExt ob ob'){r e sz:Nat}{es:List D}{f:FZ}(hr:ob r=some (.row e sz es f)):FrzExt ob (Go.AX.upd ob' r (some (.row e sz es .yes))):=by
 intro r'
 by_cases hh:r'=r
 ·subst hh
  rw[upd_same]
  exact .inr ⟨e,sz,es,f,hr,rfl⟩
 rw[AK _ _ _ _ hh]
 exact h r'
def UR (obl:List (Option OB))(wr:W):Prop:=∀r o,(r,o)∈wr->∃e sz es f,obl.getD r none=some (.row e sz es f)/\o=.row e sz es .yes
theorem Dw {obl:List (Option OB)}(m:Mem E w S φ ob)(hx:FrzExt (fun r=>obl.getD r none) ob){a:AV}{v:Value}{K:D->W->Prop}(ha:RepA S w φ ob a v)(h:toD obl a K) :
  ∃x wr S',K x wr/\Mem E w S' φ (Au ob wr)/\Kept w S φ ob w S' φ (Au ob wr)/\RepD S' w x v/\FrzExt (fun r=>obl.getD r none) (Au ob wr)/\UR obl wr:=by
 have own :∀{S:Sc} {ob:Nat->Option OB} (_:Mem E w S φ ob) (_:FrzExt (fun r=>obl.getD r none) ob) {r n:Nat} {v:Value} {K:OB->Prop} (_:RepA S w φ ob (.own r n) v) (_:DT obl r K),
   ∃o,K o/\∀e sz es f,o=.row e sz es f->n=es.length->∃S',Mem E w S' φ (upd ob r (some (.row e sz es .yes)))/\Kept w S φ ob w S' φ (upd ob r (some (.row e sz es .yes)))/\RepD S' w (.lst sz es) v/\
    FrzExt (fun r=>obl.getD r none) (upd ob r (some (.row e sz es .yes)))/\UR obl [(r,.row e sz es .yes)]:=by
  intro S ob m hx r n v K ha h
  rw[A1] at h
  obtain⟨o,ho,hK⟩:=h
  refine⟨o,hK,fun e sz es f hoe hn=>?_⟩
  subst hoe
  obtain⟨f',hf'⟩:=hx.row ho
  obtain⟨S',m',k',hd⟩:=m.freeze r e sz es f' hf'
  refine⟨S',m',k',hd v ?_,hx.upd ho,fun r' o' hm=>?_⟩
  ·cases ha with | own _ _ _ k c a0 hv hk h1 hb=>
    have:=(h1 e sz es f' hf').2 hn
    rwa [<- hn]
  simp only[X14,X26] at hm
  obtain⟨rfl,rfl⟩:=hm
  exact⟨e,sz,es,f,ho,rfl⟩
 cases a<;>simp only[toD] at h
 case d x=>
  rw[Fj] at h
  cases ha with | d _ _ ha=>exact⟨_,[],S,h,m,.refl w S φ ob,ha.norm,hx,fun _ _ hm=>by simp at hm⟩
 case own r n=>
  obtain⟨o,hK,hh⟩:=own m hx ha h
  cases o with
  | box=>simp at hK
  | map=>simp at hK
  | amap=>simp at hK
  | gone=>simp at hK
  | row e sz es f=>
   simp only at hK
   obtain⟨S',h1,h2,h3,h4,h5⟩:=hh e sz es f rfl hK.1
   exact⟨_,_,S',hK.2,h1,h2,h3,h4,h5⟩
 case agg cs=>
  cases ha with | agg _ vs f hs hf hn hr=>
  have key :∀(cs:List AV) (off:Nat) (S:Sc) (ob:Nat->Option OB) (_:Mem E w S φ ob) (_:FrzExt (fun r=>obl.getD r none) ob) (K:List D->W->Prop)
    (_ :∀i (hi:i<cs.length),RepA S w φ ob cs[i] (f (off+i))) (_:toD.toDs obl cs K),
    ∃l wr S',K l wr/\l.length=cs.length/\Mem E w S' φ (Au ob wr)/\Kept w S φ ob w S' φ (Au ob wr)/\(∀i (hi:i<l.length),l[i].isAgg=false/\RepD S' w l[i] (f (off+i)))/\
     FrzExt (fun r=>obl.getD r none) (Au ob wr)/\UR obl wr:=by
   intro cs
   induction cs with
   | nil=>intro off S ob m hx K _ h;exact⟨[],[],S,h,rfl,m,.refl w S φ ob,fun i hi=>by simp at hi,hx,fun _ _ hm=>by simp at hm⟩
   | cons c cs ih=>
    intro off S ob m hx K hr h
    have h0:=hr 0 (by simp)
    simp only[List.getElem_cons_zero,Nat.add_zero] at h0
    have hr' :∀i (hi:i<cs.length),RepA S w φ ob cs[i] (f (off+1+i)):=fun i hi=>by
     have:=hr (i+1) (by simpa using hi)
     simpa[Nat.add_assoc,Nat.add_comm 1 i] using this
    have fin :∀(x:D) (l:List D) (S':Sc),x.isAgg=false->RepD S' w x (f off)->(∀i (hi:i<l.length),l[i].isAgg=false/\RepD S' w l[i] (f (off+1+i)))->
      ∀i (hi:i<(x::l).length),(x::l)[i].isAgg=false/\RepD S' w (x::l)[i] (f (off+i)):=by
     intro x l S' h1 h2 h3 i hi
     cases i with
     | zero=>exact⟨h1,h2⟩
     | succ i=>
      have:=h3 i (by simpa using hi)
      simpa[Nat.add_assoc,Nat.add_comm 1 i] using this
    cases c<;>simp only[toD.toDs] at h
    case d x=>
     cases h0 with | d _ _ h0=>
     have h0n:=h0.norm
     cases x with
     | agg l=>simp at h
     | val u=>
      simp only at h
      obtain⟨l,wr,S',a1,a2,a3,a4,a5,a6,a7⟩:=ih (off+1) S ob m hx _ hr' h
      exact⟨_,wr,S',a1,by simp[a2],a3,a4,fin _ _ _ rfl (h0n.mono a4.k) a5,a6,a7⟩
     | nil u=>
      simp only at h
      obtain⟨l,wr,S',a1,a2,a3,a4,a5,a6,a7⟩:=ih (off+1) S ob m hx _ hr' h
      exact⟨_,wr,S',a1,by simp[a2],a3,a4,fin _ _ _ rfl (h0n.mono a4.k) a5,a6,a7⟩
     | lst u v=>
      simp only at h
      obtain⟨l,wr,S',a1,a2,a3,a4,a5,a6,a7⟩:=ih (off+1) S ob m hx _ hr' h
      exact⟨_,wr,S',a1,by simp[a2],a3,a4,fin _ _ _ rfl (h0n.mono a4.k) a5,a6,a7⟩
    case fn g caps=>
     cases caps with
     | cons=>simp at h
     | nil=>
      simp only at h
      generalize hv:f off=vf at h0
      cases h0 with | fn _ _ vs g' hs' _ _=>
      have hvs:vs=#[]:=by cases vs;simp_all
      subst hvs
      obtain⟨l,wr,S',a1,a2,a3,a4,a5,a6,a7⟩:=ih (off+1) S ob m hx _ hr' h
      exact⟨_,wr,S',a1,by simp[a2],a3,a4,fin _ _ _ rfl (by rw[hv];exact .val _ rfl) a5,a6,a7⟩
    case own r n=>
     obtain⟨o,hK,hh⟩:=own m hx h0 h
     cases o with
     | box=>simp at hK
     | map=>simp at hK
     | amap=>simp at hK
     | gone=>simp at hK
     | row e sz es fz=>
      simp only at hK
      obtain⟨S1,b1,b2,b3,b4,b5⟩:=hh e sz es fz rfl hK.1
      have hm1 :∀i (hi:i<cs.length),RepA S1 w φ (upd ob r (some (.row e sz es .yes))) cs[i] (f (off+1+i)):=fun i hi=>
       (hr' i hi).mono b2.k fun r' hr''=>by
        by_cases hn0:ob r'=none
        ·by_cases hrr:r'=r
         ·subst hrr
          rw[A1] at h
          obtain⟨o',ho',hK'⟩:=h
          have:=hx.row (r:=r') (e:=e) (sz:=sz) (es:=es) (f:=fz)
          cases o' with
          | box=>simp at hK'
          | map=>simp at hK'
          | amap=>simp at hK'
          | gone=>simp at hK'
          | row e' sz' es' f'=>
           obtain⟨f'',hf''⟩:=hx.row ho'
           rw[hn0] at hf'';simp at hf''
         refine .inl ⟨rfl,?_,?_⟩<;>rw[AK _ _ _ _ hrr]
         exact id
        exact b2.r r' hn0
      obtain⟨l,wr,S',a1,a2,a3,a4,a5,a6,a7⟩:=ih (off+1) S1 _ b1 b4 _ hm1 hK.2
      refine⟨_,(r,.row e sz es .yes)::wr,S',a1,by simp[a2],a3,b2.trans a4,fin _ _ _ rfl (b3.mono a4.k) a5,a6,fun r' o' hm=>?_⟩
      simp only[List.mem_cons] at hm
      rcases hm with hm | hm
      ·exact b5 r' o' (by simp[hm])
      exact a7 r' o' hm
  obtain⟨l,wr,S',a1,a2,a3,a4,a5,a6,a7⟩:=key cs 0 S ob m hx _ (fun i hi=>by simpa using hr i hi) h
  refine⟨_,wr,S',a1,a3,a4,.agg l vs f (by omega) (fun i hi=>hf i (by omega)) (fun i hi=>(a5 i hi).1) (fun i hi=>by simpa using (a5 i hi).2),a6,a7⟩
end
end Go.AX
end
