/-
  Texts of one proof, packed: Ax1 Ax2 Ax3 Ax4 Ax5 Ax6 Ax7.
-/
import Derived.Deep.MidRow
import Derived.Great.BuildSlice
import Derived.KernelRfl
import Derived.Laws.AppendOwn
import Derived.Laws.BytesArg
import Derived.Laws.IdiomCopy
import Derived.Laws.Sem
import Derived.Laws.StructEq
import Derived.Orders
set_option linter.all false
open List renaming length_map→X10,length_append→X11,length_cons→X12,length_nil→X13,mem_singleton→X14,getElem?_eq_getElem→X15,getElem?_eq_some_iff→X16,length_drop→X17,length_take→X18,mem_cons_of_mem→X19,length_replicate→X20,length_set→X21,length_singleton→X22,mem_append→X23
open Option.some renaming injEq→X24,inj→X25
open Prod.mk renaming injEq→X26
open Bool renaming and_eq_true→X27,eq_iff_iff→X28
open Nat renaming le_of_ble_eq_true→X29,eq_of_beq_eq_true→X30,mul_le_mul_right→X31,add_mul→X32
section
namespace Go.AX
inductive D where
 | val (v:Value)
 | agg (cs:List D)
 | nil (sz:Nat)
 | lst (sz:Nat) (es:List D)
 deriving Inhabited
abbrev D.i (n:Int):D:=.val (.int .i64 n)
abbrev D.u (n:Int):D:=.val (.int .u8 n)
abbrev D.b (b:Bool):D:=.val (.bool b)
abbrev D.s (s:ByteArray):D:=.val (.string s)
def D.cells:D->List D
 | .agg cs=>cs
 | x=>[x]
def D.isAgg:D->Bool
 | .agg _=>true
 | _=>false
def D.norm:D->D
 | .nil sz=>.lst sz []
 | .agg cs=>.agg (cs.map fun
   | .nil sz=>.lst sz []
   | x=>x)
 | x=>x
inductive AV where
 | d (x:D)
 | agg (cs:List AV)
 | ref (r off:Nat)
 | eref (cs:List D)
 | own (r n:Nat)
 | rref (r n i k:Nat)
 | fn (f:FuncId) (caps:List AV)
 | tup (vs:List AV)
 | mp (r:Nat)
 | osl (r a n m:Nat)
 | it (f:FuncId) (r:Nat)
 | gl (g:Nat)
 | gv (g:Nat)
 | dead
 deriving Inhabited
abbrev AV.i (n:Int):AV:=.d (.val (.int .i64 n))
abbrev AV.u (n:Int):AV:=.d (.val (.int .u8 n))
abbrev AV.b (b:Bool):AV:=.d (.val (.bool b))
abbrev AV.s (s:ByteArray):AV:=.d (.val (.string s))
abbrev AV.l (sz:Nat) (es:List D):AV:=.d (.lst sz es)
inductive FZ where
 | no | yes
 | lk (i j q n:Nat)
 deriving Inhabited
def FZ.frozen:FZ->Bool
 | .yes=>true
 | _=>false
def FZ.free:FZ->Bool
 | .no=>true
 | _=>false
theorem FZ.free_eq {f:FZ} (h:f.free=true):f=.no:=by cases f<;>simp[FZ.free] at h;rfl
def FZ.linked:FZ->Bool
 | .lk _ _ _ _=>true
 | _=>false
def FZ.refs:FZ->List Nat
 | .lk _ _ q _=>[q]
 | _=>[]
@[simp] theorem FZ.frozen_no:FZ.no.frozen=false:=rfl
@[simp] theorem FZ.frozen_yes:FZ.yes.frozen=true:=rfl
@[simp] theorem FZ.frozen_lk (i j q n:Nat):(FZ.lk i j q n).frozen=false:=rfl
@[simp] theorem FZ.linked_no:FZ.no.linked=false:=rfl
@[simp] theorem FZ.linked_yes:FZ.yes.linked=false:=rfl
@[simp] theorem FZ.linked_lk (i j q n:Nat):(FZ.lk i j q n).linked=true:=rfl
@[simp] theorem FZ.refs_no:FZ.no.refs=[]:=rfl
@[simp] theorem FZ.refs_yes:FZ.yes.refs=[]:=rfl
@[simp] theorem FZ.refs_lk (i j q n:Nat):(FZ.lk i j q n).refs=[q]:=rfl
theorem FZ.notlk {f:FZ} (h:f.linked=false) {i j q n:Nat} (e:f=.lk i j q n):False:=by subst e;simp at h
inductive OB where
 | box (cs:List AV)
 | row (e sz:Nat) (es:List D) (frz:FZ)
 | map (k e:Nat) (es:List (D×D))
 | amap (k e:Nat) (es:List (D×D)) (kv:Value) (r n:Nat)
 | gone
 deriving Inhabited
inductive TK where
 | bool | int (k:IntKind)|str | ptr | fn | other
 | slice (elem:Nat)
 | arr (n elem:Nat)
 | struct (fs:List (Nat×Nat×Nat))
 | map (k e:Nat)
 deriving Inhabited
structure TI where
 kind:TK
 size:Nat
 bytes:Nat
 zero:List D
 deriving Inhabited
inductive TT where
 | tip
 | node (k:Nat) (v:TI) (l r:TT)
def TI.none:TI:=⟨.other,0,0,[]⟩
def TT.get:TT->Nat->TI
 | .tip,_=>TI.none
 | .node k v l r,n=>match Nat.beq n k with
  | true=>v
  | false=>match Nat.blt n k with
   | true=>l.get n
   | false=>r.get n
def TK.cls:TK->Option Bool
 | .struct _ | .arr _ _=>some true
 | .other=>none
 | _=>some false
def BD (T:TT) (t:Nat):Bool:=(T.get t).kind.cls.isSome
structure ASt where
 tm:List AV
 ob:List (Option OB)
structure Cx where
 T:TT
 np:Nat
 C:FuncId->List AV->List OB->AV->List OB->Prop
 keep:FuncId->List Bool
 G:Nat->Option (List (D×D))
 inl:FuncId->Bool
 I:FuncId->List AV->List (Option OB)->(AV->List (Option OB)->Prop)->Prop
 ex:Nat
def AV.force (a:AV) (K:AV->Prop):Prop:=match a with
 | .d x=>K (.d x)
 | .agg cs=>K (.agg cs)
 | .ref r o=>K (.ref r o)
 | .eref cs=>K (.eref cs)
 | .own r n=>K (.own r n)
 | .rref r n i k=>K (.rref r n i k)
 | .fn f c=>K (.fn f c)
 | .tup vs=>K (.tup vs)
 | .mp r=>K (.mp r)
 | .it f r=>K (.it f r)
 | .gl g=>K (.gl g)
 | .gv g=>K (.gv g)
 | .osl r a n m=>K (.osl r a n m)
 | .dead=>K .dead
def AU (b:Bool) (P:Prop):Prop:=match b with
 | true=>P
 | false=>False
def evO (tm:List AV):Operand->AV
 | .tmp t=>tm.getD t .dead
 | .const v=>(match v.oneCell' with
  | true=>.d (.val v)
  | false=>.dead)
 | .func f=>.fn f []
 | .global g=>.gl g
def KZ {α:Type}:List α->Nat->α->(List α->Prop)->Prop
 | [],_,_,K=>K []
 | _::l,0,v,K=>K (v::l)
 | x::l,n + 1,v,K=>KZ l n v fun l'=>K (x::l')
def Lx {α β:Type} (f:α->(β->Prop)->Prop):List α->(List β->Prop)->Prop
 | [],K=>K []
 | x::l,K=>f x fun y=>Lx f l fun l'=>K (y::l')
def OK {α:Type}:List α->Nat->(List α->Prop)->Prop
 | l,0,K=>K l
 | [],_ + 1,K=>K []
 | _::l,n + 1,K=>OK l n K
def MJ {α:Type}:List α->Nat->(List α->Prop)->Prop
 | _,0,K=>K []
 | [],_ + 1,K=>K []
 | x::l,n + 1,K=>MJ l n fun l'=>K (x::l')
def MV {α:Type}:List α->Nat->List α->(List α->Prop)->Prop
 | cs,0,[],K=>K cs
 | _::cs,0,v::vs,K=>MV cs 0 vs fun l=>K (v::l)
 | c::cs,n + 1,vs,K=>MV cs n vs fun l=>K (c::l)
 | [],_,_,_=>False
def Q5:List AV->Option (List D)
 | []=>some []
 | .d x::r=>match Q5 r with
  | some l=>some (x::l)
  | none=>none
 | _::_=>none
def R7 (cs:List AV) (K:AV->Prop):Prop:=match Q5 cs with
 | some l=>K (.d (.agg l))
 | none=>K (.agg cs)
def LY (a:AV) (K:List AV->Prop):Prop:=match a with
 | .d (.val v)=>K [.d (.val v)]
 | .d (.nil sz)=>K [.d (.nil sz)]
 | .d (.lst sz es)=>K [.d (.lst sz es)]
 | .d (.agg cs)=>Lx (fun c K=>match c with
   | .val v=>K (.d (.val v))
   | .nil sz=>K (.d (.nil sz))
   | .lst sz es=>K (.d (.lst sz es))
   | .agg _=>False) cs K
 | .agg cs=>K cs
 | .ref r o=>K [.ref r o]
 | .own r n=>K [.own r n]
 | .mp r=>K [.mp r]
 | .fn f c=>K [.fn f c]
 | _=>False
def N5 (x:D) (K:D->Prop):Prop:=match x with
 | .val v=>K (.val v)
 | .nil sz=>K (.lst sz [])
 | .lst sz es=>K (.lst sz es)
 | .agg cs=>Lx (fun c K=>match c with
   | .val v=>K (.val v)
   | .nil sz=>K (.lst sz [])
   | .lst sz es=>K (.lst sz es)
   | .agg cs=>K (.agg cs)) cs fun cs=>K (.agg cs)
abbrev W:=List (Nat×OB)
def C7 (ob:List (Option OB)) (r:Nat) (K:OB->Prop):Prop:=match ob.getD r none with
 | some (.box cs)=>K (.box cs)
 | some (.row e sz es frz)=>K (.row e sz es frz)
 | some (.map k e es)=>K (.map k e es)
 | some (.amap k e es kv r n)=>K (.amap k e es kv r n)
 | some .gone=>K .gone
 | none=>False
def noO (ob:List (Option OB)) (r:Nat) (K:Prop):Prop:=match ob[r]? with
 | some none=>K
 | _=>False
def eqD (T:TT):Nat->Nat->D->D->Option Bool
 | 0,_,_,_=>none
 | n + 1,t,x,y=>match (T.get t).kind,x,y with
  | .bool,.val (.bool a),.val (.bool b)=>some (a==b)
  | .int _,.val (.int k a),.val (.int k' b)=>if k=k' then some (a==b) else none
  | .str,.val (.string a),.val (.string b)=>some (a.toList==b.toList)
  | .struct fs,.agg xs,.agg ys=>eqFs (eqD T n) T fs xs ys
  | _,_,_=>none where
 eqFs (rec:Nat->D->D->Option Bool) (T:TT):List (Nat×Nat×Nat)->List D->List D->Option Bool
  | [],_,_=>some true
  | (o,s,t)::fs,xs,ys=>
   match (match (T.get t).kind.cls with
    | some true=>rec t (.agg ((xs.drop o).take s)) (.agg ((ys.drop o).take s))
    | some false=>(match xs[o]?,ys[o]? with
     | some x,some y=>rec t x y
     | _,_=>none)
    | none=>none) with
   | some b=>match eqFs rec T fs xs ys with
    | some c=>some (b&&c)
    | none=>none
   | none=>none
def Wg (T:TT) (op:BinOp) (t:Nat) (x y:AV) (K:AV->Prop):Prop:=
 match op,x,y with
 | .shl,.d (.val (.int k a)),.d (.val (.int _ b))=>0<=b/\∃r,k.wrap (a * 2 ^ (min b.toNat k.bits))=r/\K (.d (.val (.int k r)))
 | .shr,.d (.val (.int k a)),.d (.val (.int _ b))=>0<=b/\∃r,a.fdiv (2 ^ (min b.toNat k.bits))=r/\K (.d (.val (.int k r)))
 | .eql,.d (.val (.string a)),.d (.val (.string b))=>K (.b (a.toList==b.toList))
 | .neq,.d (.val (.string a)),.d (.val (.string b))=>K (.b (!(a.toList==b.toList)))
 | .add,.d (.val (.string a)),.d (.val (.string b))=>(a.size + b.size<=2 ^ 62)/\K (.s (a++b))
 | .lss,.d (.val (.string a)),.d (.val (.string b))=>K (.b (Op.bytesLess a.toList b.toList))
 | .gtr,.d (.val (.string a)),.d (.val (.string b))=>K (.b (!(Op.bytesLess a.toList b.toList || a.toList==b.toList)))
 | op,.d (.val (.int k a)),.d (.val (.int k' b))=>AU (decide (k=k')) (match op with
  | .add=>∃r,k.wrap (a + b)=r/\K (.d (.val (.int k r)))
  | .sub=>∃r,k.wrap (a - b)=r/\K (.d (.val (.int k r)))
  | .mul=>∃r,k.wrap (a * b)=r/\K (.d (.val (.int k r)))
  | .quo=>b≠0/\∃r,k.wrap (a.tdiv b)=r/\K (.d (.val (.int k r)))
  | .rem=>b≠0/\∃r,a.tmod b=r/\K (.d (.val (.int k r)))
  | .and=>∃r,k.wrap (BitVec.ofInt k.bits a &&& BitVec.ofInt k.bits b).toNat=r/\K (.d (.val (.int k r)))
  | .or=>∃r,k.wrap (BitVec.ofInt k.bits a ||| BitVec.ofInt k.bits b).toNat=r/\K (.d (.val (.int k r)))
  | .xor=>∃r,k.wrap (BitVec.ofInt k.bits a ^^^ BitVec.ofInt k.bits b).toNat=r/\K (.d (.val (.int k r)))
  | .andNot=>∃r,k.wrap (BitVec.ofInt k.bits a &&& ~~~BitVec.ofInt k.bits b).toNat=r/\K (.d (.val (.int k r)))
  | .eql=>K (.b (a==b))
  | .neq=>K (.b (a != b))
  | .lss=>K (.b (decide (a<b)))
  | .leq=>K (.b (decide (a<=b)))
  | .gtr=>K (.b (decide (a > b)))
  | .geq=>K (.b (decide (a ≥ b)))
  | _=>False)
 | .eql,.d x,.d y=>(match eqD T 9 t x y with
  | some b=>K (.b b)
  | none=>False)
 | .neq,.d x,.d y=>(match eqD T 9 t x y with
  | some b=>K (.b (!b))
  | none=>False)
 | _,_,_=>False
def M5 (b:Bool) (A B:Prop):Prop:=match b with
 | true=>A
 | false=>B
def X9 (T:TT) (op:BinOp) (t:Nat) (x y:AV) (K:AV->Prop):Prop:=Wg T op t x y K
theorem WX (T:TT) (op:BinOp) (t:Nat) (x y:AV) (K:AV->Prop):X9 T op t x y K=Wg T op t x y K:=rfl
def unK (op:UnOp) (x:AV) (K:AV->Prop):Prop:=
 match op,x with
 | .not,.d (.val (.bool b))=>K (.b (!b))
 | .neg,.d (.val (.int k a))=>∃r,k.wrap (0 - a)=r/\K (.d (.val (.int k r)))
 | _,_=>False
def Ux (c a b:AV) (K:AV->Prop):Prop:=
 match c with
 | .d (.val (.bool t))=>(match a,b with
  | .d (.val (.bool x)),.d (.val (.bool y))=>K (.b (cond t x y))
  | a,b=>M5 t (a.force K) (b.force K))
 | _=>False
def IU (T:TT) (t i:Nat) (K:Nat->Nat->Nat->Prop):Prop:=match (T.get t).kind with
 | .struct fs=>(match fs[i]? with
  | some (o,s,ft)=>match s with
   | 0=>False
   | s + 1=>K o (s + 1) ft
  | none=>False)
 | _=>False
def IG (T:TT) (t n i k:Nat) (es:List D) (K:AV->Prop):Prop:=n=es.length/\∃x,es.getD i default=x/\OK x.cells k fun cs=>(match (T.get t).kind.cls with
   | some true=>AU (Nat.ble (T.get t).size cs.length) <| MJ cs (T.get t).size fun l=>K (.d (.agg l))
   | some false=>(match cs[0]? with
    | some a=>K (.d a)
    | none=>False)
   | none=>False)
def QE (T:TT) (t:Nat) (a:AV) (ob:List (Option OB)) (K:AV->Prop):Prop:=
 match a with
 | .ref r off=>C7 ob r fun o=>(match o with
  | .box cs=>(match (T.get t).kind.cls with
   | some true=>OK cs off fun cs=>AU (Nat.ble (T.get t).size cs.length) <| MJ cs (T.get t).size fun l=>R7 l K
   | some false=>(match cs[off]? with
    | some a=>a.force K
    | none=>False)
   | none=>False)
  | _=>False)
 | .eref cs=>(match (T.get t).kind.cls with
   | some true=>AU (Nat.ble (T.get t).size cs.length) <| MJ cs (T.get t).size fun l=>K (.d (.agg l))
   | some false=>(match cs[0]? with
    | some a=>K (.d a)
    | none=>False)
   | none=>False)
 | .rref r n i k=>C7 ob r fun o=>(match o with
  | .row _ sz es fz=>(match fz with
   | .lk i' j q m=>IG T t n i k es K\/(n=es.length/\i=i'/\k=j/\i<es.length/\j<sz/\(T.get t).kind.cls=some false/\K (.own q m))
   | _=>IG T t n i k es K)
  | .box cs=>(match (T.get t).kind.cls with
   | some false=>∃a,cs[k + i]?=some a/\a.force K
   | _=>False)
  | _=>False)
 | _=>False
def toD (ob:List (Option OB)) (a:AV) (K:D->W->Prop):Prop:=match a with
 | .d x=>N5 x fun x=>K x []
 | .own r n=>C7 ob r fun o=>(match o with
  | .row e sz es _=>n=es.length/\K (.lst sz es) [(r,.row e sz es .yes)]
  | _=>False)
 | .agg cs=>toDs cs fun l w=>K (.agg l) w
 | _=>False where
 toDs:List AV->(List D->W->Prop)->Prop
  | [],K=>K [] []
  | .d x::cs,K=>(match x with
   | .agg _=>False
   | .val v=>toDs cs fun l w=>K (.val v::l) w
   | .nil sz=>toDs cs fun l w=>K (.lst sz []::l) w
   | .lst sz es=>toDs cs fun l w=>K (.lst sz es::l) w)
  | .own r n::cs,K=>C7 ob r fun o=>(match o with
   | .row e sz es _=>n=es.length/\toDs cs fun l w=>K (.lst sz es::l) ((r,.row e sz es .yes)::w)
   | _=>False)
  | .fn f caps::cs,K=>(match caps with
   | []=>toDs cs fun l w=>K (.val (.func (.func f) #[] #[])::l) w
   | _=>False)
  | _::_,_=>False
def E3 (y:D) (k:Nat) (x:D) (K:D->Prop):Prop:=N5 x fun x=>MV y.cells k x.cells fun cs'=>match y with
 | .agg _=>K (.agg cs')
 | _=>match cs' with
  | [z]=>AU (!z.isAgg) (K z)
  | _=>False
def K1 (T:TT) (t:Nat) (a x:AV) (ob:List (Option OB)) (K:AV->W->Prop):Prop:=
 AU (BD T t) <| match a with
 | .ref r off=>C7 ob r fun o=>(match o with
  | .box cs=>LY x fun vs=>AU (Nat.beq vs.length (T.get t).size) <| MV cs off vs fun cs'=>K .dead [(r,.box cs')]
  | _=>False)
 | .rref r n i k=>C7 ob r fun o=>(match o with
  | .row e sz es frz=>n=es.length/\frz.free=true/\(match x with
   | .d x=>AU (Nat.beq x.cells.length (T.get t).size) <|∃y,es.getD i default=y/\E3 y k x fun z=>∃zs,es.set i z=zs/\K .dead [(r,.row e sz zs .no)]
   | _=>False)
  | _=>False)
 | _=>False
def En (T:TT) (t r n i k q m:Nat) (ob:List (Option OB)) (K:AV->W->Prop):Prop:=
 AU (BD T t) <| toD ob (.own q m) fun d w=>AU (w.all fun q=>!Nat.beq q.1 r) <| C7 ob r fun o=>(match o with
  | .row e sz es frz=>n=es.length/\frz.frozen=false/\(AU (Nat.beq d.cells.length (T.get t).size) <|∃y,es.getD i default=y/\E3 y k d fun z=>∃zs,es.set i z=zs/\K .dead (w++[(r,.row e sz zs (.lk i k q m))]))
  | _=>False)
def Et (T:TT) (t r n i k:Nat) (x:AV) (ob:List (Option OB)) (K:AV->W->Prop):Prop:=
 AU (BD T t) <| toD ob x fun d w=>AU (w.all fun q=>!Nat.beq q.1 r) <| C7 ob r fun o=>(match o with
  | .row e sz es frz=>n=es.length/\frz.free=true/\(AU (Nat.beq d.cells.length (T.get t).size) <|∃y,es.getD i default=y/\E3 y k d fun z=>∃zs,es.set i z=zs/\K .dead (w++[(r,.row e sz zs .no)]))
  | _=>False)
def Ix (T:TT) (t:Nat) (a x:AV) (ob:List (Option OB)) (K:AV->W->Prop):Prop:=match a,x with
 | .rref r n i k,.own q m=>En T t r n i k q m ob K
 | .rref r n i k,.agg cs=>Et T t r n i k (.agg cs) ob K
 | a,x=>K1 T t a x ob K
theorem MN {T:TT} {t:Nat} {a x:AV} {ob:List (Option OB)} {K:AV->W->Prop} (h:Ix T t a x ob K) :
  (∃r n i k q m,a=.rref r n i k/\x=.own q m/\En T t r n i k q m ob K)\/(∃r n i k cs,a=.rref r n i k/\x=.agg cs/\Et T t r n i k (.agg cs) ob K) \/
   (K1 T t a x ob K/\∀ob' (K':AV->W->Prop),K1 T t a x ob' K'->Ix T t a x ob' K'):=by
 unfold Ix at h
 split at h
 ·exact .inl ⟨_,_,_,_,_,_,rfl,rfl,h⟩
 ·exact .inr (.inl ⟨_,_,_,_,_,rfl,rfl,h⟩)
 rename_i hn1 hn2
 refine .inr (.inr ⟨h,fun ob' K' h'=>?_⟩)
 unfold Ix
 split
 ·exact absurd rfl (hn1 _ _ _ _ _ _ rfl)
 ·exact absurd rfl (hn2 _ _ _ _ _ rfl)
 exact h'
def HH (T:TT) (t:Nat) (parts:List (Nat×AV)) (K:AV->Prop):Prop:=
 match (T.get t).kind with
 | .struct fs=>go (fun i=>match fs[i]? with
  | some (o,s,_)=>some (o,s)
  | none=>none) parts ((T.get t).zero.map .d) fun cs=>R7 cs K
 | .arr n e=>AU (BD T e) <| go (fun i=>match Nat.blt i n with
  | true=>some (i * (T.get e).size,(T.get e).size)
  | false=>none) parts ((T.get t).zero.map .d) fun cs=>R7 cs K
 | _=>False where
 go (place:Nat->Option (Nat×Nat)):List (Nat×AV)->List AV->(List AV->Prop)->Prop
  | [],cs,K=>K cs
  | (i,v)::rest,cs,K=>match place i with
   | some (off,size)=>LY v fun vs=>AU (Nat.beq vs.length size) <| MV cs off vs fun cs'=>go place rest cs' K
   | none=>False
def Dc (o:Option AV) (dflt:Int) (K:Int->Prop):Prop:=match o with
 | none=>K dflt
 | some (.d (.val (.int _ i)))=>K i
 | _=>False
def Jt (sz:Nat) (d:D) (lo hi:Option AV) (K:AV->Prop):Prop:=match d with
 | .lst sz' es=>AU (Nat.beq sz' sz) <| Dc lo 0 fun l=>Dc hi es.length fun h=>(0<=l/\l<=h/\h<=es.length)/\∃ys,(es.drop l.toNat).take (h.toNat - l.toNat)=ys/\K (.d (.lst sz' ys))
 | _=>False
def Jm (T:TT) (e:Nat) (x:AV) (lo hi:Option AV) (ob:List (Option OB)) (K:AV->W->Prop):Prop:=
 AU (BD T e) <| toD ob x fun d w=>Jt (T.get e).size d lo hi fun v=>K v w
def QS (T:TT) (e r n:Nat) (lo hi:Option AV) (ob:List (Option OB)) (K:AV->W->Prop):Prop:=
 AU (BD T e) <| C7 ob r fun o=>match o with
  | .row _ sz es _=>AU (Nat.beq sz (T.get e).size) <| Dc lo 0 fun l=>Dc hi es.length fun h=>(0<=l/\l<=h/\h<=es.length)/\n=es.length/\∃a k,l.toNat=a/\h.toNat - l.toNat=k/\K (.osl r a k n) []
  | _=>False
def LS (T:TT) (e self r n:Nat) (lo hi mx:Option AV) (ob:List (Option OB)) (K:AV->W->Prop):Prop:=
 noO ob self <| AU (BD T e) <| C7 ob r fun o=>match o with
  | .row e' sz es frz=>AU (Nat.beq sz (T.get e).size&&frz.free) <| Dc lo 0 fun l=>Dc hi es.length fun h=>Dc mx h fun m=>(0<=l/\l<=h/\h<=m/\m<=es.length)/\n=es.length/\
    ∃zs,(es.drop l.toNat).take (h.toNat - l.toNat)=zs/\K (.own self zs.length) [(r,.gone),(self,.row e' sz zs .no)]
  | _=>False
def Lt (T:TT) (t self:Nat) (x:AV) (lo hi mx:Option AV) (ob:List (Option OB)) (K:AV->W->Prop):Prop:=match (T.get t).kind with
 | .slice e=>(match x with
  | .own r n=>(match hi with
   | some h=>LS T e self r n lo (some h) mx ob K
   | none=>False)
  | _=>False)
 | _=>False
def Oz (T:TT) (t self:Nat) (x:AV) (lo hi:Option AV) (ob:List (Option OB)) (K:AV->W->Prop):Prop:=match (T.get t).kind with
 | .slice e=>(match x with
  | .own r n=>Jm T e (.own r n) lo hi ob K\/QS T e r n lo hi ob K\/LS T e self r n lo hi none ob K
  | .d (.nil sz)=>Jm T e (.d (.nil sz)) lo hi ob K\/(AU (BD T e) <| Dc lo 0 fun l=>Dc hi 0 fun h=>(l=0/\h=0)/\K (.d (.nil sz)) [])
  | x=>Jm T e x lo hi ob K)
 | .str=>(match x with
  | .d (.val (.string s))=>Dc lo 0 fun l=>Dc hi s.size fun h=>(0<=l/\l<=h/\h<=s.size)/\K (.s (s.extract l.toNat h.toNat)) []
  | _=>False)
 | _=>False
def UN (T:TT) (t self:Nat) (n c:AV) (ob:List (Option OB)) (K:AV->W->Prop):Prop:=match (T.get t).kind,n,c with
 | .slice e,.d (.val (.int .i64 n)),.d (.val (.int .i64 c))=>noO ob self <| AU (BD T e&&Nat.blt 0 (T.get e).size&&(match (T.get e).kind.cls with | some true=>true | _=>Nat.beq (T.get e).size 1)) <| (0<=n/\n<=c/\c<=1048576/\(T.get e).bytes<=65536)/\
   ∃z,(match (T.get e).kind.cls with
    | some true=>D.agg (T.get e).zero
    | _=>(T.get e).zero.headD default).norm=z/\∃zs,List.replicate n.toNat z=zs/\K (.own self zs.length) [(self,.row e (T.get e).size zs .no)]
 | _,_,_=>False
def VK (T:TT) (t u self:Nat) (x n:AV) (ob:List (Option OB)) (K:AV->W->Prop):Prop:=match (T.get t).kind,(T.get u).kind,x,n with
 | .slice e,.int .i64,.d (.nil _),.d (.val (.int .i64 n))=>noO ob self <| AU (BD T u&&BD T e&&Nat.blt 0 (T.get e).size&&(match (T.get e).kind.cls with | some true=>true | _=>Nat.beq (T.get e).size 1)) <| (0<n/\n<=1048576/\(T.get e).bytes<=65536)/\
   ∃z,(match (T.get e).kind.cls with
    | some true=>D.agg (T.get e).zero
    | _=>(T.get e).zero.headD default).norm=z/\∃zs,List.replicate n.toNat z=zs/\K (.own self zs.length) [(self,.row e (T.get e).size zs .no)]
 | _,_,_,_=>False
def XL (T:TT) (t:Nat) (x:AV) (K:AV->Prop):Prop:=match (T.get t).kind,x with
 | .slice _,.d (.nil _)=>K (.i 0)
 | _,_=>False
def Dt:TK->D->D->Option Bool
 | .int _,.val (.int k a),.val (.int k' b)=>if k=k' then some (a==b) else none
 | .str,.val (.string a),.val (.string b)=>some (a==b)
 | .bool,.val (.bool a),.val (.bool b)=>some (a==b)
 | _,_,_=>none
def BL (tk:TK) (x:D):List (D×D)->Option (Option D)
 | []=>some none
 | p::l=>match Dt tk x p.1 with
  | some true=>some (some p.2)
  | some false=>BL tk x l
  | none=>none
def FH (tk:TK) (x v:D):List (D×D)->Option (List (D×D))
 | []=>some [(x,v)]
 | p::l=>match Dt tk x p.1 with
  | some true=>some ((x,v)::l)
  | some false=>(FH tk x v l).map (p::·)
  | none=>none
def Ly (T:TT) (e:Nat):D:=(match (T.get e).kind.cls with
 | some true=>D.agg (T.get e).zero
 | _=>(T.get e).zero.headD default).norm
def IA:TK->Value->Bool
 | .int k,.int k' _=>decide (k'=k)
 | .str,.string _=>true
 | .bool,.bool _=>true
 | _,_=>false
def H5:TK->Bool
 | .int _ | .str | .bool=>true
 | _=>false
def Ov (T:TT) (e:Nat):Bool:=match (T.get e).kind.cls with
 | some true=>true
 | _=>Nat.beq (T.get e).size 1
def U2 (T:TT) (t u r k:Nat) (n:AV) (ob:List (Option OB)) (K:AV->W->Prop):Prop:=match (T.get t).kind,(T.get u).kind,n with
 | .slice e,.int .i64,.d (.val (.int .i64 n))=>C7 ob r fun o=>(match o with
  | .row e' sz es frz=>AU (Nat.beq e' e&&Nat.beq sz (T.get e).size&&frz.free&&BD T u&&BD T e&&Ov T e) <|
    (k=es.length/\0<=n/\n<=1048576/\(T.get e).bytes<=65536/\(es.length + n.toNat) * (T.get e).bytes<=2 ^ 47/\es.length + n.toNat<=2 ^ 47)/\
     ∃z,Ly T e=z/\∃zs,es++List.replicate n.toNat z=zs/\K (.own r zs.length) [(r,.row e' sz zs .no)]
  | _=>False)
 | _,_,_=>False
def Ny (T:TT) (t u self:Nat) (x n:AV) (ob:List (Option OB)) (K:AV->W->Prop):Prop:=match x with
 | .own r k=>U2 T t u r k n ob K
 | .d d=>VK T t u self (.d d) n ob K
 | _=>False
def Pz (T:TT) (e:Nat):Bool:=match (T.get e).kind,(T.get e).zero with
 | .slice _,[.nil _]=>true
 | _,_=>false
def SA (T:TT) (t:Nat) (x key:AV) (ok:Bool) (ob:List (Option OB)) (K:AV->Prop):Prop:=match (T.get t).kind,x,key with
 | .map k e,.mp r,.d (.val kv)=>AU (IA (T.get k).kind kv&&H5 (T.get k).kind&&BD T k&&BD T e&&Nat.blt 0 (T.get e).size&&Ov T e) <| C7 ob r fun o=>(match o with
  | .map _ _ es=>∃q,BL (T.get k).kind (.val kv) es=some q/\∃v,q.getD (Ly T e)=v/\∃b,q.isSome=b/\K (match ok with
   | true=>.tup [.d v,.b b]
   | false=>.d v)
  | .amap _ _ es kv' r' n'=>(∃q,BL (T.get k).kind (.val kv) es=some q/\∃v,q.getD (Ly T e)=v/\∃b,q.isSome=b/\K (match ok with
   | true=>.tup [.d v,.b b]
   | false=>.d v))\/(kv=kv'/\ok=false/\(∃q,BL (T.get k).kind (.val kv) es=some q)/\Pz T e=true/\K (.own r' n'))
  | _=>False)
 | _,_,_=>False
def SI (T:TT) (G:Nat->Option (List (D×D))) (t:Nat) (a:AV) (ob:List (Option OB)) (K:AV->Prop):Prop:=match a with
 | .gl g=>(match (T.get t).kind,G g with
  | .map _ _,some _=>K (.gv g)
  | _,_=>False)
 | a=>QE T t a ob K
def ZO (T:TT) (G:Nat->Option (List (D×D))) (t g:Nat) (key:AV) (ok:Bool) (K:AV->Prop):Prop:=match (T.get t).kind,G g,key with
 | .map k e,some es,.d (.val kv)=>AU (IA (T.get k).kind kv&&H5 (T.get k).kind&&BD T k&&BD T e&&Nat.blt 0 (T.get e).size&&Ov T e) <|
   ∃q,BL (T.get k).kind (.val kv) es=some q/\∃v,q.getD (Ly T e)=v/\∃b,q.isSome=b/\K (match ok with
   | true=>.tup [.d v,.b b]
   | false=>.d v)
 | _,_,_=>False
def SH (T:TT) (G:Nat->Option (List (D×D))) (t:Nat) (x key:AV) (ok:Bool) (ob:List (Option OB)) (K:AV->Prop):Prop:=match x with
 | .gv g=>ZO T G t g key ok K
 | x=>SA T t x key ok ob K
def I6 (T:TT) (t:Nat) (x key v:AV) (ob:List (Option OB)) (K:AV->W->Prop):Prop:=match (T.get t).kind,x,key with
 | .map k _,.mp r,.d (.val kv)=>AU (IA (T.get k).kind kv&&H5 (T.get k).kind&&BD T k) <| toD ob v fun d w=>AU (w.all fun q=>!Nat.beq q.1 r) <| C7 ob r fun o=>(match o with
  | .map k' e' es=>∃zs,FH (T.get k).kind (.val kv) d es=some zs/\K .dead (w++[(r,.map k' e' zs)])
  | .amap k' e' es _ _ _=>∃zs,FH (T.get k).kind (.val kv) d es=some zs/\K .dead (w++[(r,.map k' e' zs)])
  | _=>False)
 | _,_,_=>False
def KE (T:TT) (t:Nat) (x key:AV) (r' n:Nat) (ob:List (Option OB)) (K:AV->W->Prop):Prop:=match (T.get t).kind,x,key with
 | .map k _,.mp r,.d (.val kv)=>AU (IA (T.get k).kind kv&&H5 (T.get k).kind&&BD T k) <| toD ob (.own r' n) fun d w=>AU (w.all fun q=>!Nat.beq q.1 r) <| C7 ob r fun o=>(match o with
  | .map k' e' es=>∃zs,FH (T.get k).kind (.val kv) d es=some zs/\K .dead (w++[(r,.amap k' e' zs kv r' n)])
  | .amap k' e' es _ _ _=>∃zs,FH (T.get k).kind (.val kv) d es=some zs/\K .dead (w++[(r,.amap k' e' zs kv r' n)])
  | _=>False)
 | _,_,_=>False
def J9 (T:TT) (t:Nat) (x key v:AV) (ob:List (Option OB)) (K:AV->W->Prop):Prop:=match v with
 | .own r n=>I6 T t x key (.own r n) ob K\/KE T t x key r n ob K
 | v=>I6 T t x key v ob K
def Dm (T:TT) (t len self:Nat) (parts:List (Nat×AV)) (ob:List (Option OB)) (K:AV->W->Prop):Prop:=
 match (T.get t).kind with
 | .slice e=>noO ob self <| AU (Nat.blt 0 (T.get e).size&&Nat.ble (len * (T.get e).size) 16777216) <| AU (BD T e) <|
  elems (T.get e).size 0 parts fun es w=>AU (Nat.beq es.length len) <| K (.own self len) (w++[(self,.row e (T.get e).size es .no)])
 | _=>False where
 elems (sz:Nat):Nat->List (Nat×AV)->(List D->W->Prop)->Prop
  | _,[],K=>K [] []
  | i,(j,v)::rest,K=>match Nat.beq i j with
   | true=>toD ob v fun x w=>AU (Nat.beq x.cells.length sz) <| elems sz (i + 1) rest fun l w'=>K (x::l) (w++w')
   | false=>False
def rowT (T:TT) (t:Nat):Bool:=match (T.get t).kind.cls with
 | some true=>true
 | _=>false
def G4 (T:TT) (t len self:Nat) (cs:List AV) (ob:List (Option OB)) (K:AV->W->Prop):Prop:=
 match (T.get t).kind with
 | .slice e=>noO ob self <| AU (Nat.beq len 1&&rowT T e&&Nat.beq (T.get e).size cs.length&&Nat.blt 0 (T.get e).size&&Nat.ble (T.get e).size 65536) <| K (.own self 1) [(self,.box cs)]
 | _=>False
def GE (T:TT) (t len self:Nat) (cs:List AV) (ob:List (Option OB)) (K:AV->W->Prop):Prop:=
 match (T.get t).kind with
 | .slice e=>noO ob self <| AU (Nat.beq len 1&&Nat.beq cs.length (T.get e).size&&Nat.blt 0 (T.get e).size&&Nat.ble (T.get e).size 65536&&BD T e) <|
   ∃j q m,cs[j]?=some (.own q m)/\toD ob (.agg cs) fun d w=>AU (w.all fun q=>!Nat.beq q.1 self) <| K (.own self 1) (w++[(self,.row e (T.get e).size [d] (.lk 0 j q m))])
 | _=>False
def FS (T:TT) (t len self:Nat) (parts:List (Nat×AV)) (ob:List (Option OB)) (K:AV->W->Prop):Prop:=match parts with
 | [(0,.agg cs)]=>Dm T t len self [(0,.agg cs)] ob K\/G4 T t len self cs ob K\/GE T t len self cs ob K
 | parts=>Dm T t len self parts ob K
def RY (ob:List (Option OB)) (y:AV) (K:Nat->List D->Prop):Prop:=match y with
 | .d (.lst sz es)=>K sz es
 | .d (.nil sz)=>K sz []
 | .own r n=>C7 ob r fun o=>(match o with
  | .row _ sz es _=>n=es.length/\K sz es
  | _=>False)
 | _=>False
def TL (ob:List (Option OB)) (y:AV) (K:Nat->List D->Prop):Prop:=match y with
 | .osl r a n m=>C7 ob r fun o=>(match o with
  | .row _ sz es _=>m=es.length/\∃zs,(es.drop a).take n=zs/\K sz zs
  | _=>False)
 | y=>RY ob y K
def Xu (ob:List (Option OB)) (y:AV) (k sz:Nat) (frz:FZ) (K:FZ->Prop):Prop:=match frz with
 | .yes=>K .yes
 | _=>(match y with
  | .own q n=>(match ob.getD q none with
   | some (.row _ sz' ys (.lk i j q' m))=>(match Nat.beq sz' sz with
    | true=>n=ys.length/\K (.lk (k + i) j q' m)
    | false=>K .no)
   | _=>K .no)
  | _=>K .no)
def KG (T:TT) (st:Nat) (self:Nat) (x y:AV) (ob:List (Option OB)) (K:AV->W->Prop):Prop:=
 match (T.get st).kind with
 | .slice e=>TL ob y fun sz' ys=>(match x with
  | .d (.nil _)=>noO ob self <| AU (Nat.beq sz' (T.get e).size&&Nat.blt 0 (T.get e).size) <| AU (BD T e) <| (ys.length * (T.get e).bytes<=2 ^ 47/\ys.length<=2 ^ 47)/\
    K (.own self ys.length) [(self,.row e (T.get e).size ys .no)]
  | .own r n=>C7 ob r fun o=>(match o with
   | .row e' sz es frz=>AU (Nat.beq e' e&&Nat.beq sz' sz&&Nat.beq sz (T.get e).size&&Nat.blt 0 sz) <| AU (BD T e) <| n=es.length/\((es.length + ys.length) * (T.get e).bytes<=2 ^ 47/\es.length + ys.length<=2 ^ 47)/\
     ∃zs,es++ys=zs/\Xu ob y es.length sz frz fun f=>K (.own r zs.length) [(r,.row e' sz zs f)]
   | _=>False)
  | .osl r a n m=>C7 ob r fun o=>(match o with
   | .row e' sz es frz=>AU (Nat.beq e' e&&Nat.beq sz' sz&&Nat.beq sz (T.get e).size&&Nat.blt 0 sz&&frz.free) <| AU (BD T e) <| noO ob self <| a=0/\m=es.length/\n<=es.length/\((n + ys.length) * (T.get e).bytes<=2 ^ 47/\n + ys.length<=2 ^ 47)/\
     ∃zs,es.take n++ys=zs/\K (.own self zs.length) [(r,.gone),(self,.row e' sz zs .no)]
   | _=>False)
  | _=>False)
 | _=>False
def V7 (T:TT) (t:Nat) (x:AV) (K:AV->Prop):Prop:=
 match (T.get t).kind,x with
 | .slice _,.d (.lst _ es)=>∃n:Nat,es.length=n/\K (.i n)
 | .slice _,.d (.nil _)=>K (.i 0)
 | .slice _,.own _ n=>∃m:Nat,n=m/\K (.i m)
 | .slice _,.osl _ _ n _=>∃m:Nat,n=m/\K (.i m)
 | .str,.d (.val (.string s))=>K (.i s.size)
 | .arr n _,_=>K (.i n)
 | _,_=>False
def FN (T:TT) (t:Nat) (x y:AV) (ob:List (Option OB)) (K:AV->Prop):Prop:=
 match y with
 | .d (.val (.int _ i))=>(match (T.get t).kind,x with
  | .slice e,.d (.lst sz es)=>AU (BD T e) <| AU (Nat.beq sz (T.get e).size) <| (0<=i/\i<es.length)/\∃v,es.getD i.toNat default=v/\v.cells.length=sz/\K (.eref v.cells)
  | .slice e,.own r n=>C7 ob r fun o=>(match o with
   | .row _ sz es _=>AU (BD T e) <| AU (Nat.beq sz (T.get e).size) <| n=es.length/\(0<=i/\i<es.length)/\K (.rref r n i.toNat 0)
   | .box cs=>AU (BD T e) <| AU (Nat.beq cs.length (T.get e).size) <| i=0/\K (.ref r 0)
   | _=>False)
  | .arr n e,.ref r off=>AU (BD T e) <| AU (Nat.ble 2 n) <| ((0<=i/\i<n)/\K (.ref r (off + i.toNat * (T.get e).size))) \/
    AU (Nat.beq (T.get e).size 1) ((0<=i/\i<n)/\∃j,i.toNat=j/\K (.rref r n j off))
  | _,_=>False)
 | _=>False
def I4 (T:TT) (t r a n m:Nat) (y:AV) (ob:List (Option OB)) (K:AV->Prop):Prop:=
 match y with
 | .d (.val (.int _ i))=>(match (T.get t).kind with
  | .slice e=>C7 ob r fun o=>(match o with
   | .row _ sz es _=>AU (BD T e) <| AU (Nat.beq sz (T.get e).size) <| m=es.length/\(0<=i/\i<n)/\∃j,a + i.toNat=j/\K (.rref r m j 0)
   | _=>False)
  | _=>False)
 | _=>False
def GG (T:TT) (t:Nat) (x y:AV) (ob:List (Option OB)) (K:AV->Prop):Prop:=match x with
 | .osl r a n m=>I4 T t r a n m y ob K
 | x=>FN T t x y ob K
def RB (T:TT) (t:Nat) (cs:List AV) (off:Nat) (K:AV->Prop):Prop:=
 match (T.get t).kind.cls with
 | some true=>OK cs off fun cs=>AU (Nat.ble (T.get t).size cs.length) <| MJ cs (T.get t).size fun l=>R7 l K
 | some false=>(match cs[off]? with
  | some a=>a.force K
  | none=>False)
 | none=>False
def HN (x:AV) (K:List AV->Prop):Prop:=match x with
 | .d (.agg cs)=>Lx (fun c K=>K (.d c)) cs K
 | .agg cs=>K cs
 | _=>False
def NB (T:TT) (t:Nat) (x y:AV) (K:AV->Prop):Prop:=
 match y with
 | .d (.val (.int _ i))=>(match (T.get t).kind,x with
  | .str,.d (.val (.string s))=>(0<=i/\i<s.size)/\∃c,s.toList.getD i.toNat 0=c/\K (.u c.toNat)
  | .arr n e,x=>HN x fun cs=>(0<=i/\i<n)/\(match (T.get e).kind.cls with
   | some false=>∃a,cs[i.toNat * (T.get e).size]?=some a/\a.force K
   | _=>False)
  | _,_=>False)
 | _=>False
def Nq (T:TT) (t i:Nat) (x:AV) (K:AV->Prop):Prop:=
 match (T.get t).kind with
 | .struct fs=>(match fs[i]? with
  | some (o,_,ft)=>HN x fun cs=>RB T ft cs o K
  | none=>False)
 | _=>False
def R9 (T:TT) (src dst:Nat) (x:AV) (ob:List (Option OB)) (K:AV->Prop):Prop:=
 AU (T.get src).kind.cls.isSome <| match (T.get dst).kind,x with
 | .int k,.d (.val (.int _ n))=>∃r,k.wrap n=r/\K (.d (.val (.int k r)))
 | .str,.d (.val (.string s))=>K (.s s)
 | .str,x=>(match (T.get src).kind with
  | .slice e=>(match (T.get e).kind with
   | .int .u8=>AU (Nat.beq (T.get e).size 1) <| TL ob x fun sz es=>AU (Nat.beq sz 1) <|∃l:List UInt8,es=l.map (fun c=>.u c.toNat)/\K (.s ⟨l.toArray⟩)
   | _=>False)
  | _=>False)
 | _,_=>False
def isNil:AV->Bool
 | .d (.val (.slice Option.none 0 0))=>true
 | _=>false
def SC (T:TT) (ty self:Nat) (x:AV) (ob:List (Option OB)) (K:AV->W->Prop):Prop:=
 match isNil x with
 | true=>(match (T.get ty).kind with
  | .slice e=>(match ob[self]? with
   | some none=>AU (Nat.blt 0 (T.get e).size) <| K (.own self 0) [(self,.row e (T.get e).size [] .no)]
   | _=>K (.d (.nil (T.get e).size)) [])
  | _=>False)
 | false=>x.force fun x=>K x []
def IP (keep:Bool) (ob:List (Option OB)) (a:AV) (ρ:List Nat) (K:AV->List Nat->W->Prop):Prop:=match a with
 | .d x=>(match keep,x with
  | true,.nil sz=>K (.d (.nil sz)) ρ []
  | _,x=>N5 x fun x=>K (.d x) ρ [])
 | .own r n=>(match keep with
  | true=>refK r ρ fun i ρ=>K (.own i n) ρ []
  | false=>toD ob (.own r n) fun x w=>K (.d x) ρ w)
 | .agg cs=>toD ob (.agg cs) fun x w=>K (.d x) ρ w
 | .ref r off=>refK r ρ fun i ρ=>K (.ref i off) ρ []
 | .mp r=>refK r ρ fun i ρ=>K (.mp i) ρ []
 | .it f r=>refK r ρ fun i ρ=>K (.it f i) ρ []
 | .eref cs=>K (.eref cs) ρ []
 | .fn f caps=>capsK caps ρ fun caps ρ=>K (.fn f caps) ρ []
 | _=>False where
 refK (r:Nat) (ρ:List Nat) (K:Nat->List Nat->Prop):Prop:=go r ρ 0 (fun i=>K i ρ) (fun n=>K n (ρ++[r]))
 go (r:Nat):List Nat->Nat->(Nat->Prop)->(Nat->Prop)->Prop
  | [],n,_,N=>N n
  | x::ρ,n,F,N=>match Nat.beq x r with
   | true=>F n
   | false=>go r ρ (n + 1) F N
 capsK:List AV->List Nat->(List AV->List Nat->Prop)->Prop
  | [],ρ,K=>K [] ρ
  | .ref r off::cs,ρ,K=>refK r ρ fun i ρ=>capsK cs ρ fun cs ρ=>K (.ref i off::cs) ρ
  | _::_,_,_=>False
def OJ (keep:List Bool) (ob:List (Option OB)):List AV->List Nat->(List AV->List Nat->W->Prop)->Prop
 | [],ρ,K=>K [] ρ []
 | a::asz,ρ,K=>IP (keep.headD false) ob a ρ fun a' ρ w=>OJ keep.tail ob asz ρ fun asz' ρ w'=>K (a'::asz') ρ (w++w')
def Gi (ob:List (Option OB)):List Nat->(List OB->Prop)->Prop
 | [],K=>K []
 | r::ρ,K=>C7 ob r fun o=>match o with
  | .box cs=>cellsD cs fun cs'=>Gi ob ρ fun l=>K (.box cs'::l)
  | .row e sz es frz=>AU (!frz.linked) <| Gi ob ρ fun l=>K (.row e sz es frz::l)
  | .map k e es=>Gi ob ρ fun l=>K (.map k e es::l)
  | .amap ..=>False
  | .gone=>False where
 cellsD:List AV->(List AV->Prop)->Prop
  | [],K=>K []
  | .d x::cs,K=>cellsD cs fun l=>K (.d x::l)
  | _::_,_=>False
def Oe (ρ:List Nat) (self:Nat) (a:AV) (K:AV->Prop):Prop:=match a with
 | .d x=>K (.d x)
 | .ref i off=>K (.ref (ρ.getD i self) off)
 | .own i n=>K (.own (ρ.getD i self) n)
 | .mp i=>K (.mp (ρ.getD i self))
 | .it f i=>K (.it f (ρ.getD i self))
 | .tup vs=>renTup ρ self vs fun l=>K (.tup l)
 | .agg vs=>renTup ρ self vs fun l=>K (.agg l)
 | _=>False where
 renTup (ρ:List Nat) (self:Nat):List AV->(List AV->Prop)->Prop
  | [],K=>K []
  | .d x::l,K=>renTup ρ self l fun l'=>K (.d x::l')
  | .ref i off::l,K=>renTup ρ self l fun l'=>K (.ref (ρ.getD i self) off::l')
  | .own i n::l,K=>renTup ρ self l fun l'=>K (.own (ρ.getD i self) n::l')
  | _::_,_=>False
def BE:OB->Bool
 | .box cs=>cs.all fun | .d _=>true | _=>false
 | .row _ _ _ f=>!f.linked
 | .map _ _ _=>true
 | .amap ..=>false
 | .gone=>true
def IF (ρ:List Nat) (self:Nat) (objs:List OB) (K:W->Prop):Prop:=match ρ,objs with
 | [],[]=>K []
 | [],[o]=>match BE o with
  | true=>K [(self,o)]
  | false=>False
 | r::ρ,o::os=>match BE o with
  | true=>IF ρ self os fun w=>K ((r,o)::w)
  | false=>False
 | _,_=>False
def LQ (cx:Cx) (f:FuncId) (self:Nat) (args:List AV) (ob:List (Option OB)) (K:AV->W->Prop):Prop:=
 OJ (cx.keep f) ob args [] fun args' ρ w=>AU (apartW w ρ) <| Gi ob ρ fun objs=>
  ∃res objs',cx.C f args' objs res objs'/\(objs'.length=ρ.length\/ob[self]?=some none)/\
   Oe ρ self res fun res'=>IF ρ self objs' fun w'=>K res' (w++w') where
 apartW (w:W) (ρ:List Nat):Bool:=w.all fun x=>ρ.all fun r=>match Nat.beq r x.1 with
  | true=>false
  | false=>true
def UF (cx:Cx) (f:FuncId) (self:Nat) (args:List AV) (ob:List (Option OB)) (K:AV->W->Prop):Prop:=LQ cx f self args ob K
theorem VA (cx:Cx) (f:FuncId) (self:Nat) (args:List AV) (ob:List (Option OB)) (K:AV->W->Prop):UF cx f self args ob K=LQ cx f self args ob K:=rfl
def RQ:List Nat->List OB->(W->Prop)->Prop
 | [],[],K=>K []
 | r::ρ,o::os,K=>(match BE o with
  | true=>RQ ρ os fun w=>K ((r,o)::w)
  | false=>False)
 | _,_,_=>False
def MM:List Nat->Nat->Bool
 | [],_=>false
 | x::l,r=>Nat.beq r x || MM l r
def QR:List Nat->Bool
 | []=>true
 | x::l=>!MM l x&&QR l
def YJ (ob:List (Option OB)) (news:List Nat):Bool:=QR news&&news.all fun r=>match ob[r]? with
 | some none=>true
 | _=>false
def OH:D->Bool
 | .val _=>true
 | .agg cs=>cs.all fun | .val _=>true | _=>false
 | _=>false
def Wy:AV->Bool
 | .d x=>OH x
 | .tup vs=>vs.all fun | .d x=>OH x | _=>false
 | _=>false
def X6 (cx:Cx) (f:FuncId) (args:List AV) (ob:List (Option OB)) (K:AV->W->Prop):Prop:=
 OJ (cx.keep f) ob args [] fun args' ρ w=>AU (LQ.apartW w ρ) <| Gi ob ρ fun objs=>
  ∃(res:AV) (objs':List OB) (b:Option (List Nat)),cx.C f args' objs res objs'/\(match b with
   | some news=>AU (YJ ob news) <| Oe (ρ++news) 0 res fun res'=>RQ (ρ++news) objs' fun w'=>K res' (w++w')
   | none=>AU (ρ.isEmpty&&objs'.isEmpty&&Wy res) (K res []))
def NF (T:TT) (t r a n m:Nat) (ob:List (Option OB)) (K:AV->W->Prop):Prop:=match (T.get t).kind with
 | .slice e=>C7 ob r fun o=>(match o with
  | .row e' sz es frz=>AU (BD T e&&Nat.beq sz (T.get e).size&&frz.free&&Ov T e) <| m=es.length/\∃z,Ly T e=z/\∃zs,es.take a++List.replicate n z++es.drop (a + n)=zs/\K (.tup []) [(r,.row e' sz zs .no)]
  | _=>False)
 | _=>False
def PN (T:TT) (e r a n m sz':Nat) (ys:List D) (ob:List (Option OB)) (K:AV->W->Prop):Prop:=C7 ob r fun o=>(match o with
  | .row e' sz es frz=>AU (BD T e&&Nat.beq sz (T.get e).size&&Nat.beq sz' sz&&frz.free) <| m=es.length/\∃zs,es.take a++ys.take n++es.drop (a + min ys.length n)=zs/\∃k:Nat,min ys.length n=k/\K (.i k) [(r,.row e' sz zs .no)]
  | _=>False)
def RH (T:TT) (t:Nat) (x y:AV) (ob:List (Option OB)) (K:AV->W->Prop):Prop:=match (T.get t).kind with
 | .slice e=>TL ob y fun sz' ys=>(match x with
  | .own r n=>PN T e r 0 n n sz' ys ob K
  | .osl r a n m=>PN T e r a n m sz' ys ob K
  | _=>False)
 | _=>False
def Xb (args:List AV) (K:AV->Prop):Prop:=match args with
 | [.d (.val (.int k x)),.d (.val (.int _ y))]=>∃r,(if y > x then y else x)=r/\K (.d (.val (.int k r)))
 | _=>False
def Xs (args:List AV) (K:AV->Prop):Prop:=match args with
 | [.d (.val (.int k x)),.d (.val (.int _ y))]=>∃r,(if y<x then y else x)=r/\K (.d (.val (.int k r)))
 | _=>False
def Eb (T:TT) (t:Nat) (a:AV):AV:=match isNil a with
 | true=>(match (T.get t).kind with
  | .slice e=>.d (.nil (T.get e).size)
  | _=>a)
 | false=>a
def F4 (T:TT) (av:Operand->AV):List Operand->List Nat->List AV
 | x::xs,t::ts=>Eb T t (av x)::F4 T av xs ts
 | xs,_=>xs.map av
def fnK (a:AV) (K:FuncId->List AV->Prop):Prop:=match a with
 | .fn f caps=>K f caps
 | .d (.val (.func (.func f) p q))=>(match p.toList,q.toList with
  | [],[]=>K f []
  | _,_=>False)
 | _=>False
theorem Om {a:AV} {K:FuncId->List AV->Prop} (h:fnK a K) :∃f caps,K f caps/\(a=.fn f caps\/(a=.d (.val (.func (.func f) #[] #[]))/\caps=[])):=by
 unfold fnK at h
 split at h
 ·exact⟨_,_,h,.inl rfl⟩
 ·rename_i f p q
  split at h
  ·rename_i hp hq
   have hp:p=#[]:=by cases p;simp_all
   have hq:q=#[]:=by cases q;simp_all
   subst hp hq
   exact⟨_,_,h,.inr ⟨rfl,rfl⟩⟩
  exact h.elim
 exact h.elim
theorem bM {a:AV} {f:FuncId} {caps:List AV} {K:FuncId->List AV->Prop} (h:K f caps) (k:a=.fn f caps\/(a=.d (.val (.func (.func f) #[] #[]))/\caps=[])):fnK a K:=by
 rcases k with rfl | ⟨rfl,rfl⟩<;>exact h
def opK (cx:Cx) (o:Oper) (av:Operand->AV) (ob:List (Option OB)) (K:AV->W->Prop):Prop:=
 match o.op with
 | .move x | .assign x=>(match x with
  | .const v=>SC cx.T o.type (cx.np + o.dst.getD 0) (av (.const v)) ob K
  | x=>(av x).force fun v=>K v [])
 | .pick c a b=>Ux (av c) (av a) (av b) fun v=>K v []
 | .alloc t=>AU (BD cx.T t) <| noO ob (cx.np + o.dst.getD 0) <| K (.ref (cx.np + o.dst.getD 0) 0) [(cx.np + o.dst.getD 0,.box ((cx.T.get t).zero.map .d))]
 | .box t x=>noO ob (cx.np + o.dst.getD 0) <| LY (av x) fun cs=>AU (Nat.beq cs.length (cx.T.get t).size) <| K (.ref (cx.np + o.dst.getD 0) 0) [(cx.np + o.dst.getD 0,.box cs)]
 | .build t parts=>HH cx.T t (parts.toList.map fun (i,x)=>(i,av x)) fun v=>K v []
 | .buildSlice t len parts=>FS cx.T t len (cx.np + o.dst.getD 0) (parts.toList.map fun (i,x)=>(i,av x)) ob K
 | .load t x=>SI cx.T cx.G t (av x) ob fun v=>K v []
 | .store t a x=>Ix cx.T t (av a) (Eb cx.T t (av x)) ob K
 | .nilCheck x=>(match av x with
  | .ref r off=>K (.ref r off) []
  | .eref cs=>K (.eref cs) []
  | .rref r n i k=>K (.rref r n i k) []
  | .fn f caps=>K (.fn f caps) []
  | .d (.val (.func (.func g) p q))=>K (.d (.val (.func (.func g) p q))) []
  | _=>False)
 | .binOp op t x y _=>X9 cx.T op t (av x) (av y) fun v=>K v []
 | .unOp op _ x=>unK op (av x) fun v=>K v []
 | .convert src dst x=>R9 cx.T src dst (av x) ob fun v=>K v []
 | .fieldAddr t x i=>IU cx.T t i fun off size _=>(match av x with
  | .ref r o=>K (.ref r (o + off)) []
  | .eref cs=>OK cs off fun cs=>MJ cs size fun cs=>K (.eref cs) []
  | .rref r n i k=>C7 ob r fun o=>(match o with
   | .row _ _ es _=>n=es.length/\K (.rref r n i (k + off)) []
   | _=>False)
  | _=>False)
 | .field t x i=>Nq cx.T t i (av x) fun v=>K v []
 | .indexAddr t x y=>GG cx.T t (av x) (av y) ob fun v=>K v []
 | .index t x y=>NB cx.T t (av x) (av y) fun v=>K v []
 | .makeMap t none=>(match (cx.T.get t).kind with
  | .map k e=>noO ob (cx.np + o.dst.getD 0) <| K (.mp (cx.np + o.dst.getD 0)) [(cx.np + o.dst.getD 0,.map k e [])]
  | _=>False)
 | .lookup t x y ok=>SH cx.T cx.G t (av x) (av y) ok ob fun v=>K v []
 | .mapUpdate t m k v | .insert t m k v=>J9 cx.T t (av m) (av k) (av v) ob K
 | .slice t x lo hi none=>Oz cx.T t (cx.np + o.dst.getD 0) (Eb cx.T t (av x)) (lo.map av) (hi.map av) ob K
 | .slice t x lo hi (some m)=>Lt cx.T t (cx.np + o.dst.getD 0) (av x) (lo.map av) (hi.map av) (some (av m)) ob K
 | .makeSlice t n c=>UN cx.T t (cx.np + o.dst.getD 0) (av n) (av c) ob K
 | .extract x i=>(match av x with
  | .tup vs=>(match vs[i]? with
   | some a=>a.force fun v=>K v []
   | none=>False)
  | _=>False)
 | .makeFunc (.func f) first caps=>(match first.toList with
  | []=>K (.fn f (caps.toList.map av)) []
  | _=>False)
 | .call c=>(match c.callee with
  | .value x=>fnK (av x) fun f caps=>UF cx f (cx.np + o.dst.getD 0) (F4 cx.T av c.args.toList c.argTypes.toList++caps) ob K
  | .builtin .len=>(match c.args.toList,c.argTypes.toList with
   | [x],[t]=>V7 cx.T t (Eb cx.T t (av x)) fun v=>K v []
   | _,_=>False)
  | .builtin .append=>(match c.args.toList,c.argTypes.toList with
   | [x,y],[t,u]=>(match Nat.beq t u with
    | true=>KG cx.T t (cx.np + o.dst.getD 0) (Eb cx.T t (av x)) (Eb cx.T t (av y)) ob K
    | false=>Ny cx.T t u (cx.np + o.dst.getD 0) (Eb cx.T t (av x)) (av y) ob K)
   | _,_=>False)
  | .builtin .cap=>(match c.args.toList,c.argTypes.toList with
   | [x],[t]=>XL cx.T t (Eb cx.T t (av x)) fun v=>K v []
   | _,_=>False)
  | .builtin .clear=>(match c.args.toList,c.argTypes.toList with
   | [x],[t]=>(match av x with
    | .osl r a n m=>NF cx.T t r a n m ob K
    | _=>False)
   | _,_=>False)
  | .builtin .copy=>(match c.args.toList,c.argTypes.toList with
   | [x,y],[t,_]=>RH cx.T t (av x) (av y) ob K
   | _,_=>False)
  | .builtin .max=>(match c.args.toList with
   | [x,y]=>Xb [av x,av y] fun v=>K v []
   | _=>False)
  | .builtin .min=>(match c.args.toList with
   | [x,y]=>Xs [av x,av y] fun v=>K v []
   | _=>False)
  | _=>False)
 | _=>False
def KX (tm:List AV) (dst:Option Nat) (v:AV) (K:List AV->Prop):Prop:=match dst with
 | some d=>KZ tm d v K
 | none=>K tm
def wrK (ob:List (Option OB)):W->(List (Option OB)->Prop)->Prop
 | [],K=>K ob
 | (r,o)::w,K=>KZ ob r (some o) fun ob=>wrK ob w K
def I1 (ops:Array Oper) (o:Oper) (tm:List AV) (yes no:List AV->Prop):Prop:=match o.guard with
 | none=>yes tm
 | some (j,want)=>match (ops[j]?).bind (·.dst) with
  | some t=>(match tm.getD t .dead with
   | .d (.val (.bool b))=>(match want with
    | true=>M5 b (KZ tm t (.b true) yes) (KZ tm t (.b false) no)
    | false=>M5 b (KZ tm t (.b true) no) (KZ tm t (.b false) yes))
   | .tup _=>no tm
   | _=>False)
  | none=>False
def TC (T:TT) (t self:Nat) (cs:List AV) (y:AV) (ob:List (Option OB)) (K:AV->W->Prop):Prop:=match (T.get t).kind with
 | .slice e=>noO ob self <| AU (rowT T e&&Nat.beq (T.get e).size cs.length&&Nat.blt 0 (T.get e).size&&Nat.ble (T.get e).bytes 65536) <| TL ob y fun sz ys=>AU (Nat.beq sz (T.get e).size&&!ys.isEmpty) <| ys.length<=1000000/\
   toD ob (.agg cs) fun d w=>AU (w.all fun q=>!Nat.beq q.1 self) <| K (.own self (ys.length + 1)) (w++[(self,.row e (T.get e).size (d::ys) .no)])
 | _=>False
def opX (cx:Cx) (o:Oper) (av:Operand->AV) (ob:List (Option OB)) (K:AV->W->Prop):Prop:=match o.op with
 | .binOp op ty x y yt=>(match av x,av y with
  | .d (.lst sz es),.d (.val (.slice none 0 0))=>(match op,(cx.T.get ty).kind with
   | .eql,.slice _=>K (.b false) []/\(es.length=0->K (.b true) [])
   | _,_=>False)
  | _,_=>opK cx o av ob K)
 | .store ty a x=>(match av a,av x with
  | .rref r n i k,.own r' n'=>Et cx.T ty r n i k (.own r' n') ob K\/En cx.T ty r n i k r' n' ob K
  | .rref r n i k,.agg cs=>Et cx.T ty r n i k (.agg cs) ob K
  | _,_=>opK cx o av ob K)
 | .call c=>(match c.callee with
  | .builtin .append=>(match c.args.toList,c.argTypes.toList with
   | [x,y],[t,u]=>(match av x with
    | .own r _=>(match ob.getD r none with
     | some (.box cs)=>AU (Nat.beq t u) <| TC cx.T t (cx.np + o.dst.getD 0) cs (av y) ob K
     | _=>opK cx o av ob K)
    | _=>opK cx o av ob K)
   | _,_=>opK cx o av ob K)
  | .value x=>fnK (av x) fun f caps=>X6 cx f (F4 cx.T av c.args.toList c.argTypes.toList++caps) ob K
  | _=>opK cx o av ob K)
 | _=>opK cx o av ob K
def stepG (ops:Array Oper) (o:Oper) (F:(Operand->AV)->List (Option OB)->(AV->W->Prop)->Prop) (st:ASt) (K:ASt->Prop):Prop:=
 match st with
 | ⟨tm,ob⟩=>I1 ops o tm
  (fun tm=>F (evO tm) ob fun v w=>KX tm o.dst v fun tm=>wrK ob w fun ob=>K ⟨tm,ob⟩)
  (fun tm=>KX tm o.dst (.tup []) fun tm=>K ⟨tm,ob⟩)
def Ky (cx:Cx) (ops:Array Oper) (o:Oper) (st:ASt) (K:ASt->Prop):Prop:=
 match st with
 | ⟨tm,ob⟩=>I1 ops o tm
  (fun tm=>opK cx o (evO tm) ob fun v w=>KX tm o.dst v fun tm=>wrK ob w fun ob=>K ⟨tm,ob⟩)
  (fun tm=>KX tm o.dst (.tup []) fun tm=>K ⟨tm,ob⟩)
inductive AE where
 | normal | exit (id:Nat)|ret
def AV.refs:AV->List Nat
 | .ref r _=>[r]
 | .own r _=>[r]
 | .mp r=>[r]
 | .it _ r=>[r]
 | .rref r _ _ _=>[r]
 | .osl r _ _ _=>[r]
 | .agg cs=>refsL cs
 | .fn _ cs=>refsL cs
 | .tup cs=>refsL cs
 | _=>[] where
 refsL:List AV->List Nat
  | []=>[]
  | a::l=>a.refs++refsL l
def OB.refs:OB->List Nat
 | .box cs=>AV.refs.refsL cs
 | .row _ _ _ f=>f.refs
 | .map _ _ _=>[]
 | .amap _ _ _ _ r _=>[r]
 | .gone=>[]
def CO (o:Oper):List Nat:=(o.after.toList.filter (Region.binds .any)).map (·.on)
def Hn:List Oper->List (List Nat)->List (List Nat)
 | [],acc=>acc
 | o::l,acc=>Hn l (((CO o).flatMap fun j=>j::acc.getD (acc.length - 1 - j) [])::acc)
def Fg (ops:Array Oper) (i:Nat):List Nat:=(Hn ops.toList []).getD (ops.size - 1 - i) []
def HW (ops:Array Oper):Bool:=
 (List.range ops.size).all fun i=>match ops[i]? with
  | none=>false
  | some o=>(CO o).all (fun j=>Nat.blt j i)&&(match o.op with | .select _ _=>false | _=>true) &&
   (List.range i).all fun j=>(Fg ops i).contains j || (match ops[j]? with
    | none=>false
    | some q=>q.apart ops o)
def FK:Op->Bool
 | .move (.const _) | .assign (.const _) | .store .. | .alloc _ | .box .. | .buildSlice .. | .slice .. | .makeSlice .. | .makeMap .. | .mapUpdate .. | .insert ..=>true
 | .call c=>match c.callee with
  | .builtin .append=>true
  | .builtin .clear=>true
  | .builtin .copy=>true
  | .value _=>true
  | _=>false
 | _=>false
def AV.isOsl:AV->Bool
 | .osl _ _ _ _=>true
 | _=>false
def Zx:Op->Bool
 | .slice ..=>true
 | _=>false
def apX:Op->Option Operand
 | .call c=>(match c.callee,c.args.toList with
  | .builtin .append,[x,_]=>some x
  | _,_=>none)
 | _=>none
def PP (o:Op):List Operand:=match o with
 | .move (.tmp _) | .assign (.tmp _) | .pick .. | .extract ..=>[]
 | o=>o.operands.toList
def QA (np:Nat) (o:Oper) (tm:List AV):List Nat:=
 (match FK o.op with
  | true=>[np + o.dst.getD 0]
  | false=>[])++(PP o.op).flatMap fun x=>(evO tm x).refs
def X2 (np:Nat) (o:Oper) (tm tm':List AV):List Nat:=match Zx o.op with
 | true=>(match o.dst with
  | some d=>(match (tm'.getD d .dead).isOsl with
   | true=>[]
   | false=>QA np o tm)
  | none=>QA np o tm)
 | false=>(match FK o.op with
  | true=>(match apX o.op with
   | some x=>(np + o.dst.getD 0)::(evO tm x).refs
   | none=>QA np o tm)
  | false=>[])
def FG (ops:Array Oper):Nat->List (List Nat×List Nat)->Bool
 | _,[]=>true
 | i,(fp,wr)::l=>conf ops i fp wr (i + 1) l&&FG ops (i + 1) l where
 conf (ops:Array Oper) (i:Nat) (fp wr:List Nat):Nat->List (List Nat×List Nat)->Bool
  | _,[]=>true
  | j,(fp',wr')::l=>((Fg ops j).contains i || ((wr.all fun r=>!fp'.contains r)&&fp.all fun r=>!wr'.contains r))&&conf ops i fp wr (j + 1) l
def PT (cx:Cx) (ops:Array Oper):List Oper->List (List Nat×List Nat)->ASt->(List (List Nat×List Nat)->ASt->Prop)->Prop
 | [],evs,st,K=>K evs.reverse st
 | o::rest,evs,⟨tm,ob⟩,K=>Ky cx ops o ⟨tm,ob⟩ fun st'=>PT cx ops rest ((QA cx.np o tm,X2 cx.np o tm st'.tm)::evs) st' K
def AV.one:AV->Bool
 | .d x=>!x.isAgg
 | .agg _ | .tup _ | .dead | .gl _ | .gv _=>false
 | _=>true
def fzW (es:List D) (f frz:FZ):Prop:=(f.frozen=true->frz.frozen=true)/\match frz with
 | .lk i j q n=>es.length<=i \/∃i' n',f=.lk i' j q n'/\i'=i/\n'=n
 | _=>True
inductive AvW (s s':ASt):AV->AV->Prop where
 | refl (a:AV):AvW s s' a a
 | dead (a:AV):AvW s s' a .dead
 | norm (x:D):AvW s s' (.d x) (.d x.norm)
 | lst (r n e sz:Nat) (es:List D) (frz:FZ) (h:s.ob.getD r none=some (.row e sz es frz)) (hn:n=es.length)
   (h':s'.ob.getD r none=none\/s'.ob.getD r none=some (.row e sz es .yes)):AvW s s' (.own r n) (.d (.lst sz es))
 | ownL (r n n':Nat) (h:n=n'):AvW s s' (.own r n) (.own r n')
 | osl (r a n m m':Nat) (h:m=m'):AvW s s' (.osl r a n m) (.osl r a n m')
 | oslD (r a n m e sz:Nat) (es zs:List D) (frz:FZ) (h:s.ob.getD r none=some (.row e sz es frz)) (hm:m=es.length) (hz:(es.drop a).take n=zs)
   (h':s'.ob.getD r none=none\/s'.ob.getD r none=some (.row e sz es .yes)):AvW s s' (.osl r a n m) (.d (.lst sz zs))
 | fresh (r e sz:Nat) (h:s.ob.getD r none=none) (h':s'.ob.getD r none=some (.row e sz [] .no)):AvW s s' (.d (.nil sz)) (.own r 0)
 | lstB (r:Nat) (cs:List AV) (ys:List D) (sz:Nat) (h:s.ob.getD r none=some (.box cs)) (h':s'.ob.getD r none=none) (hsz:sz=cs.length) (hl:ys.length=cs.length) (hp:0<cs.length)
   (hc :∀i (hi:i<cs.length) (hi':i<ys.length),AvW s s' cs[i] (.d ys[i])) (hn :∀i (hi:i<ys.length),ys[i].isAgg=false):AvW s s' (.own r 1) (.d (.lst sz [.agg ys]))
 | tup (cs cs':List AV) (hl:cs.length=cs'.length) (hc :∀i (hi:i<cs.length) (hi':i<cs'.length),AvW s s' cs[i] cs'[i]):AvW s s' (.tup cs) (.tup cs')
 | agg (cs cs':List AV) (hl:cs.length=cs'.length) (hc :∀i (hi:i<cs.length) (hi':i<cs'.length),AvW s s' cs[i] cs'[i]) (hn :∀i (hi:i<cs'.length),cs'[i].one=true):AvW s s' (.agg cs) (.agg cs')
 | aggD (cs:List AV) (ys:List D) (hl:cs.length=ys.length) (hc :∀i (hi:i<cs.length) (hi':i<ys.length),AvW s s' cs[i] (.d ys[i])) (hn :∀i (hi:i<ys.length),ys[i].isAgg=false):AvW s s' (.agg cs) (.d (.agg ys))
 | dagg (ds:List D) (cs':List AV) (hl:ds.length=cs'.length) (hc :∀i (hi:i<ds.length) (hi':i<cs'.length),AvW s s' (.d ds[i]) cs'[i]) (hn :∀i (hi:i<cs'.length),cs'[i].one=true):AvW s s' (.d (.agg ds)) (.agg cs')
def tmW (s s':ASt):List AV->List AV->Prop
 | [],[]=>True
 | a::l,a'::l'=>(match a' with
  | .dead=>tmW s s' l l'
  | a'=>AvW s s' a a'/\tmW s s' l l')
 | _,_=>False
def LO (s s':ASt):List AV->List AV->Prop
 | [],[]=>True
 | a::l,a'::l'=>(a'.one=true/\AvW s s' a a')/\LO s s' l l'
 | _,_=>False
def obW (s s':ASt):List (Option OB)->List (Option OB)->Prop
 | [],[]=>True
 | o::l,o'::l'=>(match o' with
  | none=>obW s s' l l'
  | some (.box cs')=>(∃cs,o=some (.box cs)/\LO s s' cs cs')/\obW s s' l l'
  | some (.row e sz es frz)=>((∃f,o=some (.row e sz es f)/\fzW es f frz)\/(o=none/\es=[]/\0<sz))/\obW s s' l l'
  | some (.map k e es)=>(o=some (.map k e es) \/∃kv r n,o=some (.amap k e es kv r n))/\obW s s' l l'
  | some (.amap k e es kv r n)=>((∃n',o=some (.amap k e es kv r n')/\n'=n)\/((o=some (.map k e es) \/∃kv r n,o=some (.amap k e es kv r n))/\(∃tk,BL tk (.val kv) es=some none)/\n=0/\s.ob.getD r none=none/\∃e' sz f,s'.ob.getD r none=some (.row e' sz [] f)))/\obW s s' l l'
  | some .gone=>o=some .gone/\obW s s' l l')
 | _,_=>False
def ME (s:ASt):Bool:=
 (AV.refs.refsL s.tm).all (fun r=>(s.ob.getD r none).isSome)&&s.ob.all fun
  | none=>true
  | some o=>o.refs.all fun r=>(s.ob.getD r none).isSome
structure Weak0 (np:Nat) (s s':ASt):Prop where
 par:((List.range np).all fun r=>!(s.ob.getD r none).isSome || (s'.ob.getD r none).isSome)=true
 tm:tmW s s' s.tm s'.tm
 ob:obW s s' s.ob s'.ob
 closed:ME s'=true
def sw (i j r:Nat):Nat:=match Nat.beq r i with
 | true=>j
 | false=>match Nat.beq r j with
  | true=>i
  | false=>r
def AV.sw (i j:Nat):AV->AV
 | .d x=>.d x
 | .agg cs=>.agg (swL i j cs)
 | .ref r off=>.ref (Go.AX.sw i j r) off
 | .eref cs=>.eref cs
 | .own r n=>.own (Go.AX.sw i j r) n
 | .rref r n a k=>.rref (Go.AX.sw i j r) n a k
 | .fn f cs=>.fn f (swL i j cs)
 | .tup cs=>.tup (swL i j cs)
 | .mp r=>.mp (Go.AX.sw i j r)
 | .it f r=>.it f (Go.AX.sw i j r)
 | .gl g=>.gl g
 | .gv g=>.gv g
 | .osl r a n m=>.osl (Go.AX.sw i j r) a n m
 | .dead=>.dead where
 swL (i j:Nat):List AV->List AV
  | []=>[]
  | a::l=>a.sw i j::swL i j l
def FZ.sw (i j:Nat):FZ->FZ
 | .lk a b q n=>.lk a b (Go.AX.sw i j q) n
 | f=>f
def OB.sw (i j:Nat):OB->OB
 | .box cs=>.box (AV.sw.swL i j cs)
 | .row e sz es frz=>.row e sz es (frz.sw i j)
 | .map k e es=>.map k e es
 | .amap k e es kv r n=>.amap k e es kv (Go.AX.sw i j r) n
 | .gone=>.gone
def L2 (i j:Nat):List (Option OB)->List (Option OB)
 | []=>[]
 | none::l=>none::L2 i j l
 | some o::l=>some (o.sw i j)::L2 i j l
def Ir (i j:Nat) (s:ASt):ASt:=⟨AV.sw.swL i j s.tm,((L2 i j s.ob).set i ((L2 i j s.ob).getD j none)).set j ((L2 i j s.ob).getD i none)⟩
inductive Weak (np:Nat):ASt->ASt->Prop where
 | mk {s s':ASt} (par:((List.range np).all fun r=>!(s.ob.getD r none).isSome || (s'.ob.getD r none).isSome)=true) (tm:tmW s s' s.tm s'.tm) (ob:obW s s' s.ob s'.ob) (closed:ME s'=true):Weak np s s'
 | swap {s s':ASt} (i j:Nat) (hi:Nat.ble np i=true) (hj:Nat.ble np j=true) (hl:(Nat.blt i s.ob.length&&Nat.blt j s.ob.length)=true) (h:Weak np (Ir i j s) s'):Weak np s s'
def onL (K:AE->ASt->Prop) (K':ASt->Prop) (e:AE) (st:ASt):Prop:=match e with
 | .normal=>K' st
 | .exit i=>K (.exit i) st
 | .ret=>K .ret st
inductive LoopP (np:Nat) (body:(AE->ASt->Prop)->ASt->Prop) (K:AE->ASt->Prop) (st:ASt):Prop where
 | mk (h:(∀t sz es,st.tm.getD t .dead=.d (.lst sz es)->es.length<=9223372036854775807)->(∀r e sz es f,st.ob.getD r none=some (.row e sz es f)->es.length<=9223372036854775807)->∃I:ASt->Nat->Prop,(∃s n,Weak np st s/\I s n)/\
  ∀s n,I s n->body (onL K fun t=>∃s' m,m<n/\Weak np t s'/\I s' m) s)
inductive CutP (np:Nat) (X:(ASt->Prop)->Prop) (K:ASt->Prop):Prop where
 | go (h:X K)
 | cut (J:ASt->Prop) (h1:X fun t=>∃s,Weak np t s/\J s) (h2 :∀s,J s->K s)
def aY (cx:Cx) (o:Oper) (tm:List AV) (ob:List (Option OB)) (K:ASt->Prop):Prop:=match o.op with
 | .call c=>(match c.callee with
  | .value x=>fnK (evO tm x) fun f caps=>(match cx.inl f with
   | true=>CutP cx.np (fun K'=>cx.I f (F4 cx.T (evO tm) c.args.toList c.argTypes.toList++caps) ob fun r ob'=>KX tm o.dst r fun tm=>K' ⟨tm,ob'⟩) K
   | false=>opX cx o (evO tm) ob fun v w=>KX tm o.dst v fun tm=>wrK ob w fun ob=>K ⟨tm,ob⟩)
  | _=>opX cx o (evO tm) ob fun v w=>KX tm o.dst v fun tm=>wrK ob w fun ob=>K ⟨tm,ob⟩)
 | _=>opX cx o (evO tm) ob fun v w=>KX tm o.dst v fun tm=>wrK ob w fun ob=>K ⟨tm,ob⟩
def WJ (cx:Cx) (ops:Array Oper) (o:Oper) (st:ASt) (K:ASt->Prop):Prop:=match st with
 | ⟨tm,ob⟩=>I1 ops o tm (fun tm=>aY cx o tm ob K) (fun tm=>KX tm o.dst (.tup []) fun tm=>K ⟨tm,ob⟩)
def YM (cx:Cx) (ops:Array Oper):List Oper->ASt->(ASt->Prop)->Prop
 | [],st,K=>K st
 | o::rest,st,K=>WJ cx ops o st fun st=>YM cx ops rest st K
def guarded:List Oper->Bool
 | []=>false
 | o::l=>match o.guard with
  | none=>guarded l
  | some _=>true
def onN (K:AE->ASt->Prop) (K':ASt->Prop) (e:AE) (st:ASt):Prop:=match e with
 | .normal=>K' st
 | .exit i=>K (.exit i) st
 | .ret=>K .ret st
def onB (id:Nat) (K:AE->ASt->Prop) (K':ASt->Prop) (e:AE) (st:ASt):Prop:=match e with
 | .normal=>K' st
 | .exit i=>(match Nat.beq i id with
  | true=>K' st
  | false=>K (.exit i) st)
 | .ret=>K .ret st
def ay (cx:Cx) (ops:Array Oper) (st:ASt) (K:ASt->Prop):Prop:=match guarded ops.toList with
 | true=>CutP cx.np (YM cx ops ops.toList st) K
 | false=>YM cx ops ops.toList st K
def YZ (cx:Cx) (ops:Array Oper) (st:ASt) (K:ASt->Prop):Prop:=HW ops=true/\PT cx ops ops.toList [] st fun evs st'=>FG ops 0 evs=true/\K st'
def Xx (ops:Array Oper):Bool:=Nat.blt 0 ops.size&&(List.range (ops.size - 1)).all fun j=>(Fg ops (ops.size - 1)).contains j
def YV (cx:Cx) (ops:Array Oper) (st:ASt) (K:ASt->Prop):List Oper->Prop
 | []=>False
 | [o]=>WJ cx ops o st K
 | _::l=>YV cx ops st K l
def Ji:List Oper->List Oper
 | []=>[]
 | [_]=>[]
 | o::l=>o::Ji l
def Vj (cx:Cx) (ops:Array Oper) (st:ASt) (K:ASt->Prop):Prop:=(HW ops=true/\Xx ops=true)/\PT cx ops (Ji ops.toList) [] st fun evs st'=>FG ops 0 evs=true/\YV cx ops st' K ops.toList
def Fh (cx:Cx):Code->(AE->ASt->Prop)->ASt->Prop
 | .skip,K,st=>K .normal st
 | .region _ ops false,K,st=>ay cx ops st (K .normal)
 | .region _ ops true,K,st=>(match guarded ops.toList with
  | true=>CutP cx.np (fun K'=>YZ cx ops st K'\/Vj cx ops st K') (K .normal)
  | false=>YZ cx ops st (K .normal)\/Vj cx ops st (K .normal))
 | .seq a b,K,st=>Fh cx a (onN K (Fh cx b K)) st
 | .cond c x y,K,st=>(match evO st.tm c with
  | .d (.val (.bool b))=>CutP cx.np (fun K'=>M5 b (Fh cx x (onN K K') st) (Fh cx y (onN K K') st)) (K .normal)
  | _=>False)
 | .block id b,K,st=>CutP cx.np (fun K'=>Fh cx b (onB id K K') st) (K .normal)
 | .loop b,K,st=>LoopP cx.np (Fh cx b) K st
 | .exit id,K,st=>K (.exit id) st
 | .ret,K,st=>K .ret st
 | _,_,_=>False
def SU (cx:Cx) (st:ASt):List ResultVar->(List AV->Prop)->Prop
 | [],K=>K []
 | .tmp t::rs,K=>(st.tm.getD t .dead).force fun a=>SU cx st rs fun l=>K (a::l)
 | .cell a ty::rs,K=>(match st.tm.getD a .dead with
  | .ref r off=>QE cx.T ty (.ref r off) st.ob fun v=>SU cx st rs fun l=>K (v::l)
  | _=>False)
def Uh:List Nat->Nat->Option Nat
 | [],_=>none
 | x::l,r=>match Nat.beq r x with
  | true=>some 0
  | false=>match Uh l r with
   | some k=>some (k + 1)
   | none=>none
def ND (rs:List Nat):List AV->List AV
 | []=>[]
 | .own r n::cs=>(match MM rs r with
  | true=>.d (.nil 1)
  | false=>.own r n)::ND rs cs
 | a::cs=>a::ND rs cs
def WB (np:Nat) (rs:List Nat):List AV->List D->List AV
 | .own r n::cs,d::ds=>(match Uh rs r with
  | some k=>.own (np + k) n
  | none=>.d d)::WB np rs cs ds
 | _::cs,d::ds=>.d d::WB np rs cs ds
 | _,_=>[]
def HB (ob:List (Option OB)):List Nat->(List OB->Prop)->Prop
 | [],K=>K []
 | r::rs,K=>C7 ob r fun o=>match o with
  | .row e sz es f=>AU (!f.linked) <| HB ob rs fun l=>K (.row e sz es f::l)
  | _=>False
def S7 (np:Nat) (ob:List (Option OB)) (rs:List Nat) (cs:List AV) (K:AV->Prop):Prop:=
 AU (QR rs&&rs.all fun r=>Nat.ble np r) <| toD ob (.agg (ND rs cs)) fun x w=>match x with
  | .agg ds=>AU (w.all fun q=>Nat.ble np q.1&&!MM rs q.1) <| K (.agg (WB np rs cs ds))
  | _=>False
def V2 (np:Nat) (ob:List (Option OB)) (a:AV) (K:AV->Option Nat->Prop):Prop:=match a with
 | .d x=>N5 x fun x=>K (.d x) none
 | .own r n=>(match Nat.blt r np with
  | true=>K (.own r n) none
  | false=>toD ob (.own r n) (fun x _=>K (.d x) none)\/K (.own np n) (some r))
 | .agg cs=>toD ob (.agg cs) (fun x w=>AU (w.all fun q=>Nat.ble np q.1) <| K (.d x) none)
 | .ref r off=>(match Nat.blt r np with
  | true=>K (.ref r off) none
  | false=>K (.ref np off) (some r))
 | .mp r=>(match Nat.blt r np with
  | true=>K (.mp r) none
  | false=>K (.mp np) (some r))
 | _=>False
def VO (np:Nat) (ob:List (Option OB)):List AV->(List AV->Prop)->Prop
 | [],K=>K []
 | a::l,K=>V2 np ob a fun a' nw=>match nw with
  | none=>VO np ob l fun l'=>K (a'::l')
  | some _=>False
def Ik (ob:List (Option OB)):Nat->Nat->(List OB->Prop)->Prop
 | 0,_,K=>K []
 | n + 1,i,K=>C7 ob i fun o=>match o with
  | .box cs=>Gi.cellsD cs fun cs=>Ik ob n (i + 1) fun l=>K (.box cs::l)
  | .row e sz es frz=>AU (!frz.linked) <| Ik ob n (i + 1) fun l=>K (.row e sz es frz::l)
  | .map k e es=>Ik ob n (i + 1) fun l=>K (.map k e es::l)
  | .amap ..=>False
  | .gone=>Ik ob n (i + 1) fun l=>K (.gone::l)
def leave1 (np:Nat) (ob:List (Option OB)) (R:AV->List OB->Prop) (a:AV) (objs:List OB):Prop:=match a with
 | .d (.nil sz)=>R (.d (.lst sz [])) objs\/(0<sz/\∃e,R (.own np 0) (objs++[.row e sz [] .no]))
 | .agg cs=>toD ob (.agg cs) (fun x w=>AU (w.all fun q=>Nat.ble np q.1) <| R (.d x) objs) \/∃rs,S7 np ob rs cs fun x=>HB ob rs fun os=>R x (objs++os)
 | .own r n=>(V2 np ob (.own r n) fun a' nw=>(match nw with
   | none=>R a' objs
   | some r=>C7 ob r fun o=>match o with
    | .box cs=>Gi.cellsD cs fun cs=>R a' (objs++[.box cs])
    | .row e sz es frz=>AU (!frz.linked) <| R a' (objs++[.row e sz es frz])
    | .map k e es=>R a' (objs++[.map k e es])
    | .amap ..=>False
    | .gone=>False))\/(AU (Nat.blt r np) <| match objs[r]? with
     | some (.row e sz es .no)=>R (.own np n) (objs.set r .gone++[.row e sz es .no])
     | _=>False)
 | a=>V2 np ob a fun a' nw=>(match nw with
   | none=>R a' objs
   | some r=>C7 ob r fun o=>match o with
    | .box cs=>Gi.cellsD cs fun cs=>R a' (objs++[.box cs])
    | .row e sz es frz=>AU (!frz.linked) <| R a' (objs++[.row e sz es frz])
    | .map k e es=>R a' (objs++[.map k e es])
    | .amap ..=>False
    | .gone=>False)
def bB (cx:Cx) (fn:Func) (R:AV->List OB->Prop) (e:AE) (st:ASt):Prop:=
 match e with
 | .exit _=>False
 | _=>SU cx st fn.results.toList fun asz=>Ik st.ob cx.np 0 fun objs=>(match asz with
  | [a]=>leave1 cx.np st.ob R a objs
  | asz=>VO cx.np st.ob asz fun asz'=>R (.tup asz') objs)
def P1 (ex:Nat) (fn:Func) (args:List AV) (objs:List OB):ASt:=
 { tm:=args++List.replicate (fn.ntmps - args.length) .dead,ob:=objs.map some++List.replicate (fn.ntmps + ex) none }
def Ye (cx:Cx) (fn:Func) (args:List AV) (objs:List OB) (R:AV->List OB->Prop):Prop:=
 cx.np=objs.length/\match fn.body with
  | some c=>Fh cx c (bB cx fn R) (P1 cx.ex fn args objs)
  | none=>False
def HY:List (Option OB)->Nat->Bool
 | [],_=>true
 | _::l,n + 1=>HY l n
 | none::l,0=>HY l 0
 | some _::_,0=>false
def an (cx:Cx) (fn:Func) (K:AV->List (Option OB)->Prop) (e:AE) (st:ASt):Prop:=
 match e with
 | .exit _=>False
 | _=>SU cx st fn.results.toList fun asz=>(match asz with
  | [a]=>K a st.ob
  | asz=>K (.tup asz) st.ob)
def ax (cx:Cx) (fn:Func) (args:List AV) (ob:List (Option OB)) (K:AV->List (Option OB)->Prop):Prop:=
 HY ob cx.np=true/\match fn.body with
  | some c=>Fh cx c (an cx fn K) ⟨args++List.replicate (fn.ntmps - args.length) .dead,ob⟩
  | none=>False
end Go.AX
end
section
namespace Go.AX
theorem FM {α:Type} (l:List α) (n:Nat) (v:α) (K:List α->Prop):KZ l n v K↔K (l.set n v):=by
 induction l generalizing n K with
 | nil=>simp[KZ]
 | cons x l ih=>cases n<;>simp[KZ,ih]
theorem Dl {α:Type} (l:List α) (n:Nat) (K:List α->Prop):OK l n K↔K (l.drop n):=by
 induction l generalizing n with
 | nil=>cases n<;>simp[OK]
 | cons x l ih=>cases n<;>simp[OK,ih]
theorem C6 {α:Type} (l:List α) (n:Nat) (K:List α->Prop):MJ l n K↔K (l.take n):=by
 induction l generalizing n K with
 | nil=>cases n<;>simp[MJ]
 | cons x l ih=>cases n<;>simp[MJ,ih]
theorem Ey {α:Type} (cs:List α) (n:Nat) (vs:List α) (K:List α->Prop) :
  MV cs n vs K↔n + vs.length<=cs.length/\K (cs.take n++vs++cs.drop (n + vs.length)):=by
 induction cs generalizing n vs K with
 | nil=>cases n<;>cases vs<;>simp[MV]
 | cons c cs ih=>
  cases n with
  | zero=>cases vs<;>simp[MV,ih]
  | succ n=>simp[MV,ih,Nat.add_right_comm]
@[simp] theorem AH (b:Bool) (P:Prop):AU b P↔b=true/\P:=by cases b<;>simp[AU]
theorem CB (a:AV) (K:AV->Prop):a.force K↔K a:=by cases a<;>rfl
theorem D4 (x:D) (K:D->Prop):N5 x K↔K x.norm:=by
 cases x with
 | agg cs=>
  simp only[N5,D.norm]
  induction cs generalizing K with
  | nil=>simp[Lx]
  | cons c cs ih=>
   simp only[Lx,List.map_cons]
   cases c<;>simp only<;>exact ih fun x=>match x with
    | .agg l=>K (.agg (_::l))
    | x=>K x
 | _=>simp[N5,D.norm]
theorem Ar (ob:List (Option OB)) (r:Nat) (K:OB->Prop):C7 ob r K ↔∃o,ob.getD r none=some o/\K o:=by
 unfold C7
 cases ob.getD r none with
 | none=>simp
 | some o=>cases o<;>simp
theorem B2 (ob:List (Option OB)) (r:Nat) (K:Prop):noO ob r K↔ob[r]?=some none/\K:=by
 unfold noO
 cases ob[r]? with
 | none=>simp
 | some o=>cases o<;>simp
def Xl (cs:List AV):AV:=match Q5 cs with
 | some l=>.d (.agg l)
 | none=>.agg cs
theorem EC (cs:List AV) (K:AV->Prop):R7 cs K↔K (Xl cs):=by
 unfold R7 Xl
 cases Q5 cs<;>rfl
theorem Wm :∀(cs:List AV) (l:List D),Q5 cs=some l->cs=l.map .d
 | [],l,h=>by simp[Q5] at h;simp[<- h]
 | a::r,l,h=>by
  cases a<;>simp[Q5] at h
  rename_i x
  cases hr:Q5 r with
  | none=>simp[hr] at h
  | some l'=>simp[hr] at h;subst h;simp[Wm r l' hr]
def Hq:List D->Option (List AV)
 | []=>some []
 | c::cs=>match c.isAgg,Hq cs with
  | false,some l=>some (.d c::l)
  | _,_=>none
theorem LC :∀(cs:List D) (l:List AV),Hq cs=some l->l=cs.map .d/\∀c ∈ cs,c.isAgg=false
 | [],l,h=>by simp[Hq] at h;simp[<- h]
 | c::cs,l,h=>by
  simp only[Hq] at h
  split at h
  ·rename_i l' h1 h2
   obtain⟨g1,g2⟩:=LC cs l' h2
   simp only[X24] at h
   subst h g1
   refine⟨rfl,fun x hx=>?_⟩
   cases hx with
   | head=>exact h1
   | tail _ hx=>exact g2 x hx
  simp at h
def DG:AV->Option (List AV)
 | .d (.agg cs)=>Hq cs
 | .d x=>some [.d x]
 | .agg cs=>some cs
 | .ref r o=>some [.ref r o]
 | .own r n=>some [.own r n]
 | .mp r=>some [.mp r]
 | .fn f c=>some [.fn f c]
 | _=>none
theorem Ef (a:AV) (K:List AV->Prop):LY a K ↔∃l,DG a=some l/\K l:=by
 cases a with
 | d x=>
  cases x with
  | agg cs=>
   simp only[LY,DG]
   induction cs generalizing K with
   | nil=>simp[Lx,Hq]
   | cons c cs ih=>
    cases c<;>simp only[Lx,ih,Hq,D.isAgg]<;>cases h:Hq cs<;>simp
  | _=>simp[LY,DG]
 | _=>simp[LY,DG]
abbrev Sc:=Nat->Nat->Prop
def cellAt (w:World) (b o:Nat):Option Value:=w.cell? ⟨b,o,none⟩
inductive RepD (S:Sc) (w:World):D->Value->Prop
 | val (v:Value) (h:v.oneCell'=true):RepD S w (.val v) v
 | agg (cs:List D) (vs:Array Value) (f:Nat->Value) (hs:vs.size=cs.length) (hf :∀i,i<cs.length->vs[i]?=some (f i))
   (hn :∀i (hi:i<cs.length),cs[i].isAgg=false) (h :∀i (hi:i<cs.length),RepD S w cs[i] (f i)):RepD S w (.agg cs) (.agg vs)
 | nil (sz:Nat):RepD S w (.nil sz) (.slice none 0 0)
 | lst0 (sz:Nat) (a:Option Addr) (cap:Nat):RepD S w (.lst sz []) (.slice a 0 cap)
 | lst (sz:Nat) (es:List D) (b o cap:Nat) (f:Nat->Nat->Value) (hl:es.length<=maxLen) (hc:es.length<=cap) (hsz :∀i (hi:i<es.length),es[i].cells.length=sz)
   (hS :∀i j,i<es.length->j<sz->S b (o + i * sz + j)/\cellAt w b (o + i * sz + j)=some (f i j))
   (hn :∀i (hi:i<es.length) j (hj:j<es[i].cells.length),es[i].cells[j].isAgg=false)
   (h :∀i (hi:i<es.length) j (hj:j<es[i].cells.length),RepD S w es[i].cells[j] (f i j)):RepD S w (.lst sz es) (.slice (some ⟨b,o,none⟩) es.length cap)
abbrev Rp:=Nat×Nat
def Hm (φ:Nat->Option (Nat×Rp)) (r n:Nat) (v:Value):Prop:=
 (φ r=none/\n=0/\∃a,v=.slice a 0 0) \/∃b cap,φ r=some (b,cap)/\v=.slice (some ⟨b,cap.2,none⟩) n cap.1
inductive RepA (S:Sc) (w:World) (φ:Nat->Option (Nat×Rp)) (ob:Nat->Option OB):AV->Value->Prop
 | d (x:D) (v:Value) (h:RepD S w x v):RepA S w φ ob (.d x) v
 | agg (cs:List AV) (vs:Array Value) (f:Nat->Value) (hs:vs.size=cs.length) (hf :∀i,i<cs.length->vs[i]?=some (f i))
   (hn :∀i (hi:i<cs.length),cs[i].one=true) (h :∀i (hi:i<cs.length),RepA S w φ ob cs[i] (f i)):RepA S w φ ob (.agg cs) (.agg vs)
 | tup (cs:List AV) (vs:Array Value) (f:Nat->Value) (hs:vs.size=cs.length) (hf :∀i,i<cs.length->vs[i]?=some (f i))
   (h :∀i (hi:i<cs.length),RepA S w φ ob cs[i] (f i)):RepA S w φ ob (.tup cs) (.tuple vs)
 | ref (r off b:Nat) (c:Rp) (h:φ r=some (b,c)) (hb :∀e sz es frz,ob r≠some (.row e sz es frz)):RepA S w φ ob (.ref r off) (.pointer (some ⟨b,off,none⟩))
 | eref (cs:List D) (b o:Nat) (f:Nat->Value) (hS :∀j,j<cs.length->S b (o + j)/\cellAt w b (o + j)=some (f j))
   (hn :∀j (hj:j<cs.length),cs[j].isAgg=false) (h :∀j (hj:j<cs.length),RepD S w cs[j] (f j)):RepA S w φ ob (.eref cs) (.pointer (some ⟨b,o,none⟩))
 | own (r n:Nat) (v:Value) (k c:Nat) (a0:Option Addr) (hv:v=.slice a0 k c) (hk:k=n)
   (h :∀e sz es frz,ob r=some (.row e sz es frz)->n<=es.length/\(n=es.length->Hm φ r n v)) (hb :∀cs,ob r=some (.box cs)->n=1/\∃b c,φ r=some (b,c)/\v=.slice (some ⟨b,0,none⟩) 1 1):RepA S w φ ob (.own r n) v
 | rref (r n i k:Nat) (v:Value) (h :∀e sz es frz,ob r=some (.row e sz es frz)->n<=es.length/\(n=es.length->i<n/\∃b c,φ r=some (b,c)/\v=.pointer (some ⟨b,c.2 + (i * sz + k),none⟩)))
   (hb :∀cs,ob r=some (.box cs)->∃b c,φ r=some (b,c)/\v=.pointer (some ⟨b,k + i,none⟩)) (hp :∃a,v=.pointer (some a)):RepA S w φ ob (.rref r n i k) v
 | osl (r a n m:Nat) (v:Value) (k c:Nat) (a0:Option Addr) (hv:v=.slice a0 k c) (hk:k=n)
   (h :∀e sz es frz,ob r=some (.row e sz es frz)->m<=es.length/\(m=es.length->a + n<=m/\(n=0 \/∃b cap c',φ r=some (b,cap)/\v=.slice (some ⟨b,cap.2 + a * sz,none⟩) n c'/\n<=c')/\(a=0->Hm φ r n v))):RepA S w φ ob (.osl r a n m) v
 | mp (r b:Nat) (c:Rp) (h:φ r=some (b,c)) (hb :∀e sz es frz,ob r≠some (.row e sz es frz)) (hc :∀cs,ob r≠some (.box cs)):RepA S w φ ob (.mp r) (.map (some b))
 | it (f:FuncId) (r b:Nat) (c:Rp) (B:Nat) (h:φ r=some (b,c)) (hb :∀e sz es frz,ob r≠some (.row e sz es frz)) (hc :∀cs,ob r≠some (.box cs)) (hS:S B 0) (hm:cellAt w B 0=some (.map (some b))) :
   RepA S w φ ob (.it f r) (.func (.func f) #[] #[.pointer (some ⟨B,0,none⟩)])
 | fn (f:FuncId) (cs:List AV) (vs:Array Value) (g:Nat->Value) (hs:vs.size=cs.length) (hf :∀i,i<cs.length->vs[i]?=some (g i))
   (h :∀i (hi:i<cs.length),RepA S w φ ob cs[i] (g i)):RepA S w φ ob (.fn f cs) (.func (.func f) #[] vs)
 | gl (g:Nat):RepA S w φ ob (.gl g) (.pointer (some ⟨g,0,none⟩))
 | gv (g:Nat) (v:Value) (hS:S g 0) (hv:cellAt w g 0=some v):RepA S w φ ob (.gv g) v
 | dead (v:Value):RepA S w φ ob .dead v
def Ls (S:Sc) (w:World) (S':Sc) (w':World):Prop:=∀b o,S b o->S' b o/\cellAt w' b o=cellAt w b o
theorem RepD.mono {S S':Sc} {w w':World} (hk:Ls S w S' w') {x:D} {v:Value} (h:RepD S w x v):RepD S' w' x v:=by
 induction h with
 | val v h=>exact .val v h
 | agg cs vs f hs hf hn _ ih=>exact .agg cs vs f hs hf hn ih
 | nil sz=>exact .nil sz
 | lst0 sz a cap=>exact .lst0 sz a cap
 | lst sz es b o cap f hl hc hsz hS hn _ ih=>
  exact .lst sz es b o cap f hl hc hsz (fun i j hi hj=>⟨(hk _ _ (hS i j hi hj).1).1,(hk _ _ (hS i j hi hj).1).2.trans (hS i j hi hj).2⟩) hn ih
def hdr:Option OB->Option (Nat×Nat×Nat)
 | some (.row e sz es _)=>some (e,sz,es.length)
 | _=>none
def RefOK (φ:Nat->Option (Nat×Rp)) (ob:Nat->Option OB) (φ':Nat->Option (Nat×Rp)) (ob':Nat->Option OB) (r:Nat):Prop:=
 (φ' r=φ r/\hdr (ob' r)=hdr (ob r)/\((∃cs,ob' r=some (.box cs))->∃cs,ob r=some (.box cs))) \/
 (∃e sz es frz es' frz',ob r=some (.row e sz es frz)/\ob' r=some (.row e sz es' frz')/\es.length<=es'.length/\(es'.length=es.length->φ' r=φ r)) \/
 ((∃e sz es frz,ob r=some (.row e sz es frz))/\hdr (ob' r)=none/\∀cs,ob' r≠some (.box cs))
theorem Hz {o:Option OB} {e sz:Nat} {es:List D} {frz:FZ} {o':Option OB} (h:o'=some (.row e sz es frz)) (hh:hdr o'=hdr o) :
  ∃es0 f,o=some (.row e sz es0 f)/\es0.length=es.length:=by
 subst h
 cases o with
 | none=>simp[hdr] at hh
 | some o=>
  cases o with
  | box cs=>simp[hdr] at hh
  | map=>simp[hdr] at hh
  | amap=>simp[hdr] at hh
  | gone=>simp[hdr] at hh
  | row e' sz' es' f=>simp[hdr] at hh;exact⟨es',f,by simp[hh],hh.2.2.symm⟩
theorem Qa {o:Option OB} (h:hdr o=none) (e sz:Nat) (es:List D) (frz:FZ):o≠some (.row e sz es frz):=by
 rintro rfl
 simp[hdr] at h
theorem RepA.mono {S S':Sc} {w w':World} {φ φ':Nat->Option (Nat×Rp)} {ob ob':Nat->Option OB} (hk:Ls S w S' w') {a:AV} {v:Value} (h:RepA S w φ ob a v)
  (hr :∀r,r ∈ a.refs->RefOK φ ob φ' ob' r):RepA S' w' φ' ob' a v:=by
 have hl :∀(cs:List AV) (i:Nat) (hi:i<cs.length) (r:Nat),r ∈ cs[i].refs->r ∈ AV.refs.refsL cs:=by
  intro cs
  induction cs with
  | nil=>intro i hi;simp at hi
  | cons c cs ih=>
   intro i hi r hm
   simp only[AV.refs.refsL,X23]
   cases i with
   | zero=>exact .inl hm
   | succ i=>exact .inr (ih i (by simpa using hi) r hm)
 induction h with
 | d x v h=>exact .d x v (h.mono hk)
 | agg cs vs f hs hf hn _ ih=>exact .agg cs vs f hs hf hn fun i hi=>ih i hi fun r hm=>hr r (hl cs i hi r hm)
 | tup cs vs f hs hf _ ih=>exact .tup cs vs f hs hf fun i hi=>ih i hi fun r hm=>hr r (hl cs i hi r hm)
 | ref r off b c h hb=>
  rcases hr r (by simp[AV.refs]) with ⟨h1,h2,_⟩|⟨e,sz,es,frz,_,_,h1,_⟩|⟨⟨e,sz,es,frz,h1⟩,_⟩
  rotate_left 2
  ·exact absurd h1 (hb _ _ _ _)
  ·refine .ref r off b c (h1.trans h) fun e sz es frz hx=>?_
   obtain⟨es0,f,h0,_⟩:=Hz hx h2
   exact hb _ _ _ _ h0
  exact absurd h1 (hb _ _ _ _)
 | mp r b c h hb hc=>
  rcases hr r (by simp[AV.refs]) with ⟨h1,h2,h3⟩|⟨e,sz,es,frz,_,_,h1,_⟩|⟨⟨e,sz,es,frz,h1⟩,_⟩
  rotate_left 2
  ·exact absurd h1 (hb _ _ _ _)
  ·refine .mp r b c (h1.trans h) (fun e sz es frz hx=>?_) fun cs hx=>?_
   ·obtain⟨es0,f,h0,_⟩:=Hz hx h2
    exact hb _ _ _ _ h0
   obtain⟨cs',h'⟩:=h3 ⟨cs,hx⟩
   exact hc cs' h'
  exact absurd h1 (hb _ _ _ _)
 | it f r b c B h hb hc hS hm=>
  rcases hr r (by simp[AV.refs]) with ⟨h1,h2,h3⟩|⟨e,sz,es,frz,_,_,h1,_⟩|⟨⟨e,sz,es,frz,h1⟩,_⟩
  rotate_left 2
  ·exact absurd h1 (hb _ _ _ _)
  ·refine .it f r b c B (h1.trans h) (fun e sz es frz hx=>?_) (fun cs hx=>?_) (hk _ _ hS).1 ((hk _ _ hS).2.trans hm)
   ·obtain⟨es0,f,h0,_⟩:=Hz hx h2
    exact hb _ _ _ _ h0
   obtain⟨cs',h'⟩:=h3 ⟨cs,hx⟩
   exact hc cs' h'
  exact absurd h1 (hb _ _ _ _)
 | eref cs b o f hS hn h=>exact .eref cs b o f (fun j hj=>⟨(hk _ _ (hS j hj).1).1,(hk _ _ (hS j hj).1).2.trans (hS j hj).2⟩) hn fun j hj=>(h j hj).mono hk
 | own r n v k c a0 hv hkn h hb=>
  rcases hr r (by simp[AV.refs]) with ⟨h1,h2,h3⟩|⟨e,sz,es,frz,es',frz',h1,h2,h3,h4⟩|⟨_,h2,h3⟩
  rotate_left 2
  ·exact .own r n v k c a0 hv hkn (fun e sz es frz hx=>absurd hx (Qa h2 _ _ _ _)) fun cs hx=>absurd hx (h3 cs)
  ·refine .own r n v k c a0 hv hkn (fun e sz es frz hx=>?_) fun cs hx=>?_
   ·obtain⟨es0,f,h0,hl0⟩:=Hz hx h2
    obtain⟨g1,g2⟩:=h _ _ _ _ h0
    refine⟨hl0 ▸ g1,fun hn=>?_⟩
    have:=g2 (hl0 ▸ hn)
    unfold Hm at *
    rwa [h1]
   obtain⟨cs',h'⟩:=h3 ⟨cs,hx⟩
   rw[h1]
   exact hb cs' h'
  refine .own r n v k c a0 hv hkn (fun e0 sz0 es0 frz0 hx=>?_) fun cs hx=>by rw[h2] at hx;simp at hx
  rw[h2] at hx
  simp only[X24,OB.row.injEq] at hx
  obtain⟨rfl,rfl,rfl,rfl⟩:=hx
  obtain⟨g1,g2⟩:=h _ _ _ _ h1
  refine⟨Nat.le_trans g1 h3,fun hn=>?_⟩
  have he:es'.length=es.length:=by omega
  have:=g2 (by omega)
  unfold Hm at *
  rwa [h4 he]
 | rref r n i k v h hb hp=>
  rcases hr r (by simp[AV.refs]) with ⟨h1,h2,h3⟩|⟨e,sz,es,frz,es',frz',h1,h2,h3,h4⟩|⟨_,h2,h3⟩
  rotate_left 2
  ·exact .rref r n i k v (fun e sz es frz hx=>absurd hx (Qa h2 _ _ _ _)) (fun cs hx=>absurd hx (h3 cs)) hp
  ·refine .rref r n i k v (fun e sz es frz hx=>?_) (fun cs hx=>?_) hp
   ·obtain⟨es0,f,h0,hl0⟩:=Hz hx h2
    obtain⟨g1,g2⟩:=h _ _ _ _ h0
    refine⟨hl0 ▸ g1,fun hn=>?_⟩
    have:=g2 (hl0 ▸ hn)
    rwa [h1]
   obtain⟨cs',h'⟩:=h3 ⟨cs,hx⟩
   rw[h1]
   exact hb cs' h'
  refine .rref r n i k v (fun e0 sz0 es0 frz0 hx=>?_) (fun cs hx=>by rw[h2] at hx;simp at hx) hp
  rw[h2] at hx
  simp only[X24,OB.row.injEq] at hx
  obtain⟨rfl,rfl,rfl,rfl⟩:=hx
  obtain⟨g1,g2⟩:=h _ _ _ _ h1
  refine⟨Nat.le_trans g1 h3,fun hn=>?_⟩
  have he:es'.length=es.length:=by omega
  have:=g2 (by omega)
  rwa [h4 he]
 | osl r a n m v k c a0 hv hkn h=>
  rcases hr r (by simp[AV.refs]) with ⟨h1,h2,h3⟩|⟨e,sz,es,frz,es',frz',h1,h2,h3,h4⟩|⟨_,h2,h3⟩
  ·refine .osl r a n m v k c a0 hv hkn fun e sz es frz hx=>?_
   obtain⟨es0,f,h0,hl0⟩:=Hz hx h2
   obtain⟨g1,g2⟩:=h _ _ _ _ h0
   refine⟨hl0 ▸ g1,fun hn=>?_⟩
   have:=g2 (hl0 ▸ hn)
   refine⟨this.1,by rw[h1];exact this.2.1,fun h0=>?_⟩
   have:=this.2.2 h0
   unfold Hm at *
   rwa [h1]
  ·refine .osl r a n m v k c a0 hv hkn fun e0 sz0 es0 frz0 hx=>?_
   rw[h2] at hx
   simp only[X24,OB.row.injEq] at hx
   obtain⟨rfl,rfl,rfl,rfl⟩:=hx
   obtain⟨g1,g2⟩:=h _ _ _ _ h1
   refine⟨Nat.le_trans g1 h3,fun hn=>?_⟩
   have he:es'.length=es.length:=by omega
   have:=g2 (by omega)
   refine⟨this.1,by rw[h4 he];exact this.2.1,fun h0=>?_⟩
   have:=this.2.2 h0
   unfold Hm at *
   rwa [h4 he]
  exact .osl r a n m v k c a0 hv hkn fun e sz es frz hx=>absurd hx (Qa h2 _ _ _ _)
 | fn f cs vs g hs hf _ ih=>exact .fn f cs vs g hs hf fun i hi=>ih i hi fun r hm=>hr r (hl cs i hi r hm)
 | gl g=>exact .gl g
 | gv g v hS hv=>exact .gv g v (hk _ _ hS).1 ((hk _ _ hS).2.trans hv)
 | dead v=>exact .dead v
theorem RepD.one {S:Sc} {w:World} {x:D} {v:Value} (h:RepD S w x v) (hx:x.isAgg=false):v.oneCell'=true:=by
 cases h<;>first | assumption | rfl | simp[D.isAgg] at hx
theorem RepA.one {S:Sc} {w:World} {φ:Nat->Option (Nat×Rp)} {ob:Nat->Option OB} {a:AV} {v:Value} (h:RepA S w φ ob a v) (ha:a.one=true):v.oneCell'=true:=by
 cases h<;>simp[AV.one] at ha
 case d h=>exact h.one ha
 case own=>subst_vars;rfl
 case osl=>subst_vars;rfl
 case rref hp=>obtain⟨a,rfl⟩:=hp;rfl
 all_goals rfl
def EntsOK (S:Sc) (w:World) (es:List (D×D)) (l:List MapEntry):Prop:=
 l.length=es.length/\∀i (hi:i<es.length),∃x,l[i]?=some x/\(∃u,es[i].1=.val u/\x.key=u/\u.oneCell'=true)/\RepD S w es[i].2 x.val
structure WL where
 wl:Prop
 G:Nat->Option (List (D×D))
def WL.low (W:WL):WL:=⟨False,W.G⟩
def WL.plain:WL:=⟨True,fun _=>none⟩
def WL.gf (W:WL) (gb:Nat->Prop) (w:World):Prop:=∀g es,W.G g=some es->gb g/\∃b arr clock es',gb b/\cellAt w g 0=some (.map (some b))/\w.heap[b]?=some (.map arr clock)/\(∀tk x q,BL tk x es=some q->BL tk x es'=some q)/\EntsOK (fun _ _=>False) w es' arr.toList
theorem WL.ext (W:WL) (gb:Nat->Prop) (w w':World) (h :∀b,gb b->w'.heap[b]?=w.heap[b]?) (hg:W.gf gb w):W.gf gb w':=by
 intro g es he
 obtain⟨h1,b,arr,clock,es',h2,h3,h4,h6,h5⟩:=hg g es he
 refine⟨h1,b,arr,clock,es',h2,?_,(h b h2).trans h4,h6,h5.1,fun i hi=>?_⟩
 ·rw[<- h3]
  simp[cellAt,World.cell?,h g h1]
 obtain⟨x,e1,e2,e3⟩:=h5.2 i hi
 exact⟨x,e1,e2,e3.mono fun _ _ hf=>hf.elim⟩
structure GlobOK (W:WL) (gb PB:Nat->Prop) (S:Sc) (w:World):Prop where
 gf:W.gf gb w
 lt :∀b,gb b->b<w.heap.size
 pb :∀b,gb b->¬ PB b
 st :∀b o,gb b->cellAt w b o≠none->S b o
structure Env where
 w0:World
 S0:Sc
 PB:Nat->Prop
 wl:WL
 gb:Nat->Prop
 hg:GlobOK wl gb PB S0 w0
def AliasP (kv:Value) (Q:Value->Prop):List MapEntry->Prop
 | []=>Q (.slice none 0 0)
 | x::l=>(x.key=kv->Q x.val)/\(x.key≠kv->AliasP kv Q l)
theorem AliasP.imp {kv:Value} {Q Q':Value->Prop} (h :∀v,Q v->Q' v) :∀{l:List MapEntry},AliasP kv Q l->AliasP kv Q' l
 | [],a=>h _ a
 | _::_,a=>⟨fun e=>h _ (a.1 e),fun e=>(a.2 e).imp h⟩
def BornOK (arr:Array MapEntry) (clock:Nat):Prop:=(∀x ∈ arr.toList,x.born<clock)/\(arr.toList.map (·.born)).Nodup
theorem BornOK.empty (c:Nat):BornOK #[] c:=⟨fun x hx=>by simp at hx,by simp⟩
theorem BornOK.push {arr:Array MapEntry} {c:Nat} (h:BornOK arr c) (k v:Value):BornOK (arr.push ⟨k,v,c⟩) (c + 1):=by
 refine⟨fun x hx=>?_,?_⟩
 ·rw[Array.toList_push,X23] at hx
  rcases hx with hx | hx
  ·exact Nat.lt_succ_of_lt (h.1 x hx)
  rw[X14.1 hx];exact Nat.lt_succ_self _
 rw[Array.toList_push,List.map_append,List.nodup_append]
 refine⟨h.2,by simp,fun a ha b hb e=>?_⟩
 obtain⟨x,hx,rfl⟩:=List.mem_map.1 ha
 have:=h.1 x hx
 simp only[List.map_cons,List.map_nil,X14] at hb
 omega
theorem BornOK.modify {arr:Array MapEntry} {c:Nat} (h:BornOK arr c) (j:Nat) (f:MapEntry->MapEntry) (hf :∀x,(f x).born=x.born):BornOK (arr.modify j f) c:=by
 have e:(arr.modify j f).toList.map (·.born)=arr.toList.map (·.born):=by
  apply List.ext_getElem
  ·simp
  intro i h1 h2
  simp only[List.getElem_map,Array.getElem_toList,Array.getElem_modify]
  split
  ·exact hf _
  rfl
 refine⟨fun x hx=>?_,by rw[e];exact h.2⟩
 have:x.born ∈ (arr.modify j f).toList.map (·.born):=List.mem_map.2 ⟨x,hx,rfl⟩
 rw[e] at this
 obtain⟨y,hy,he⟩:=List.mem_map.1 this
 rw[<- he];exact h.1 y hy
def ObjOK (S:Sc) (w:World) (φ:Nat->Option (Nat×Rp)) (ob:Nat->Option OB) (r:Nat):OB->Prop
 | .box cs=>∃b c vs e,∃f:Nat->Value,φ r=some (b,c)/\w.heap[b]?=some (.cells vs e (0,0))/\vs.size=cs.length/\(∀o,¬ S b o)/\
   (∀j,j<cs.length->vs[j]?=some (f j))/\(∀j (hj:j<cs.length),cs[j].one=true/\RepA S w φ ob cs[j] (f j))
 | .row e sz es frz=>0<sz/\(∀i (hi:i<es.length),es[i].cells.length=sz)/\(∀i (hi:i<es.length) j (hj:j<es[i].cells.length),es[i].cells[j].isAgg=false)/\
   ((φ r=none/\es=[]) \/∃b cap vs,∃f:Nat->Nat->Value,φ r=some (b,cap)/\w.heap[b]?=some (.cells vs e (0,0))/\es.length<=cap.1/\cap.1<=maxLen/\cap.2 + cap.1 * sz<=vs.size/\
    (∀i j,i<es.length->j<sz->vs[cap.2 + (i * sz + j)]?=some (f i j))/\(∀i (hi:i<es.length) j (hj:j<es[i].cells.length),RepD S w es[i].cells[j] (f i j))/\
    (∀o,(if frz.frozen then cap.2 + es.length * sz else 0)<=o->¬ S b o)/\∀i j q n,frz=.lk i j q n->i<es.length->j<sz->RepA S w φ ob (.own q n) (f i j))
 | .gone=>True
 | .map _ _ es=>∃b c arr clock,φ r=some (b,c)/\w.heap[b]?=some (.map arr clock)/\(arr.size=es.length/\BornOK arr clock)/\(∀o,¬ S b o)/\
   ∀i (hi:i<es.length),∃x:MapEntry,arr[i]?=some x/\(∃u,es[i].1=.val u/\x.key=u/\u.oneCell'=true)/\RepD S w es[i].2 x.val
 | .amap _ _ es kv r' n=>∃b c arr clock,φ r=some (b,c)/\w.heap[b]?=some (.map arr clock)/\(arr.size=es.length/\BornOK arr clock)/\(∀o,¬ S b o)/\
   (∀i (hi:i<es.length),∃x:MapEntry,arr[i]?=some x/\(∃u,es[i].1=.val u/\x.key=u/\u.oneCell'=true)/\RepD S w es[i].2 x.val)/\
   AliasP kv (RepA S w φ ob (.own r' n)) arr.toList
structure Mem (E:Env) (w:World) (S:Sc) (φ:Nat->Option (Nat×Rp)) (ob:Nat->Option OB):Prop where
 obj :∀r o,ob r=some o->ObjOK S w φ ob r o
 inj :∀r r' b c c',ob r≠none->ob r'≠none->φ r=some (b,c)->φ r'=some (b,c')->r=r'
 men :∀r o,ob r=some o->∀r' ∈ o.refs,ob r'≠none
 sS :∀b o,E.S0 b o->S b o
 kS :∀b o,E.S0 b o->cellAt w b o=cellAt E.w0 b o
 bS :∀b o,S b o->b<w.heap.size
 nS :∀b o,S b o->b<E.w0.heap.size->¬ E.PB b->E.S0 b o
 fr :∀b,b<E.w0.heap.size->¬ E.PB b->w.heap[b]?=E.w0.heap[b]?
 sz:E.w0.heap.size<=w.heap.size
 ow :∀r b c,ob r≠none->φ r=some (b,c)->b<w.heap.size/\(E.w0.heap.size<=b\/E.PB b)
 os:w.os=E.w0.os/\w.output=E.w0.output/\w.tape=E.w0.tape/\(E.wl.wl\/E.w0.drawn<=w.drawn)
theorem Mem.glob {E:Env} {w:World} {S:Sc} {φ:Nat->Option (Nat×Rp)} {ob:Nat->Option OB} (m:Mem E w S φ ob) {PB:Nat->Prop} (h :∀b,PB b->∃r c,ob r≠none/\φ r=some (b,c)) :
  GlobOK E.wl E.gb PB S w:=by
 obtain⟨h1,h2,h3,h4⟩:=E.hg
 have e :∀b,E.gb b->w.heap[b]?=E.w0.heap[b]?:=fun b hb=>m.fr b (h2 b hb) (h3 b hb)
 refine⟨E.wl.ext _ _ _ e h1,fun b hb=>Nat.lt_of_lt_of_le (h2 b hb) m.sz,fun b hb hp=>?_,fun b o hb hc=>m.sS b o (h4 b o hb ?_)⟩
 ·obtain⟨r,c,q3,q4⟩:=h b hp
  rcases (m.ow r b c q3 q4).2 with h5 | h5
  ·have:=h2 b hb;omega
  exact h3 b hb h5
 intro hn
 apply hc
 rw[<- hn]
 simp[cellAt,World.cell?,e b hb]
def Closed (ob:Nat->Option OB) (a:AV):Prop:=∀r ∈ a.refs,ob r≠none
structure Kept (w:World) (S:Sc) (φ:Nat->Option (Nat×Rp)) (ob:Nat->Option OB) (w':World) (S':Sc) (φ':Nat->Option (Nat×Rp)) (ob':Nat->Option OB):Prop where
 k:Ls S w S' w'
 r :∀r,ob r≠none->RefOK φ ob φ' ob' r
 c :∀r,ob r≠none->ob' r≠none
theorem Kept.rep {w w':World} {S S':Sc} {φ φ':Nat->Option (Nat×Rp)} {ob ob':Nat->Option OB} (h:Kept w S φ ob w' S' φ' ob') {a:AV} {v:Value}
  (hc:Closed ob a) (ha:RepA S w φ ob a v):RepA S' w' φ' ob' a v:=ha.mono h.k fun r hr=>h.r r (hc r hr)
theorem Kept.closed {w w':World} {S S':Sc} {φ φ':Nat->Option (Nat×Rp)} {ob ob':Nat->Option OB} (h:Kept w S φ ob w' S' φ' ob') {a:AV}
  (hc:Closed ob a):Closed ob' a:=fun r hr=>h.c r (hc r hr)
theorem RefOK.refl (φ:Nat->Option (Nat×Rp)) (ob:Nat->Option OB) (r:Nat):RefOK φ ob φ ob r:=.inl ⟨rfl,rfl,id⟩
theorem Kept.refl (w:World) (S:Sc) (φ:Nat->Option (Nat×Rp)) (ob:Nat->Option OB):Kept w S φ ob w S φ ob:=
 ⟨fun _ _ h=>⟨h,rfl⟩,fun r _=>.refl φ ob r,fun _ h=>h⟩
def upd {α:Type} (f:Nat->α) (r:Nat) (x:α):Nat->α:=fun i=>if i=r then x else f i
@[simp] theorem upd_same {α:Type} (f:Nat->α) (r:Nat) (x:α):upd f r x r=x:=by simp[upd]
theorem AP {α:Type} (f:Nat->α) (r i:Nat) (x:α) (h:i≠r):upd f r x i=f i:=by simp[upd,h]
theorem BH {w:World} {b:Nat} {vs:Array Value} {e:Nat} {fr:Nat×Nat} (h:w.heap[b]?=some (.cells vs e fr)) (o:Nat):cellAt w b o=vs[o]?:=by
 simp[cellAt,World.cell?,h]
theorem F5 (w:World) (o:Obj) {b:Nat} (h:b<w.heap.size):(w.alloc o).heap[b]?=w.heap[b]?:=by
 show (w.heap.push o)[b]?=_
 rw[Array.getElem?_push,if_neg (by omega)]
theorem C3 {w w':World} {b:Nat} (h:w'.heap[b]?=w.heap[b]?) (o:Nat):cellAt w' b o=cellAt w b o:=by simp[cellAt,World.cell?,h]
theorem ObjOK.keep {w w':World} {S S':Sc} {φ φ':Nat->Option (Nat×Rp)} {ob ob':Nat->Option OB} (hk:Kept w S φ ob w' S' φ' ob') {r:Nat} {o:OB}
  (h:ObjOK S w φ ob r o) (hφ:φ' r=φ r) (hb :∀b c,φ r=some (b,c)->w'.heap[b]?=w.heap[b]?/\∀o,S' b o->S b o) (hc :∀r' ∈ o.refs,ob r'≠none):ObjOK S' w' φ' ob' r o:=by
 cases o with
 | box cs=>
  obtain⟨b,c,vs,e,f,h1,h2,h3,h4,h5,h6⟩:=h
  have hrefs :∀(cs:List AV) (j:Nat) (hj:j<cs.length) (r:Nat),r ∈ cs[j].refs->r ∈ AV.refs.refsL cs:=by
   intro cs
   induction cs with
   | nil=>intro i hi;simp at hi
   | cons c cs ih=>
    intro i hi r hm
    simp only[AV.refs.refsL,X23]
    cases i with
    | zero=>exact .inl hm
    | succ i=>exact .inr (ih i (by simpa using hi) r hm)
  exact⟨b,c,vs,e,f,hφ.trans h1,(hb b c h1).1.trans h2,h3,fun o ho=>h4 o ((hb b c h1).2 o ho),h5,
   fun j hj=>⟨(h6 j hj).1,hk.rep (fun r' hr'=>hc r' (hrefs cs j hj r' hr')) (h6 j hj).2⟩⟩
 | row e sz es frz=>
  obtain⟨h0,h1,h2,h3⟩:=h
  refine⟨h0,h1,h2,h3.imp (fun g=>⟨hφ.trans g.1,g.2⟩) ?_⟩
  rintro⟨b,cap,vs,f,g1,g2,g3,g4,g5,g6,g7,g8⟩
  exact⟨b,cap,vs,f,hφ.trans g1,(hb b cap g1).1.trans g2,g3,g4,g5,g6,fun i hi j hj=>(g7 i hi j hj).mono hk.k,⟨fun o ho hs=>g8.1 o ho ((hb b cap g1).2 o hs),fun i j q n hf hi hj=>hk.rep (fun q' hq=>hc q' (by subst hf;simpa[AV.refs,OB.refs] using hq)) (g8.2 i j q n hf hi hj)⟩⟩
 | gone=>trivial
 | map k e es=>
  obtain⟨b,c,arr,clock,h1,h2,h3,h4,h5⟩:=h
  refine⟨b,c,arr,clock,hφ.trans h1,(hb b c h1).1.trans h2,h3,fun o ho=>h4 o ((hb b c h1).2 o ho),fun i hi=>?_⟩
  obtain⟨x,g1,g2,g3⟩:=h5 i hi
  exact⟨x,g1,g2,g3.mono hk.k⟩
 | amap k e es kv r' n=>
  obtain⟨b,c,arr,clock,h1,h2,h3,h4,h5,h6⟩:=h
  have hr :∀{v:Value},RepA S w φ ob (.own r' n) v->RepA S' w' φ' ob' (.own r' n) v:=fun ha=>hk.rep (fun q hq=>hc q (by simpa[AV.refs,OB.refs] using hq)) ha
  refine⟨b,c,arr,clock,hφ.trans h1,(hb b c h1).1.trans h2,h3,fun o ho=>h4 o ((hb b c h1).2 o ho),fun i hi=>?_,h6.imp fun v hv=>hr hv⟩
  obtain⟨x,g1,g2,g3⟩:=h5 i hi
  exact⟨x,g1,g2,g3.mono hk.k⟩
theorem Mem.allocO {E:Env} {w:World} {S:Sc} {φ:Nat->Option (Nat×Rp)} {ob:Nat->Option OB} (m:Mem E w S φ ob) (r:Nat) (cap:Rp) (x:OB) (q:Obj)
  (hr:ob r=none) (hx :∀r' ∈ x.refs,ob r'≠none)
  (hok:Kept w S φ ob (w.alloc q) S (upd φ r (some (w.heap.size,cap))) (upd ob r (some x))->ObjOK S (w.alloc q) (upd φ r (some (w.heap.size,cap))) (upd ob r (some x)) r x) :
  Mem E (w.alloc q) S (upd φ r (some (w.heap.size,cap))) (upd ob r (some x))/\
  Kept w S φ ob (w.alloc q) S (upd φ r (some (w.heap.size,cap))) (upd ob r (some x)):=by
 have hlt :∀b,b<w.heap.size->(w.alloc q).heap[b]?=w.heap[b]?:=fun b hb=>F5 w _ hb
 have hne :∀r',ob r'≠none->r'≠r:=fun r' h e=>h (e ▸ hr)
 have hk:Kept w S φ ob (w.alloc q) S (upd φ r (some (w.heap.size,cap))) (upd ob r (some x)):=by
  refine⟨fun b o h=>⟨h,C3 (hlt b (m.bS b o h)) o⟩,fun r' h=>.inl ?_,fun r' h=>?_⟩
  ·rw[AP _ _ _ _ (hne r' h),AP _ _ _ _ (hne r' h)]
   exact⟨rfl,rfl,id⟩
  rw[AP _ _ _ _ (hne r' h)]
  exact h
 refine⟨⟨?_,?_,?_,m.sS,?_,?_,m.nS,?_,?_,?_,m.os⟩,hk⟩
 ·intro r' o h
  by_cases hh:r'=r
  ·subst hh
   simp only[upd_same,X24] at h
   subst h
   exact hok hk
  rw[AP _ _ _ _ hh] at h
  refine (m.obj r' o h).keep hk (AP _ _ _ _ hh) (fun b c hb=>⟨hlt b (m.ow r' b c (by simp[h]) hb).1,fun _ h=>h⟩) (m.men r' o h)
 ·intro r1 r2 b c c' h1 h2 g1 g2
  by_cases e1:r1=r
  ·by_cases e2:r2=r
   ·rw[e1,e2]
   subst e1
   rw[upd_same] at g1
   rw[AP _ _ _ _ e2] at g2 h2
   simp only[X24,X26] at g1
   have:=(m.ow r2 b c' h2 g2).1
   omega
  by_cases e2:r2=r
  ·subst e2
   rw[upd_same] at g2
   rw[AP _ _ _ _ e1] at g1 h1
   simp only[X24,X26] at g2
   have:=(m.ow r1 b c h1 g1).1
   omega
  rw[AP _ _ _ _ e1] at g1 h1
  rw[AP _ _ _ _ e2] at g2 h2
  exact m.inj r1 r2 b c c' h1 h2 g1 g2
 ·intro r' o h r'' hm
  by_cases hh:r'=r
  ·subst hh
   simp only[upd_same,X24] at h
   subst h
   exact hk.c _ (hx r'' hm)
  rw[AP _ _ _ _ hh] at h
  exact hk.c _ (m.men r' o h r'' hm)
 ·intro b o h
  exact (C3 (hlt b (m.bS b o (m.sS b o h))) o).trans (m.kS b o h)
 ·intro b o h
  have:=m.bS b o h
  simp
  omega
 ·intro b h h'
  exact (hlt b (Nat.lt_of_lt_of_le h m.sz)).trans (m.fr b h h')
 ·have:=m.sz
  simp
  omega
 intro r' b c h g
 by_cases hh:r'=r
 ·subst hh
  simp only[upd_same,X24,X26] at g
  have:=m.sz
  exact⟨by simp;omega,.inl (by omega)⟩
 rw[AP _ _ _ _ hh] at g h
 have:=m.ow r' b c h g
 exact⟨by simp;omega,this.2⟩
theorem Mem.alloc {E:Env} {w:World} {S:Sc} {φ:Nat->Option (Nat×Rp)} {ob:Nat->Option OB} (m:Mem E w S φ ob) (r:Nat) (cap:Rp) (x:OB) (vs:Array Value) (e:Nat)
  (hr:ob r=none) (hx :∀r' ∈ x.refs,ob r'≠none)
  (hok:Kept w S φ ob (w.alloc (.cells vs e)) S (upd φ r (some (w.heap.size,cap))) (upd ob r (some x))->ObjOK S (w.alloc (.cells vs e)) (upd φ r (some (w.heap.size,cap))) (upd ob r (some x)) r x) :
  Mem E (w.alloc (.cells vs e)) S (upd φ r (some (w.heap.size,cap))) (upd ob r (some x))/\
  Kept w S φ ob (w.alloc (.cells vs e)) S (upd φ r (some (w.heap.size,cap))) (upd ob r (some x)):=
 m.allocO r cap x (.cells vs e) hr hx hok
theorem Mem.empty {E:Env} {w:World} {S:Sc} {φ:Nat->Option (Nat×Rp)} {ob:Nat->Option OB} (m:Mem E w S φ ob) (r e sz:Nat) (hr:ob r=none) (hsz:0<sz) :
  Mem E w S (upd φ r none) (upd ob r (some (.row e sz [] .no)))/\Kept w S φ ob w S (upd φ r none) (upd ob r (some (.row e sz [] .no))):=by
 have hne :∀r',ob r'≠none->r'≠r:=fun r' h e=>h (e ▸ hr)
 have hk:Kept w S φ ob w S (upd φ r none) (upd ob r (some (.row e sz [] .no))):=by
  refine⟨fun b o h=>⟨h,rfl⟩,fun r' h=>.inl ?_,fun r' h=>?_⟩
  ·rw[AP _ _ _ _ (hne r' h),AP _ _ _ _ (hne r' h)]
   exact⟨rfl,rfl,id⟩
  rw[AP _ _ _ _ (hne r' h)]
  exact h
 refine⟨⟨?_,?_,?_,m.sS,m.kS,m.bS,m.nS,m.fr,m.sz,?_,m.os⟩,hk⟩
 ·intro r' o h
  by_cases hh:r'=r
  ·subst hh
   simp only[upd_same,X24] at h
   subst h
   exact⟨hsz,fun i hi=>by simp at hi,fun i hi=>by simp at hi,.inl ⟨upd_same _ _ _,rfl⟩⟩
  rw[AP _ _ _ _ hh] at h
  exact (m.obj r' o h).keep hk (AP _ _ _ _ hh) (fun b c hb=>⟨rfl,fun _ h=>h⟩) (m.men r' o h)
 ·intro r1 r2 b c c' h1 h2 g1 g2
  by_cases e1:r1=r
  ·subst e1;simp at g1
  by_cases e2:r2=r
  ·subst e2;simp at g2
  rw[AP _ _ _ _ e1] at g1 h1
  rw[AP _ _ _ _ e2] at g2 h2
  exact m.inj r1 r2 b c c' h1 h2 g1 g2
 ·intro r' o h r'' hm
  by_cases hh:r'=r
  ·subst hh
   simp only[upd_same,X24] at h
   subst h
   simp[OB.refs] at hm
  rw[AP _ _ _ _ hh] at h
  exact hk.c _ (m.men r' o h r'' hm)
 intro r' b c h g
 by_cases hh:r'=r
 ·subst hh;simp at g
 rw[AP _ _ _ _ hh] at g h
 exact m.ow r' b c h g
theorem Mem.set {E:Env} {w:World} {S:Sc} {φ:Nat->Option (Nat×Rp)} {ob:Nat->Option OB} (m:Mem E w S φ ob) (r:Nat) (o0 x:OB) (w':World) (l:Option (Nat×Rp))
  (h0:ob r=some o0) (hw :∀k,k<w.heap.size->(∀c,φ r≠some (k,c))->w'.heap[k]?=w.heap[k]?) (hs:w.heap.size<=w'.heap.size)
  (hos:w'.os=w.os/\w'.output=w.output/\w'.tape=w.tape/\w.drawn<=w'.drawn) (hkp :∀b c o,φ r=some (b,c)->S b o->cellAt w' b o=cellAt w b o)
  (hl:l=φ r \/∃b c,l=some (b,c)/\w.heap.size<=b/\b<w'.heap.size)
  (hr:RefOK φ ob (upd φ r l) (upd ob r (some x)) r) (hx :∀r' ∈ x.refs,ob r'≠none)
  (hok:Kept w S φ ob w' S (upd φ r l) (upd ob r (some x))->ObjOK S w' (upd φ r l) (upd ob r (some x)) r x) :
  Mem E w' S (upd φ r l) (upd ob r (some x))/\Kept w S φ ob w' S (upd φ r l) (upd ob r (some x)):=by
 have hk:Kept w S φ ob w' S (upd φ r l) (upd ob r (some x)):=by
  refine⟨fun b o h=>⟨h,?_⟩,fun r' h=>?_,fun r' h=>?_⟩
  ·by_cases hb :∃c,φ r=some (b,c)
   ·obtain⟨c,hc⟩:=hb
    exact hkp b c o hc h
   exact C3 (hw b (m.bS b o h) fun c hc=>hb ⟨c,hc⟩) o
  ·by_cases hh:r'=r
   ·rw[hh];exact hr
   refine .inl ?_
   rw[AP _ _ _ _ hh,AP _ _ _ _ hh]
   exact⟨rfl,rfl,id⟩
  by_cases hh:r'=r
  ·rw[hh];simp
  rw[AP _ _ _ _ hh];exact h
 have hr0:ob r≠none:=by simp[h0]
 refine⟨⟨?_,?_,?_,m.sS,?_,?_,m.nS,?_,?_,?_,?_⟩,hk⟩
 ·intro r' o h
  by_cases hh:r'=r
  ·subst hh
   simp only[upd_same,X24] at h
   subst h
   exact hok hk
  rw[AP _ _ _ _ hh] at h
  refine (m.obj r' o h).keep hk (AP _ _ _ _ hh) (fun b c hb=>⟨hw b (m.ow r' b c (by simp[h]) hb).1 fun c' hc'=>hh (m.inj r' r b c c' (by simp[h]) hr0 hb hc'),fun _ h=>h⟩) (m.men r' o h)
 ·intro r1 r2 b c c' h1 h2 g1 g2
  by_cases e1:r1=r
  ·by_cases e2:r2=r
   ·rw[e1,e2]
   rw[e1,upd_same] at g1
   rw[AP _ _ _ _ e2] at g2 h2
   rcases hl with hl | ⟨b',c'',hl,hl2,_⟩
   ·exact e1 ▸ m.inj r r2 b c c' hr0 h2 (hl ▸ g1) g2
   rw[hl] at g1
   simp only[X24,X26] at g1
   have:=(m.ow r2 b c' h2 g2).1
   omega
  by_cases e2:r2=r
  ·rw[e2,upd_same] at g2
   rw[AP _ _ _ _ e1] at g1 h1
   rcases hl with hl | ⟨b',c'',hl,hl2,_⟩
   ·exact e2 ▸ m.inj r1 r b c c' h1 hr0 g1 (hl ▸ g2)
   rw[hl] at g2
   simp only[X24,X26] at g2
   have:=(m.ow r1 b c h1 g1).1
   omega
  rw[AP _ _ _ _ e1] at g1 h1
  rw[AP _ _ _ _ e2] at g2 h2
  exact m.inj r1 r2 b c c' h1 h2 g1 g2
 ·intro r' o h r'' hm
  by_cases hh:r'=r
  ·subst hh
   simp only[upd_same,X24] at h
   subst h
   exact hk.c _ (hx r'' hm)
  rw[AP _ _ _ _ hh] at h
  exact hk.c _ (m.men r' o h r'' hm)
 ·intro b o h
  exact (hk.k b o (m.sS b o h)).2.trans (m.kS b o h)
 ·intro b o h
  exact Nat.lt_of_lt_of_le (m.bS b o h) hs
 ·intro b h h'
  refine (hw b (Nat.lt_of_lt_of_le h m.sz) fun c hc=>?_).trans (m.fr b h h')
  rcases (m.ow r b c hr0 hc).2 with g | g
  ·omega
  exact h' g
 ·exact Nat.le_trans m.sz hs
 ·intro r' b c h g
  by_cases hh:r'=r
  ·subst hh
   rw[upd_same] at g
   rcases hl with hl | ⟨b',c',hl,hl2,hl3⟩
   ·have:=m.ow r' b c hr0 (hl ▸ g)
    exact⟨by omega,this.2⟩
   rw[hl] at g
   simp only[X24,X26] at g
   have:=m.sz
   exact⟨by omega,.inl (by omega)⟩
  rw[AP _ _ _ _ hh] at g h
  have:=m.ow r' b c h g
  exact⟨by omega,this.2⟩
 obtain⟨a1,a2,a3,a4⟩:=hos
 obtain⟨b1,b2,b3,b4⟩:=m.os
 exact⟨a1.trans b1,a2.trans b2,a3.trans b3,b4.imp_right fun h=>Nat.le_trans h a4⟩
theorem Mem.freeze {E:Env} {w:World} {S:Sc} {φ:Nat->Option (Nat×Rp)} {ob:Nat->Option OB} (m:Mem E w S φ ob) (r e sz:Nat) (es:List D) (frz:FZ)
  (h0:ob r=some (.row e sz es frz)) :∃S',Mem E w S' φ (upd ob r (some (.row e sz es .yes)))/\Kept w S φ ob w S' φ (upd ob r (some (.row e sz es .yes)))/\
   ∀v,Hm φ r es.length v->RepD S' w (.lst sz es) v:=by
 let S':Sc:=fun b o=>S b o \/∃c,φ r=some (b,c)/\c.2<=o/\o<c.2 + es.length * sz
 have hr0:ob r≠none:=by simp[h0]
 have hS :∀b o,S b o->S' b o:=fun b o h=>.inl h
 have hk:Kept w S φ ob w S' φ (upd ob r (some (.row e sz es .yes))):=by
  refine⟨fun b o h=>⟨hS b o h,rfl⟩,fun r' h=>?_,fun r' h=>?_⟩
  ·by_cases hh:r'=r
   ·subst hh
    refine .inl ⟨rfl,?_,?_⟩
    ·simp[h0,hdr]
    rintro⟨cs,hcs⟩;simp at hcs
   refine .inl ?_
   rw[AP _ _ _ _ hh]
   exact⟨rfl,rfl,id⟩
  by_cases hh:r'=r
  ·rw[hh];simp
  rw[AP _ _ _ _ hh];exact h
 have hobj:=m.obj r _ h0
 refine⟨S',⟨?_,?_,?_,fun b o h=>hS b o (m.sS b o h),m.kS,?_,?_,m.fr,m.sz,?_,m.os⟩,hk,?_⟩
 ·intro r' o h
  by_cases hh:r'=r
  ·subst hh
   simp only[upd_same,X24] at h
   subst h
   obtain⟨g0,g1,g2,g3⟩:=hobj
   refine⟨g0,g1,g2,g3.imp id ?_⟩
   rintro⟨b,cap,vs,f,f1,f2,f3,f4,f5,f6,f7,f8⟩
   refine⟨b,cap,vs,f,f1,f2,f3,f4,f5,f6,fun i hi j hj=>(f7 i hi j hj).mono hk.k,fun o ho hs=>?_,fun _ _ _ _ h=>nomatch h⟩
   simp only[FZ.frozen_yes,if_true] at ho
   rcases hs with hs | ⟨c',hc',_,hs⟩
   ·refine f8.1 o ?_ hs
    cases frz<;>simp
    exact ho
   rw[f1] at hc'
   simp only[X24,X26,true_and] at hc'
   subst hc'
   omega
  rw[AP _ _ _ _ hh] at h
  refine (m.obj r' o h).keep hk rfl (fun b c hb=>⟨rfl,fun o ho=>?_⟩) (m.men r' o h)
  rcases ho with ho | ⟨c',hc',_⟩
  ·exact ho
  exact absurd (m.inj r' r b c c' (by simp[h]) hr0 hb hc') hh
 ·intro r1 r2 b c c' h1 h2 g1 g2
  refine m.inj r1 r2 b c c' ?_ ?_ g1 g2
  ·by_cases e1:r1=r
   ·rw[e1];exact hr0
   rwa [AP _ _ _ _ e1] at h1
  by_cases e2:r2=r
  ·rw[e2];exact hr0
  rwa [AP _ _ _ _ e2] at h2
 ·intro r' o h r'' hm
  by_cases hh:r'=r
  ·subst hh
   simp only[upd_same,X24] at h
   subst h
   simp[OB.refs] at hm
  rw[AP _ _ _ _ hh] at h
  exact hk.c _ (m.men r' o h r'' hm)
 ·intro b o h
  rcases h with h | ⟨c,hc,_⟩
  ·exact m.bS b o h
  exact (m.ow r b c hr0 hc).1
 ·intro b o h h1 h2
  rcases h with h | ⟨c,hc,_⟩
  ·exact m.nS b o h h1 h2
  rcases (m.ow r b c hr0 hc).2 with g | g
  ·omega
  exact absurd g h2
 ·intro r' b c h g
  refine m.ow r' b c ?_ g
  by_cases e1:r'=r
  ·rw[e1];exact hr0
  rwa [AP _ _ _ _ e1] at h
 intro v hv
 obtain⟨g0,g1,g2,g3⟩:=hobj
 rcases hv with ⟨a1,a2,a3,rfl⟩|⟨b,cap,a1,rfl⟩
 ·have:es=[]:=List.eq_nil_of_length_eq_zero a2
  subst this
  exact .lst0 sz _ _
 rcases g3 with ⟨b1,rfl⟩|⟨b',cap',vs,f,f1,f2,f3,f4,f5,f6,f7,f8⟩
 ·rw[b1] at a1;simp at a1
 rw[f1] at a1
 simp only[X24,X26] at a1
 obtain⟨rfl,rfl⟩:=a1
 refine .lst sz es b' cap'.2 cap'.1 f (Nat.le_trans f3 f4) f3 g1 (fun i j hi hj=>⟨.inr ⟨cap',f1,?_,?_⟩,?_⟩) g2 fun i hi j hj=>(f7 i hi j hj).mono hk.k
 ·omega
 ·have:(i + 1) * sz<=es.length * sz:=X31 _ hi
  rw[X32] at this
  omega
 rw[BH f2,Nat.add_assoc]
 exact f6 i j hi hj
theorem RefOK.trans {φ φ' φ'':Nat->Option (Nat×Rp)} {ob ob' ob'':Nat->Option OB} {r:Nat} (h:RefOK φ ob φ' ob' r) (k:RefOK φ' ob' φ'' ob'' r):RefOK φ ob φ'' ob'' r:=by
 rcases h with ⟨a1,a2,a3⟩|⟨e,sz,es,frz,es',frz',a1,a2,a3,a4⟩|⟨a1,a2,a3⟩
 ·rcases k with ⟨b1,b2,b3⟩|⟨e,sz,es,frz,es',frz',b1,b2,b3,b4⟩|⟨⟨e,sz,es,frz,b1⟩,b2,b3⟩
  ·exact .inl ⟨b1.trans a1,b2.trans a2,fun x=>a3 (b3 x)⟩
  ·obtain⟨es0,f0,c1,c2⟩:=Hz b1 a2
   exact .inr (.inl ⟨e,sz,es0,f0,es',frz',c1,b2,by omega,fun hh=>(b4 (by omega)).trans a1⟩)
  obtain⟨es0,f0,c1,_⟩:=Hz b1 a2
  exact .inr (.inr ⟨⟨e,sz,es0,f0,c1⟩,b2,b3⟩)
 ·rcases k with ⟨b1,b2,b3⟩|⟨e2,sz2,es2,frz2,es3,frz3,b1,b2,b3,b4⟩|⟨_,b2,b3⟩
  ·obtain⟨es0,f0,c1,c2⟩ :∃es0 f0,ob'' r=some (.row e sz es0 f0)/\es0.length=es'.length:=by
    rw[a2] at b2
    cases h'':ob'' r with
    | none=>rw[h''] at b2;simp[hdr] at b2
    | some o=>
     rw[h''] at b2
     cases o with
     | box cs=>simp[hdr] at b2
     | map=>simp[hdr] at b2
     | amap=>simp[hdr] at b2
     | gone=>simp[hdr] at b2
     | row e' sz' es'' f=>simp[hdr] at b2;exact⟨es'',f,by simp[b2],b2.2.2⟩
   exact .inr (.inl ⟨e,sz,es,frz,es0,f0,a1,c1,by omega,fun hh=>b1.trans (a4 (by omega))⟩)
  ·rw[a2] at b1
   simp only[X24,OB.row.injEq] at b1
   obtain⟨rfl,rfl,rfl,rfl⟩:=b1
   exact .inr (.inl ⟨e,sz,es,frz,es3,frz3,a1,b2,by omega,fun hh=>(b4 (by omega)).trans (a4 (by omega))⟩)
  exact .inr (.inr ⟨⟨e,sz,es,frz,a1⟩,b2,b3⟩)
 rcases k with ⟨b1,b2,b3⟩|⟨e2,sz2,es2,frz2,es3,frz3,b1,b2,b3,b4⟩|⟨⟨e,sz,es,frz,b1⟩,_⟩
 ·exact .inr (.inr ⟨a1,b2.trans a2,fun cs hx=>by
   obtain⟨cs',h'⟩:=b3 ⟨cs,hx⟩
   exact a3 cs' h'⟩)
 ·exact absurd b1 (Qa a2 _ _ _ _)
 exact absurd b1 (Qa a2 _ _ _ _)
theorem Kept.trans {w w' w'':World} {S S' S'':Sc} {φ φ' φ'':Nat->Option (Nat×Rp)} {ob ob' ob'':Nat->Option OB} (h:Kept w S φ ob w' S' φ' ob') (k:Kept w' S' φ' ob' w'' S'' φ'' ob'') :
  Kept w S φ ob w'' S'' φ'' ob'':=
 ⟨fun b o hs=>⟨(k.k b o (h.k b o hs).1).1,(k.k b o (h.k b o hs).1).2.trans (h.k b o hs).2⟩,fun r hr=>(h.r r hr).trans (k.r r (h.c r hr)),fun r hr=>k.c r (h.c r hr)⟩
end Go.AX
end
section
namespace Go.AX
def KindOk (P:Program) (t:Nat):TK->Prop
 | .bool=>P.underlying t=some .bool
 | .int k=>P.underlying t=some (.int k)
 | .str=>P.underlying t=some .string
 | .ptr=>∃e,P.underlying t=some (.pointer e)
 | .fn=>∃a b c,P.underlying t=some (.func a b c)
 | .slice e=>P.underlying t=some (.slice e)
 | .arr n e=>P.underlying t=some (.array n e)
 | .map k e=>P.underlying t=some (.map k e)
 | .struct fs=>P.stoodInHeld t=false/\P.eqGuardType P.depth t=false/\∃F:Array Field,P.underlying t=some (.struct F)/\
   F.toList.map (fun f => (f.offset, (P.info? f.type).map (·.size), f.type)) = fs.map (fun x => (x.1, some x.2.1, x.2.2)) ∧ ∀ f ∈ F.toList, f.name ≠ "_"
 | .other=>True
def IB:D->Value->Prop
 | .val v,v'=>v=v'/\v.oneCell'=true
 | .nil _,v'=>v'=.slice none 0 0
 | _,_=>False
structure TiOk (P:Program) (t:Nat) (ti:TI):Prop where
 info :∃i z,P.info? t=some i/\i.size=ti.size/\i.bytes=ti.bytes/\i.zero=some z/\z.cells.size=ti.size/\ti.zero.length=ti.size/\
  ∀j (hj:j<ti.zero.length) v,z.cells[j]?=some v->IB ti.zero[j] v
 kind:KindOk P t ti.kind
 aggz :∀i z,P.info? t=some i->i.zero=some z->(ti.kind.cls=some true->∃cs,z=.agg cs)/\(ti.kind.cls=some false->∀cs,z≠.agg cs)
def TabOk (P:Program) (T:TT):Prop:=∀t,(T.get t).kind.cls=none\/TiOk P t (T.get t)
section
variable {P:Program} {T:TT}
theorem TabOk.of (h:TabOk P T) {t:Nat} (hk:(T.get t).kind.cls≠none):TiOk P t (T.get t):=(h t).resolve_left hk
theorem TiOk.info1 {t:Nat} {ti:TI} (h:TiOk P t ti):(P.info? t).map (·.size)=some ti.size:=by
 obtain⟨i,z,h1,h2,_⟩:=h.info
 simp[h1,h2]
theorem KindOk.plain {t:Nat} {k:TK} (h:KindOk P t k) (hc:k.cls=some false) :∃d,P.underlying t=some d/\d.isRow=false:=by
 cases k<;>simp[TK.cls] at hc<;>simp only[KindOk] at h
 case ptr=>obtain⟨e,h⟩:=h;exact⟨_,h,rfl⟩
 case fn=>obtain⟨a,b,c,h⟩:=h;exact⟨_,h,rfl⟩
 all_goals exact⟨_,h,rfl⟩
theorem KindOk.row {t:Nat} {k:TK} (h:KindOk P t k) (hc:k.cls=some true) :∃d,P.underlying t=some d/\d.isRow=true:=by
 cases k<;>simp[TK.cls] at hc<;>simp only[KindOk] at h
 case arr=>exact⟨_,h,rfl⟩
 case struct=>obtain⟨_,_,F,h,_⟩:=h;exact⟨_,h,rfl⟩
theorem NK {t:Nat} {d:TypeDesc} (h:P.underlying t=some d) (w:World):(isAgg t).run P w=.ok d.isRow w:=by
 unfold isAgg
 rw[Sem.run_bind,run_underlying h w]
 cases d<;>rfl
def Ai (ob:Nat->Option OB):W->Nat->Option OB
 | []=>ob
 | (r,x)::w=>Ai (upd ob r (some x)) w
def RunOK (P:Program) (o:Oper) (ρ:Operand->Value) (w:World) (Q:Value->World->Prop):Prop:=
 match (execOp ρ o).run P w with
 | .ok (.value v) w'=>Q v w'
 | .ok .skip w'=>Q undef w'
 | .ok (.enter f args) w'=>Calls P f args w' fun e w''=>∃v,e=.returned v/\Q v w''
 | _=>False
def Post (E:Env) (w:World) (S:Sc) (φ:Nat->Option (Nat×Rp)) (ob:Nat->Option OB) (out:AV) (wr:W) (v:Value) (w':World):Prop:=
 ∃S' φ',Mem E w' S' φ' (Ai ob wr)/\Kept w S φ ob w' S' φ' (Ai ob wr)/\RepA S' w' φ' (Ai ob wr) out v/\Closed (Ai ob wr) out
variable {E:Env} {w:World} {S:Sc} {φ:Nat->Option (Nat×Rp)} {ob:Nat->Option OB}
theorem Post.pure (m:Mem E w S φ ob) {out:AV} {v:Value} (h:RepA S w φ ob out v) (hc:Closed ob out):Post E w S φ ob out [] v w:=
 ⟨S,φ,m,.refl w S φ ob,h,hc⟩
theorem A6 (ob:Nat->Option OB) (x:D):Closed ob (.d x):=fun r hr=>by simp[AV.refs] at hr
theorem FT (ob:Nat->Option OB):Closed ob .dead:=fun r hr=>by simp[AV.refs] at hr
theorem RepA.int {k:IntKind} {n:Int} {v:Value} (h:RepA S w φ ob (.d (.val (.int k n))) v):v=.int k n:=by
 cases h with | d _ _ h=>cases h with | val _ _=>rfl
theorem RepA.bool {b:Bool} {v:Value} (h:RepA S w φ ob (.d (.val (.bool b))) v):v=.bool b:=by
 cases h with | d _ _ h=>cases h with | val _ _=>rfl
theorem RepA.str {s:ByteArray} {v:Value} (h:RepA S w φ ob (.d (.val (.string s))) v):v=.string s:=by
 cases h with | d _ _ h=>cases h with | val _ _=>rfl
theorem RepA.val {x v:Value} (h:RepA S w φ ob (.d (.val x)) v):v=x:=by
 cases h with | d _ _ h=>cases h with | val _ _=>rfl
theorem RepA.ref' {r off:Nat} {v:Value} (h:RepA S w φ ob (.ref r off) v) :∃b c,φ r=some (b,c)/\v=.pointer (some ⟨b,off,none⟩):=by
 cases h with | ref _ _ b c h hb=>exact⟨b,c,h,rfl⟩
theorem Bh (l:List (Option OB)) (r:Nat) (o:OB):l.getD r none=some o->r<l.length:=by
 intro h
 rcases Nat.lt_or_ge r l.length with hl | hl
 ·exact hl
 simp[hl] at h
theorem Addr.add_none (b o n:Nat):(⟨b,o,none⟩:Addr).add n=⟨b,o + n,none⟩:=Addr.add_mid b o n
theorem AV.refs_mem :∀(cs:List AV) (j:Nat) (hj:j<cs.length) (r:Nat),r ∈ cs[j].refs->r ∈ AV.refs.refsL cs
 | [],j,hj,_,_=>by simp at hj
 | c::cs,0,_,r,hm=>by simp only[AV.refs.refsL,X23];exact .inl hm
 | c::cs,j + 1,hj,r,hm=>by
  simp only[AV.refs.refsL,X23]
  exact .inr (AV.refs_mem cs j (by simpa using hj) r hm)
theorem AV.refs_mem' :∀(cs:List AV) (r:Nat),r ∈ AV.refs.refsL cs->∃c ∈ cs,r ∈ c.refs
 | [],r,h=>by simp[AV.refs.refsL] at h
 | c::cs,r,h=>by
  simp only[AV.refs.refsL,X23] at h
  rcases h with h | h
  ·exact⟨c,by simp,h⟩
  obtain⟨c',h1,h2⟩:=AV.refs_mem' cs r h
  exact⟨c',by simp[h1],h2⟩
theorem MQ {cs:List AV} {vs:Array Value} (hs:vs.size=cs.length) (h :∀i (hi:i<cs.length),∃v,vs[i]?=some v/\cs[i].one=true/\RepA S w φ ob cs[i] v) :
  RepA S w φ ob (Xl cs) (.agg vs):=by
 have hv :∀i (hi:i<cs.length),vs[i]?=some (vs.getD i undef):=fun i hi=>by
  obtain⟨v,h1,_⟩:=h i hi
  simp[h1]
 have hr :∀i (hi:i<cs.length),RepA S w φ ob cs[i] (vs.getD i undef):=fun i hi=>by
  obtain⟨v,h1,_,h3⟩:=h i hi
  simpa[h1] using h3
 unfold Xl
 cases hc:Q5 cs with
 | none=>exact .agg cs vs _ hs hv (fun i hi=>by obtain⟨v,_,h2,_⟩:=h i hi;exact h2) hr
 | some l=>
  have:=Wm cs l hc
  subst this
  refine .d _ _ (.agg l vs _ (by simpa using hs) (fun i hi=>hv i (by simpa using hi)) (fun i hi=>?_) fun i hi=>?_)
  ·obtain⟨v,_,h2,_⟩:=h i (by simpa using hi)
   simpa[AV.one] using h2
  have:=hr i (by simpa using hi)
  simp only[List.getElem_map] at this
  cases this with | d _ _ h=>exact h
theorem H3 {cs:List AV} (h :∀c ∈ cs,Closed ob c):Closed ob (Xl cs):=by
 unfold Xl
 cases hc:Q5 cs with
 | some l=>exact A6 ob _
 | none=>
  intro r hr
  obtain⟨c,h1,h2⟩:=AV.refs_mem' cs r (by simpa[AV.refs] using hr)
  exact h c h1 r h2
theorem Nu {a:AV} {v:Value} {cs:List AV} (h:RepA S w φ ob a v) (hc:DG a=some cs) :
  v.cells.size=cs.length/\∀i (hi:i<cs.length),∃u,v.cells[i]?=some u/\cs[i].one=true/\RepA S w φ ob cs[i] u:=by
 have one :∀{a:AV} {v:Value},RepA S w φ ob a v->a.one=true->v.cells.size=[a].length/\∀i (hi:i<[a].length),∃u,v.cells[i]?=some u/\[a][i].one=true/\RepA S w φ ob [a][i] u:=by
  intro a v h h1
  have h2:=h.one h1
  have hv:v.cells=#[v]:=by cases v<;>first | rfl | simp[Value.oneCell'] at h2
  refine⟨by simp[hv],fun i hi=>?_⟩
  have:i=0:=by simpa using hi
  subst this
  exact⟨v,by simp[hv],h1,h⟩
 cases a with
 | d x=>
  cases x with
  | agg l=>
   simp only[DG] at hc
   obtain⟨h1,h2⟩:=LC l cs hc
   subst h1
   cases h with | d _ _ h=>cases h with | agg _ vs f hs hf hn hr=>
    refine⟨by simp[Value.cells,hs],fun i hi=>⟨f i,?_,?_,?_⟩⟩
    ·exact hf i (by simpa using hi)
    ·simpa[AV.one] using hn i (by simpa using hi)
    simpa using RepA.d _ _ (hr i (by simpa using hi))
  | val v=>simp only[DG,X24] at hc;subst hc;exact one h rfl
  | nil=>simp only[DG,X24] at hc;subst hc;exact one h rfl
  | lst=>simp only[DG,X24] at hc;subst hc;exact one h rfl
 | agg l=>
  simp only[DG,X24] at hc
  subst hc
  cases h with | agg _ vs f hs hf hn hr=>exact⟨by simp[Value.cells,hs],fun i hi=>⟨f i,hf i hi,hn i hi,hr i hi⟩⟩
 | ref=>simp only[DG,X24] at hc;subst hc;exact one h rfl
 | own=>simp only[DG,X24] at hc;subst hc;exact one h rfl
 | mp=>simp only[DG,X24] at hc;subst hc;exact one h rfl
 | fn=>simp only[DG,X24] at hc;subst hc;exact one h rfl
 | _=>simp[DG] at hc
theorem Ih {a:AV} {cs:List AV} (h:Closed ob a) (hc:DG a=some cs) :∀c ∈ cs,Closed ob c:=by
 cases a with
 | d x=>
  cases x with
  | agg l=>
   simp only[DG] at hc
   obtain⟨h1,_⟩:=LC l cs hc
   subst h1
   intro c hm
   obtain⟨x,_,rfl⟩:=List.mem_map.1 hm
   exact A6 ob x
  | _=>simp only[DG,X24] at hc;subst hc;intro c hm;rw[X14.1 hm];exact h
 | agg l=>
  simp only[DG,X24] at hc
  subst hc
  intro c hm r hr
  obtain⟨j,hj,rfl⟩:=List.getElem_of_mem hm
  exact h r (AV.refs_mem l j hj r hr)
 | ref=>simp only[DG,X24] at hc;subst hc;intro c hm;rw[X14.1 hm];exact h
 | own=>simp only[DG,X24] at hc;subst hc;intro c hm;rw[X14.1 hm];exact h
 | mp=>simp only[DG,X24] at hc;subst hc;intro c hm;rw[X14.1 hm];exact h
 | fn=>simp only[DG,X24] at hc;subst hc;intro c hm;rw[X14.1 hm];exact h
 | _=>simp[DG] at hc
theorem EB {t:Nat} {d:TypeDesc} (hu:P.underlying t=some d) (hd:d.isRow=false) {b o:Nat} {v:Value} (h:cellAt w b o=some v) :
  (loadVar t ⟨b,o,none⟩).run P w=.ok v w:=by
 have:w.cell? ⟨b,o,none⟩=some v:=h
 simp[loadVar,NK hu,hd,this]
theorem Im {t:Nat} {ti:TI} (hti:TiOk P t ti) (hc:ti.kind.cls=some true) {b o:Nat} {vs:List Value} (hl:vs.length=ti.size)
  (h :∀j v,vs[j]?=some v->cellAt w b (o + j)=some v):(loadVar t ⟨b,o,none⟩).run P w=.ok (.agg vs.toArray) w:=by
 obtain⟨d,hu,hd⟩:=hti.kind.row hc
 exact run_loadVar_mid w b o t vs d h hu hd (by rw[hti.info1,hl])
theorem OP {obl:List (Option OB)} (hT:TabOk P T) (m:Mem E w S φ (fun r=>obl.getD r none)) {t:Nat} {a:AV} {v:Value} {K:AV->Prop} (ha:RepA S w φ (fun r=>obl.getD r none) a v)
  (hc:Closed (fun r=>obl.getD r none) a) (h:QE T t a obl K) :
  ∃out u,K out/\(Instr.loadAt t v).run P w=.ok u w/\RepA S w φ (fun r=>obl.getD r none) out u/\Closed (fun r=>obl.getD r none) out:=by
 cases a<;>simp only[QE] at h
 case ref r off=>
  obtain⟨b,c,hφ,rfl⟩:=ha.ref'
  rw[Ar] at h
  obtain⟨o,ho,h⟩:=h
  cases o with
  | row=>simp at h
  | map=>simp at h
  | amap=>simp at h
  | gone=>simp at h
  | box cs=>
   simp only at h
   obtain⟨b',c',vs,e,f,g1,g2,g3,g4,g5,g6⟩:=m.obj r _ ho
   rw[hφ] at g1
   simp only[X24,X26] at g1
   obtain⟨rfl,rfl⟩:=g1
   have hcell :∀j,j<cs.length->cellAt w b j=some (f j):=fun j hj=>by rw[BH g2];exact g5 j hj
   have hclo :∀c ∈ cs,Closed (fun r=>obl.getD r none) c:=fun c hm r' hr'=>by
    obtain⟨j,hj,rfl⟩:=List.getElem_of_mem hm
    exact m.men r _ ho r' (by simpa[OB.refs] using AV.refs_mem cs j hj r' hr')
   cases hcl:(T.get t).kind.cls with
   | none=>simp[hcl] at h
   | some q=>
    have hti:=hT.of (t:=t) (by rw[hcl];simp)
    cases q with
    | true=>
     simp only[hcl,Dl,AH,C6,EC,Nat.ble_eq] at h
     obtain⟨hle,hK⟩:=h
     simp only[X17] at hle
     let vl:List Value:=(List.range (T.get t).size).map fun j=>f (off + j)
     have hlen:((cs.drop off).take (T.get t).size).length=(T.get t).size:=by simp;omega
     refine⟨_,.agg vl.toArray,hK,?_,?_,?_⟩
     ·simp only[Instr.loadAt,Instr.sureAddr,Sem.run_bind,Sem.run_pure,Result.andThen_ok]
      refine Im hti hcl (by simp[vl]) fun j u hu=>?_
      simp only[vl,List.getElem?_map,Option.map_eq_some_iff] at hu
      obtain⟨j',hj',rfl⟩:=hu
      obtain⟨h1,h2⟩:=X16.1 hj'
      simp at h1 h2
      subst h2
      exact hcell _ (by omega)
     ·refine MQ (by rw[hlen];simp[vl]) fun i hi=>⟨f (off + i),?_,?_,?_⟩
      ·rw[hlen] at hi
       simp[vl,hi]
      ·simp only[List.getElem_take,List.getElem_drop]
       rw[hlen] at hi
       exact (g6 (off + i) (by omega)).1
      simp only[List.getElem_take,List.getElem_drop]
      rw[hlen] at hi
      exact (g6 (off + i) (by omega)).2
     exact H3 fun c hm=>hclo c (List.mem_of_mem_drop (List.mem_of_mem_take hm))
    | false=>
     simp only[hcl] at h
     cases hg:cs[off]? with
     | none=>simp[hg] at h
     | some x=>
      simp only[hg,CB] at h
      obtain⟨h1,h2⟩:=X16.1 hg
      obtain⟨d,hu,hd⟩:=hti.kind.plain hcl
      refine⟨x,f off,h,?_,h2 ▸ (g6 off h1).2,hclo x (List.mem_of_getElem? hg)⟩
      simp only[Instr.loadAt,Instr.sureAddr,Sem.run_bind,Sem.run_pure,Result.andThen_ok,EB hu hd (hcell off h1)]
 case eref cs=>
  cases ha with | eref _ b o f hS hn hr=>
   cases hcl:(T.get t).kind.cls with
   | none=>simp[hcl] at h
   | some q=>
    have hti:=hT.of (t:=t) (by rw[hcl];simp)
    cases q with
    | true=>
     simp only[hcl,AH,C6,Nat.ble_eq] at h
     obtain⟨hle,hK⟩:=h
     let vl:List Value:=(List.range (T.get t).size).map fun j=>f j
     refine⟨_,.agg vl.toArray,hK,?_,?_,A6 _ _⟩
     ·simp only[Instr.loadAt,Instr.sureAddr,Sem.run_bind,Sem.run_pure,Result.andThen_ok]
      refine Im hti hcl (by simp[vl]) fun j u hu=>?_
      simp only[vl,List.getElem?_map,Option.map_eq_some_iff] at hu
      obtain⟨j',hj',rfl⟩:=hu
      obtain⟨h1,h2⟩:=X16.1 hj'
      simp at h1 h2
      subst h2
      exact (hS _ (by omega)).2
     refine .d _ _ (.agg _ _ f (by simp[vl];omega) (fun i hi=>?_) (fun i hi=>?_) fun i hi=>?_)
     ·simp only[X18] at hi
      have:=Nat.lt_of_lt_of_le hi (Nat.min_le_left _ _)
      simp[vl,this]
     ·simp only[List.getElem_take]
      exact hn i _
     simp only[List.getElem_take]
     exact hr i _
    | false=>
     simp only[hcl] at h
     cases hg:cs[0]? with
     | none=>simp[hg] at h
     | some x=>
      simp only[hg] at h
      obtain⟨h1,h2⟩:=X16.1 hg
      obtain⟨d,hu,hd⟩:=hti.kind.plain hcl
      refine⟨.d x,f 0,h,?_,h2 ▸ .d _ _ (hr 0 h1),A6 _ _⟩
      simp only[Instr.loadAt,Instr.sureAddr,Sem.run_bind,Sem.run_pure,Result.andThen_ok,EB hu hd (by simpa using (hS 0 h1).2)]
 case rref r n i k=>
  rw[Ar] at h
  obtain⟨o,ho,h⟩:=h
  cases o with
  | box cs=>
   simp only at h
   cases hcl:(T.get t).kind.cls with
   | none=>simp[hcl] at h
   | some q=>
    cases q with
    | true=>simp[hcl] at h
    | false=>
     simp only[hcl,CB] at h
     obtain⟨x,hg,h⟩:=h
     have hti:=hT.of (t:=t) (by rw[hcl];simp)
     obtain⟨b',c',vs,e,f,g1,g2,g3,g4,g5,g6⟩:=m.obj r _ ho
     cases ha with | rref _ _ _ _ _ h1 hb hp=>
     obtain⟨b,c,hφ,rfl⟩:=hb cs ho
     rw[hφ] at g1
     simp only[X24,X26] at g1
     obtain⟨rfl,rfl⟩:=g1
     obtain⟨p1,p2⟩:=X16.1 hg
     obtain⟨d,hu,hd⟩:=hti.kind.plain hcl
     have hcell:cellAt w b (k + i)=some (f (k + i)):=by rw[BH g2];exact g5 _ p1
     refine⟨x,f (k + i),h,?_,p2 ▸ (g6 _ p1).2,fun r' hr'=>?_⟩
     ·simp only[Instr.loadAt,Instr.sureAddr,Sem.run_bind,Sem.run_pure,Result.andThen_ok,EB hu hd hcell]
     rw[<- p2] at hr'
     exact m.men r _ ho r' (by simpa[OB.refs] using AV.refs_mem cs (k + i) p1 r' hr')
  | map=>simp at h
  | amap=>simp at h
  | gone=>simp at h
  | row e sz es frz=>
   have h:IG T t n i k es K \/∃q m,frz=.lk i k q m/\n=es.length/\i<es.length/\k<sz/\(T.get t).kind.cls=some false/\K (.own q m):=by
    simp only at h
    cases frz with
    | no=>exact .inl h
    | yes=>exact .inl h
    | lk i' j q m=>
     rcases h with h | ⟨h1,rfl,rfl,h4,h5,h6,h7⟩
     ·exact .inl h
     exact .inr ⟨q,m,rfl,h1,h4,h5,h6,h7⟩
   rcases h with h | ⟨q,m',rfl,hn,hi',hk',hcl,hK⟩
   rotate_left
   ·cases ha with | rref _ _ _ _ _ h1 hb hp=>
    obtain⟨_,h2⟩:=h1 e sz es _ ho
    obtain⟨hi,b,c,hφ,rfl⟩:=h2 hn
    obtain⟨g0,g1,g2,g3⟩:=m.obj r _ ho
    rcases g3 with ⟨f1,_⟩|⟨b',cap,vs,f,f1,f2,f3,f4,f5,f6,f7,f8⟩
    ·rw[hφ] at f1;simp at f1
    rw[hφ] at f1
    simp only[X24,X26] at f1
    obtain⟨rfl,rfl⟩:=f1
    have hti:=hT.of (t:=t) (by rw[hcl];simp)
    obtain⟨d,hu,hd⟩:=hti.kind.plain hcl
    have hcell:cellAt w b (c.2 + (i * sz + k))=some (f i k):=by rw[BH f2];exact f6 i k hi' hk'
    refine⟨_,f i k,hK,?_,f8.2 i k q m' rfl hi' hk',fun r' hr'=>m.men r _ ho r' (by simpa[OB.refs,AV.refs] using hr')⟩
    simp only[Instr.loadAt,Instr.sureAddr,Sem.run_bind,Sem.run_pure,Result.andThen_ok,EB hu hd hcell]
   obtain⟨hn,x,hx,h⟩:=h
   cases ha with | rref _ _ _ _ _ h1 hb hp=>
    obtain⟨_,h2⟩:=h1 e sz es frz ho
    obtain⟨hi,b,c,hφ,rfl⟩:=h2 hn
    obtain⟨g0,g1,g2,g3⟩:=m.obj r _ ho
    rcases g3 with ⟨f1,_⟩|⟨b',cap,vs,f,f1,f2,f3,f4,f5,f6,f7,f8⟩
    ·rw[hφ] at f1;simp at f1
    rw[hφ] at f1
    simp only[X24,X26] at f1
    obtain⟨rfl,rfl⟩:=f1
    have hi':i<es.length:=by omega
    have hxe:x=es[i]:=by rw[<- hx];simp[hi']
    subst hxe
    have hszx:=g1 i hi'
    have hcell :∀j,j<sz->cellAt w b (c.2 + (i * sz + j))=some (f i j):=fun j hj=>by rw[BH f2];exact f6 i j hi' hj
    rw[Dl] at h
    cases hcl:(T.get t).kind.cls with
    | none=>simp[hcl] at h
    | some q=>
     have hti:=hT.of (t:=t) (by rw[hcl];simp)
     cases q with
     | true=>
      simp only[hcl,AH,C6,Nat.ble_eq] at h
      obtain⟨hle,hK⟩:=h
      simp only[X17,hszx] at hle
      let vl:List Value:=(List.range (T.get t).size).map fun j=>f i (k + j)
      refine⟨_,.agg vl.toArray,hK,?_,?_,A6 _ _⟩
      ·simp only[Instr.loadAt,Instr.sureAddr,Sem.run_bind,Sem.run_pure,Result.andThen_ok]
       refine Im hti hcl (by simp[vl]) fun j u hu=>?_
       simp only[vl,List.getElem?_map,Option.map_eq_some_iff] at hu
       obtain⟨j',hj',rfl⟩:=hu
       obtain⟨h1,h2⟩:=X16.1 hj'
       simp at h1 h2
       subst h2
       rw[Nat.add_assoc,Nat.add_assoc]
       exact hcell _ (by omega)
      refine .d _ _ (.agg _ _ (fun j=>f i (k + j)) (by simp[vl,hszx];omega) (fun j hj=>?_) (fun j hj=>?_) fun j hj=>?_)
      ·simp only[X18] at hj
       have:=Nat.lt_of_lt_of_le hj (Nat.min_le_left _ _)
       simp[vl,this]
      ·simp only[List.getElem_take,List.getElem_drop]
       exact g2 i hi' _ _
      simp only[List.getElem_take,List.getElem_drop]
      exact f7 i hi' _ _
     | false=>
      simp only[hcl] at h
      cases hg:(es[i].cells.drop k)[0]? with
      | none=>simp[hg] at h
      | some y=>
       simp only[hg] at h
       obtain⟨h1,h2⟩:=X16.1 hg
       simp[hszx] at h1
       obtain⟨d,hu,hd⟩:=hti.kind.plain hcl
       refine⟨.d y,f i k,h,?_,?_,A6 _ _⟩
       ·simp only[Instr.loadAt,Instr.sureAddr,Sem.run_bind,Sem.run_pure,Result.andThen_ok,EB hu hd (hcell k (by omega))]
       simp only[List.getElem_drop,Nat.add_zero] at h2
       subst h2
       exact .d _ _ (f7 i hi' k _)
theorem Zn (obl:List (Option OB)) (r:Nat) (x:OB) (h:r<obl.length):(fun i=>(obl.set r (some x)).getD i none)=upd (fun i=>obl.getD i none) r (some x):=by
 funext i
 by_cases hi:i=r
 ·subst hi;simp[h]
 rw[AP _ _ _ _ hi]
 simp[List.getElem?_set_ne (Ne.symm hi)]
theorem Ry (m:Mem E w S φ ob) {self:Nat} {cs:List AV} {v:Value} (e:Nat) (hself:ob self=none) (hs:v.cells.size=cs.length)
  (h :∀i (hi:i<cs.length),∃u,v.cells[i]?=some u/\cs[i].one=true/\RepA S w φ ob cs[i] u) (hc :∀c ∈ cs,Closed ob c) :
  Post E w S φ ob (.ref self 0) [(self,.box cs)] (.pointer (some ⟨w.heap.size,0,none⟩)) (w.alloc (.cells v.cells e)):=by
 obtain⟨m',k'⟩:=m.alloc self (0,0) (.box cs) v.cells e hself (fun r hr=>by
  obtain⟨c,h1,h2⟩:=AV.refs_mem' cs r (by simpa[OB.refs] using hr)
  exact hc c h1 r h2) (fun hk=>by
  refine⟨w.heap.size,(0,0),v.cells,e,fun j=>v.cells.getD j undef,upd_same _ _ _,heap_alloc_new w _,hs,fun o ho=>?_,fun j hj=>?_,fun j hj=>?_⟩
  ·exact absurd (m.bS _ _ ho) (Nat.lt_irrefl _)
  ·obtain⟨u,h1,_⟩:=h j hj
   simp[h1]
  obtain⟨u,h1,h2,h3⟩:=h j hj
  refine⟨h2,?_⟩
  have:=hk.rep (hc _ (List.getElem_mem hj)) h3
  simpa[h1] using this)
 refine⟨S,_,m',k',.ref self 0 w.heap.size (0,0) (upd_same _ _ _) (fun e' sz es frz hx=>?_),fun r hr=>?_⟩
 ·simp[Ai] at hx
 simp only[AV.refs,X14] at hr
 subst hr
 simp[Ai]
theorem Vy {t:Nat} {ti:TI} (h:TiOk P t ti) {i:TypeInfo} {z:Value} (hi:P.info? t=some i) (hz:i.zero=some z) (S:Sc) (w:World) (φ:Nat->Option (Nat×Rp)) (ob:Nat->Option OB) :
  z.cells.size=(ti.zero.map AV.d).length/\ti.zero.length=ti.size/\∀j (hj:j<(ti.zero.map AV.d).length),∃u,z.cells[j]?=some u/\(ti.zero.map AV.d)[j].one=true/\RepA S w φ ob (ti.zero.map AV.d)[j] u:=by
 obtain⟨i',z',h1,h2,h3,h4,h5,h6,h7⟩:=h.info
 rw[hi] at h1
 obtain rfl:=X25 h1
 rw[hz] at h4
 obtain rfl:=X25 h4
 refine⟨by simp[h5,h6],h6,fun j hj=>?_⟩
 have hj':j<ti.zero.length:=by simpa using hj
 have hlt:j<z.cells.size:=by omega
 refine⟨z.cells[j],by simp[hlt],?_⟩
 have:=h7 j hj' z.cells[j] (by simp[hlt])
 simp only[List.getElem_map]
 generalize ti.zero[j]=x at this
 generalize z.cells[j]=u at this
 cases x with
 | val v=>obtain⟨rfl,h⟩:=this;exact⟨rfl,.d _ _ (.val _ h)⟩
 | nil=>simp only[IB] at this;subst this;exact⟨rfl,.d _ _ (.nil _)⟩
 | agg=>simp[IB] at this
 | lst=>simp[IB] at this
def BG {α:Type} (cs:List α) (n:Nat) (vs:List α):List α:=cs.take n++vs++cs.drop (n + vs.length)
theorem BU {α:Type} (cs:List α) (n:Nat) (vs:List α) (h:n + vs.length<=cs.length):(BG cs n vs).length=cs.length:=by
 simp[BG];omega
theorem D5 {α:Type} (cs:List α) (n:Nat) (vs:List α) (h:n + vs.length<=cs.length) (j:Nat) :
  (BG cs n vs)[j]?=if n<=j/\j<n + vs.length then vs[j - n]? else cs[j]?:=by
 unfold BG
 rw[List.append_assoc,List.getElem?_append]
 simp only[X18,Nat.min_eq_left (show n<=cs.length by omega)]
 split
 ·rw[if_neg (by omega),List.getElem?_take_of_lt (by assumption)]
 rw[List.getElem?_append]
 split
 ·rw[if_pos (by omega)]
 rw[if_neg (by omega),List.getElem?_drop]
 congr 1
 omega
theorem JA {t:Nat} {v:Value} {b o:Nat} {e:Nat} {cur:Array Value} (hg:w.heap[b]?=some (.cells cur e (0,0))) (hi:(P.info? t).map (·.size)=some v.cells.size)
  (hl:o + v.cells.size<=cur.size) (h1 :∀u ∈ v.cells.toList,u.oneCell'=true) :
  (Instr.storeAt t (.pointer (some ⟨b,o,none⟩)) v).run P w=.ok () (w.setRow b (BG cur.toList o v.cells.toList).toArray):=by
 have:=run_storeCells_at P b o e v.cells.toList 0 cur w hg (by simpa using hl) h1
 simp only[Nat.add_zero] at this
 cases hq:P.info? t with
 | none=>simp[hq] at hi
 | some i=>
  have hs:v.cells.size=i.size:=by simp[hq] at hi;omega
  simp[Instr.storeAt,Instr.sureAddr,storeVar,sizeOf,typeInfo,hq,hs,this,BG]
theorem Gg (w:World) (b:Nat) (cs:Array Value):(∀k,k≠b->(w.setRow b cs).heap[k]?=w.heap[k]?)/\(w.setRow b cs).heap.size=w.heap.size/\
  ((w.setRow b cs).os=w.os/\(w.setRow b cs).output=w.output/\(w.setRow b cs).tape=w.tape/\w.drawn<=(w.setRow b cs).drawn):=
 ⟨fun k hk=>setRow_other w b k cs hk,size_setRow w b cs,rfl,rfl,rfl,Nat.le_refl _⟩
theorem cells_one {v:Value} {cs:List AV} (hs:v.cells.size=cs.length) (h :∀i (hi:i<cs.length),∃u,v.cells[i]?=some u/\cs[i].one=true/\RepA S w φ ob cs[i] u) :
  ∀u ∈ v.cells.toList,u.oneCell'=true:=by
 intro u hu
 obtain⟨i,hi,rfl⟩:=List.getElem_of_mem hu
 have hi':i<cs.length:=by simpa[hs] using hi
 obtain⟨u,h1,h2,h3⟩:=h i hi'
 have:u=v.cells.toList[i]:=by
  have:v.cells.toList[i]?=some u:=by simpa using h1
  rw[X15 hi] at this
  exact (X25 this).symm
 rw[<- this]
 exact h3.one h2
theorem OS (m:Mem E w S φ ob) {t r off:Nat} {cs vs:List AV} {v:Value} {b:Nat} {c:Rp} (hφ:φ r=some (b,c)) (ho:ob r=some (.box cs)) (hi:(P.info? t).map (·.size)=some vs.length)
  (hs:v.cells.size=vs.length) (h :∀i (hi:i<vs.length),∃u,v.cells[i]?=some u/\vs[i].one=true/\RepA S w φ ob vs[i] u) (hc :∀c ∈ vs,Closed ob c) (hle:off + vs.length<=cs.length) :
  ∃w',(Instr.storeAt t (.pointer (some ⟨b,off,none⟩)) v).run P w=.ok () w'/\Post E w S φ ob .dead [(r,.box (BG cs off vs))] undef w':=by
 obtain⟨b',c',cur,e,f,g1,g2,g3,g4,g5,g6⟩:=m.obj r _ ho
 rw[hφ] at g1
 simp only[X24,X26] at g1
 obtain⟨rfl,rfl⟩:=g1
 have hsz:off + v.cells.toList.length<=cur.toList.length:=by simp;omega
 refine⟨_,JA g2 (by rw[hi,hs]) (by omega) (cells_one hs h),?_⟩
 obtain⟨q1,q2,q3⟩:=Gg w b (BG cur.toList off v.cells.toList).toArray
 have hh:=setRow_heap w b cur (BG cur.toList off v.cells.toList).toArray e (0,0) g2
 have hrefs :∀r' ∈ (OB.box (BG cs off vs)).refs,ob r'≠none:=by
  intro r' hr'
  obtain⟨x,h1,h2⟩:=AV.refs_mem' _ r' (by simpa[OB.refs] using hr')
  simp only[BG,X23] at h1
  rcases h1 with (h1 | h1)|h1
  ·obtain⟨j,hj,rfl⟩:=List.getElem_of_mem (List.mem_of_mem_take h1)
   exact m.men r _ ho r' (by simpa[OB.refs] using AV.refs_mem cs j hj r' h2)
  ·exact hc x h1 r' h2
  obtain⟨j,hj,rfl⟩:=List.getElem_of_mem (List.mem_of_mem_drop h1)
  exact m.men r _ ho r' (by simpa[OB.refs] using AV.refs_mem cs j hj r' h2)
 have hl0:(BG cs off vs).length=cs.length:=BU _ _ _ hle
 have:=m.set r _ (.box (BG cs off vs)) (w.setRow b (BG cur.toList off v.cells.toList).toArray) (φ r) ho (fun k hk hne=>q1 k fun e=>hne c (by rw[e];exact hφ)) (by omega) q3
  (fun b' c' o hb hS=>by rw[hφ] at hb;simp only[X24,X26] at hb;rw[<- hb.1] at hS;exact absurd hS (g4 o)) (.inl rfl)
  (.inl ⟨upd_same _ _ _,by simp[ho,hdr],fun _=>⟨cs,ho⟩⟩) hrefs (fun hk=>by
   refine⟨b,c,_,e,fun j=>(BG cur.toList off v.cells.toList).getD j undef,by rw[upd_same];exact hφ,hh,?_,g4,fun j hj=>?_,fun j hj=>?_⟩
   ·simp only[List.size_toArray]
    rw[BU _ _ _ hsz,hl0]
    simpa using g3
   ·rw[hl0] at hj
    have:j<(BG cur.toList off v.cells.toList).length:=by rw[BU _ _ _ hsz];simp;omega
    simp[this]
   rw[hl0] at hj
   have e1:=D5 cs off vs hle j
   have e2:=D5 cur.toList off v.cells.toList hsz j
   have hj2:j<(BG cs off vs).length:=by rw[hl0];exact hj
   rw[X15 hj2] at e1
   simp only[Array.length_toList,hs] at e2
   by_cases hin:off<=j/\j<off + vs.length
   ·rw[if_pos hin,X15 (by omega)] at e1
    rw[if_pos hin] at e2
    obtain⟨u,h1,h2,h3⟩:=h (j - off) (by omega)
    have h1':v.cells.toList[j - off]?=some u:=by simpa using h1
    simp only[X24] at e1
    rw[e1]
    refine⟨h2,?_⟩
    have:=hk.rep (hc _ (List.getElem_mem (h:=by omega))) h3
    simp only[List.getD_eq_getElem?_getD,e2,h1',Option.getD_some]
    exact this
   rw[if_neg hin,X15 hj] at e1
   rw[if_neg hin] at e2
   simp only[X24] at e1
   rw[e1]
   refine⟨(g6 j hj).1,?_⟩
   have:=hk.rep (a:=cs[j]) (fun r' hr'=>m.men r _ ho r' (by simpa[OB.refs] using AV.refs_mem cs j hj r' hr')) (g6 j hj).2
   have h1':cur.toList[j]?=some (f j):=by simpa using g5 j hj
   simp only[List.getD_eq_getElem?_getD,e2,h1',Option.getD_some]
   exact this)
 have hu:upd φ r (φ r)=φ:=by funext i;by_cases hi:i=r<;>simp[upd,hi]
 rw[hu] at this
 exact⟨S,φ,this.1,this.2,.dead _,FT _⟩
theorem D.cells_plain {x:D} (h:x.isAgg=false):x.cells=[x]:=by cases x<;>first | rfl | simp[D.isAgg] at h
theorem RepD.cells {x:D} {v:Value} (h:RepD S w x v):v.cells.size=x.cells.length/\∀i (hi:i<x.cells.length),∃u,v.cells[i]?=some u/\x.cells[i].isAgg=false/\RepD S w x.cells[i] u:=by
 by_cases hx:x.isAgg=true
 ·cases x with
  | agg cs=>
   cases h with | agg _ vs f hs hf hn hr=>exact⟨by simp[Value.cells,hs,D.cells],fun i hi=>⟨f i,hf i hi,hn i hi,hr i hi⟩⟩
  | _=>simp[D.isAgg] at hx
 have hx:x.isAgg=false:=by simpa using hx
 have hv:v.cells=#[v]:=by have:=h.one hx;cases v<;>first | rfl | simp[Value.oneCell'] at this
 rw[D.cells_plain hx,hv]
 refine⟨rfl,fun i hi=>⟨v,?_,?_,?_⟩⟩
 ·have:i=0:=by simpa using hi
  simp[this]
 ·simpa using hx
 simpa using h
theorem RepD.norm {x:D} {v:Value} (h:RepD S w x v):RepD S w x.norm v:=by
 cases h with
 | val v h=>exact .val v h
 | nil sz=>exact .lst0 sz _ _
 | lst0 sz a cap=>exact .lst0 sz a cap
 | lst sz es b o cap f hl hc hsz hS hn hr=>exact .lst sz es b o cap f hl hc hsz hS hn hr
 | agg cs vs f hs hf hn hr=>
  refine .agg _ vs f (by simpa using hs) (fun i hi=>hf i (by simpa using hi)) (fun i hi=>?_) fun i hi=>?_
  ·have hi':i<cs.length:=by simpa using hi
   have:=hn i hi'
   simp only[List.getElem_map]
   revert this
   cases cs[i]<;>simp[D.isAgg]
  have hi':i<cs.length:=by simpa using hi
  have:=hr i hi'
  simp only[List.getElem_map]
  revert this
  generalize cs[i]=y
  generalize f i=u
  cases y with
  | nil sz=>intro h;cases h;exact .lst0 sz _ _
  | _=>intro h;exact h
theorem D.norm_cells_length (x:D):x.norm.cells.length=x.cells.length:=by
 cases x<;>simp[D.norm,D.cells]
theorem Gt (m:Mem E w S φ ob) {t r i k e sz:Nat} {es:List D} {x y:D} {v:Value} {b:Nat} {c:Rp} (hφ:φ r=some (b,c)) {fz fz':FZ} (ho:ob r=some (.row e sz es fz)) (hfz:fz.frozen=false) (hfz':fz'.frozen=false) (hi:(P.info? t).map (·.size)=some x.cells.length)
  (hlk :∀i' j q n,fz'=.lk i' j q n->i'=i/\j=k/\ob q≠none/\v.cells=#[v]/\RepA S w φ ob (.own q n) v) (hx:RepD S w x v) (hl:i<es.length) (hle:k + x.cells.length<=sz) (hy:y.cells=BG es[i].cells k x.cells) :
  ∃w',(Instr.storeAt t (.pointer (some ⟨b,c.2 + (i * sz + k),none⟩)) v).run P w=.ok () w'/\Post E w S φ ob .dead [(r,.row e sz (es.set i y) fz')] undef w':=by
 obtain⟨g0,g1,g2,g3⟩:=m.obj r _ ho
 rcases g3 with ⟨f1,_⟩|⟨b',cap,cur,f,f1,f2,f3,f4,f5,f6,f7,f8⟩
 ·rw[hφ] at f1;simp at f1
 rw[hφ] at f1
 simp only[X24,X26] at f1
 obtain⟨rfl,rfl⟩:=f1
 obtain⟨x1,x2⟩:=hx.cells
 have hrow:(i + 1) * sz<=c.1 * sz:=X31 _ (by omega)
 rw[X32] at hrow
 have h1 :∀u ∈ v.cells.toList,u.oneCell'=true:=by
  intro u hu
  obtain⟨j,hj,rfl⟩:=List.getElem_of_mem hu
  have hj':j<x.cells.length:=by simpa[x1] using hj
  obtain⟨u,q1,q2,q3⟩:=x2 j hj'
  have:v.cells.toList[j]?=some u:=by simpa using q1
  rw[X15 hj] at this
  rw[X25 this]
  exact q3.one q2
 have hszl:(c.2 + (i * sz + k)) + v.cells.toList.length<=cur.toList.length:=by simp;omega
 refine⟨_,JA f2 (by rw[hi,x1]) (by omega) h1,?_⟩
 obtain⟨q1,q2,q3⟩:=Gg w b (BG cur.toList (c.2 + (i * sz + k)) v.cells.toList).toArray
 have hh:=setRow_heap w b cur (BG cur.toList (c.2 + (i * sz + k)) v.cells.toList).toArray e (0,0) f2
 have hylen:y.cells.length=sz:=by rw[hy,BU _ _ _ (by rw[g1 i hl];exact hle),g1 i hl]
 have hes :∀j (hj:j<(es.set i y).length),(es.set i y)[j]=if i=j then y else es[j]'(by simpa using hj):=fun j hj=>by rw[List.getElem_set]
 have hov:=D5 es[i].cells k x.cells (by rw[g1 i hl];exact hle)
 have:=m.set r _ (.row e sz (es.set i y) fz') (w.setRow b (BG cur.toList (c.2 + (i * sz + k)) v.cells.toList).toArray) (φ r) ho (fun k hk hne=>q1 k fun e=>hne c (by rw[e];exact hφ)) (by omega) q3
  (fun b' c' o hb hS=>by rw[hφ] at hb;simp only[X24,X26] at hb;rw[<- hb.1] at hS;exact absurd hS (f8.1 o (by simp[hfz]))) (.inl rfl)
  (.inl ⟨upd_same _ _ _,by simp[ho,hdr],fun h=>by simp at h⟩) (fun r' hr'=>by
   cases hq:fz' with
   | no=>simp[OB.refs,hq] at hr'
   | yes=>simp[OB.refs,hq] at hr'
   | lk i' j q n=>
    simp only[OB.refs,hq,FZ.refs_lk,X14] at hr'
    rw[hr'];exact (hlk _ _ _ _ hq).2.2.1) (fun hk=>by
   have yget :∀j (hj:j<y.cells.length),y.cells[j].isAgg=false/\∃u,(if k<=j/\j<k + x.cells.length then v.cells[j - k]? else some (f i j))=some u/\RepD S (w.setRow b (BG cur.toList (c.2 + (i * sz + k)) v.cells.toList).toArray) y.cells[j] u:=by
    intro j hj
    have e1:=hov j
    rw[<- hy,X15 hj] at e1
    by_cases hin:k<=j/\j<k + x.cells.length
    ·rw[if_pos hin] at e1 ⊢
     rw[X15 (by omega)] at e1
     obtain⟨u,p1,p2,p3⟩:=x2 (j - k) (by omega)
     rw[X25 e1]
     exact⟨p2,u,p1,p3.mono hk.k⟩
    rw[if_neg hin] at e1 ⊢
    rw[X15 (by rw[g1 i hl];omega)] at e1
    rw[X25 e1]
    exact⟨g2 i hl j (by rw[g1 i hl];omega),f i j,rfl,(f7 i hl j (by rw[g1 i hl];omega)).mono hk.k⟩
   refine⟨g0,fun j hj=>?_,fun j hj l hl'=>?_,.inr ⟨b,c,_,fun j l=>(BG cur.toList (c.2 + (i * sz + k)) v.cells.toList).getD (c.2 + (j * sz + l)) undef,by rw[upd_same];exact hφ,hh,by simpa using f3,f4,?_,fun j l hj hl'=>?_,fun j hj l hl'=>?_,fun o _=>f8.1 o (by simp[hfz]),fun i' j' q n hq hi' hj'=>?_⟩⟩
   ·rw[hes j hj];split
    ·exact hylen
    exact g1 j _
   ·have:=hes j hj
    simp only[this] at hl' ⊢
    split at hl'
    ·rename_i hij;simp only[hij,if_true];exact (yget l hl').1
    rename_i hij;simp only[hij,if_false];exact g2 j _ l hl'
   ·simp only[List.size_toArray]
    rw[BU _ _ _ hszl]
    simpa using f5
   ·have hj':j<es.length:=by simpa using hj
    have:(j + 1) * sz<=c.1 * sz:=X31 _ (by omega)
    rw[X32] at this
    have hlt:c.2 + (j * sz + l)<(BG cur.toList (c.2 + (i * sz + k)) v.cells.toList).length:=by rw[BU _ _ _ hszl];simp;omega
    simp[hlt]
   ·have hj':j<es.length:=by simpa using hj
    have hjj:=hes j hj
    have e2:=D5 cur.toList (c.2 + (i * sz + k)) v.cells.toList hszl (c.2 + (j * sz + l))
    simp only[hjj] at hl' ⊢
    simp only[List.getD_eq_getElem?_getD,e2]
    by_cases hij:i=j
    ·subst hij
     simp only[if_true] at hl' ⊢
     obtain⟨_,u,p1,p2⟩:=yget l hl'
     simp only[Array.length_toList,x1]
     have hiff:(c.2 + (i * sz + k)<=c.2 + (i * sz + l)/\c.2 + (i * sz + l)<c.2 + (i * sz + k) + x.cells.length)↔(k<=l/\l<k + x.cells.length):=by omega
     by_cases hin:k<=l/\l<k + x.cells.length
     ·rw[if_pos hin] at p1
      rw[if_pos (hiff.2 hin),show c.2 + (i * sz + l) - (c.2 + (i * sz + k))=l - k by omega]
      have:v.cells.toList[l - k]?=some u:=by simpa using p1
      rw[this]
      exact p2
     rw[if_neg hin] at p1
     rw[if_neg (fun h=>hin (hiff.1 h))]
     have:cur.toList[c.2 + (i * sz + l)]?=some (f i l):=by simpa using f6 i l hl (by omega)
     rw[this]
     rw[X25 p1]
     exact p2
    simp only[hij,if_false] at hl' ⊢
    have hl2:l<sz:=by rw[g1 j hj'] at hl';exact hl'
    have hout:¬ (c.2 + (i * sz + k)<=c.2 + (j * sz + l)/\c.2 + (j * sz + l)<c.2 + (i * sz + k) + v.cells.toList.length):=by
     simp only[Array.length_toList,x1]
     rcases Nat.lt_or_ge i j with h | h
     ·have:(i + 1) * sz<=j * sz:=X31 _ h
      rw[X32] at this
      omega
     have:(j + 1) * sz<=i * sz:=X31 _ (by omega)
     rw[X32] at this
     omega
    rw[if_neg hout]
    have:cur.toList[c.2 + (j * sz + l)]?=some (f j l):=by simpa using f6 j l hj' hl2
    rw[this]
    exact (f7 j hj' l hl').mono hk.k
   obtain⟨rfl,rfl,hq0,hv1,hrep⟩:=hlk _ _ _ _ hq
   have e2:=D5 cur.toList (c.2 + (i' * sz + j')) v.cells.toList hszl (c.2 + (i' * sz + j'))
   rw[if_pos (by simp[hv1]),Nat.sub_self] at e2
   have e3:(BG cur.toList (c.2 + (i' * sz + j')) v.cells.toList).getD (c.2 + (i' * sz + j')) undef=v:=by
    rw[List.getD_eq_getElem?_getD,e2,hv1];rfl
   simp only[e3]
   exact hk.rep (fun q' hq'=>by simp only[AV.refs,X14] at hq';rw[hq'];exact hq0) hrep)
 have hu:upd φ r (φ r)=φ:=by funext i;by_cases hi:i=r<;>simp[upd,hi]
 rw[hu] at this
 exact⟨S,φ,this.1,this.2,.dead _,FT _⟩
theorem Mem.move (m:Mem E w S φ ob) (r self e sz:Nat) (es zs:List D) (h0:ob r=some (.row e sz es .no)) (hs:ob self=none) (hz:zs <+: es) :
  Mem E w S (upd (upd φ r none) self (φ r)) (upd (upd ob r (some .gone)) self (some (.row e sz zs .no)))/\Kept w S φ ob w S (upd (upd φ r none) self (φ r)) (upd (upd ob r (some .gone)) self (some (.row e sz zs .no))):=by
 have hrs:r≠self:=fun he=>by rw[he,hs] at h0;simp at h0
 have hne :∀r',ob r'≠none->r'≠self:=fun r' h e=>h (e ▸ hs)
 have oth :∀r',r'≠r->r'≠self->upd (upd φ r none) self (φ r) r'=φ r'/\upd (upd ob r (some .gone)) self (some (.row e sz zs .no)) r'=ob r':=fun r' h1 h2=>by
  rw[AP _ _ _ _ h2,AP _ _ _ _ h1,AP _ _ _ _ h2,AP _ _ _ _ h1]
  exact⟨rfl,rfl⟩
 have hr1:upd (upd ob r (some .gone)) self (some (.row e sz zs .no)) r=some .gone:=by rw[AP _ _ _ _ hrs,upd_same]
 have hφr:upd (upd φ r none) self (φ r) r=none:=by rw[AP _ _ _ _ hrs,upd_same]
 have hk:Kept w S φ ob w S (upd (upd φ r none) self (φ r)) (upd (upd ob r (some .gone)) self (some (.row e sz zs .no))):=by
  refine⟨fun b o h=>⟨h,rfl⟩,fun r' h=>?_,fun r' h=>?_⟩
  ·by_cases hh:r'=r
   ·subst hh
    exact .inr (.inr ⟨⟨_,_,_,_,h0⟩,by rw[hr1];rfl,fun cs hx=>by rw[hr1] at hx;simp at hx⟩)
   obtain⟨e1,e2⟩:=oth r' hh (hne r' h)
   exact .inl ⟨e1,by rw[e2],fun h=>by rwa [e2] at h⟩
  by_cases hh:r'=r
  ·rw[hh,hr1];simp
  rw[(oth r' hh (hne r' h)).2];exact h
 obtain⟨g0,g1,g2,g3⟩:=m.obj r _ h0
 have hlen:zs.length<=es.length:=hz.length_le
 have hget :∀i (hi:i<zs.length),zs[i]=es[i]'(by omega):=fun i hi=>hz.getElem hi
 have pre :∀{r':Nat} {x:Nat×Rp},upd (upd ob r (some .gone)) self (some (.row e sz zs .no)) r'≠none->upd (upd φ r none) self (φ r) r'=some x->(r'=self/\φ r=some x)\/(r'≠self/\r'≠r/\ob r'≠none/\φ r'=some x):=by
  intro r' x h1 h2
  by_cases hs':r'=self
  ·subst hs'
   rw[upd_same] at h2
   exact .inl ⟨rfl,h2⟩
  by_cases hr':r'=r
  ·subst hr';rw[hφr] at h2;simp at h2
  obtain⟨e1,e2⟩:=oth r' hr' hs'
  exact .inr ⟨hs',hr',by rwa [e2] at h1,by rwa [e1] at h2⟩
 have hr0:ob r≠none:=by rw[h0];simp
 refine⟨⟨?_,?_,?_,m.sS,m.kS,m.bS,m.nS,m.fr,m.sz,?_,m.os⟩,hk⟩
 ·intro r' o h
  by_cases hs':r'=self
  ·subst hs'
   simp only[upd_same,X24] at h
   subst h
   refine⟨g0,fun i hi=>by rw[hget i hi];exact g1 _ _,fun i hi j hj=>by
    have:=hget i hi
    simp only[this] at hj ⊢
    exact g2 _ _ j hj,?_⟩
   rcases g3 with ⟨f1,f2⟩|⟨b,cap,vs,f,f1,f2,f3,f4,f5,f6,f7,f8⟩
   ·refine .inl ⟨by rw[upd_same];exact f1,?_⟩
    rw[f2] at hlen
    exact List.eq_nil_of_length_eq_zero (by simpa using hlen)
   refine .inr ⟨b,cap,vs,f,by rw[upd_same];exact f1,f2,by omega,f4,f5,fun i j hi hj=>f6 i j (by omega) hj,fun i hi j hj=>?_,fun o _=>f8.1 o (by simp),fun _ _ _ _ h=>nomatch h⟩
   have:=hget i hi
   simp only[this] at hj ⊢
   exact f7 i (by omega) j hj
  by_cases hr':r'=r
  ·subst hr'
   rw[hr1] at h
   obtain rfl:=X25 h
   trivial
  obtain⟨e1,e2⟩:=oth r' hr' hs'
  rw[e2] at h
  exact (m.obj r' o h).keep hk e1 (fun b c hb=>⟨rfl,fun _ h=>h⟩) (m.men r' o h)
 ·intro r1 r2 b c c' h1 h2 k1 k2
  rcases pre h1 k1 with ⟨rfl,a1⟩|⟨a1,a2,a3,a4⟩<;>rcases pre h2 k2 with ⟨rfl,b1⟩|⟨b1,b2,b3,b4⟩
  ·rfl
  ·exact absurd (m.inj r2 r b c' c b3 hr0 b4 a1) b2
  ·exact absurd (m.inj r1 r b c c' a3 hr0 a4 b1) a2
  exact m.inj r1 r2 b c c' a3 b3 a4 b4
 ·intro r' o h r'' hm
  by_cases hs':r'=self
  ·subst hs'
   simp only[upd_same,X24] at h
   subst h
   simp[OB.refs] at hm
  by_cases hr':r'=r
  ·subst hr'
   rw[hr1] at h
   obtain rfl:=X25 h
   simp[OB.refs] at hm
  rw[(oth r' hr' hs').2] at h
  exact hk.c _ (m.men r' o h r'' hm)
 intro r' b c h g
 rcases pre h g with ⟨rfl,a1⟩|⟨a1,a2,a3,a4⟩
 ·exact m.ow r b c hr0 a1
 exact m.ow r' b c a3 a4
theorem Mem.moveAt (m:Mem E w S φ ob) (r self e sz l:Nat) (es zs:List D) (p:Option (Nat×Rp)) (h0:ob r=some (.row e sz es .no)) (hs:ob self=none) (hl:l + zs.length<=es.length) (hz :∀i (hi:i<zs.length),zs[i]=es[l + i]'(by omega))
  (hp:(p=none/\zs=[]) \/∃b c c',φ r=some (b,c)/\p=some (b,(c',c.2 + l * sz))/\zs.length<=c'/\l + c'<=c.1) :
  Mem E w S (upd (upd φ r none) self p) (upd (upd ob r (some .gone)) self (some (.row e sz zs .no)))/\Kept w S φ ob w S (upd (upd φ r none) self p) (upd (upd ob r (some .gone)) self (some (.row e sz zs .no))):=by
 have hrs:r≠self:=fun he=>by rw[he,hs] at h0;simp at h0
 have hne :∀r',ob r'≠none->r'≠self:=fun r' h e=>h (e ▸ hs)
 have oth :∀r',r'≠r->r'≠self->upd (upd φ r none) self p r'=φ r'/\upd (upd ob r (some .gone)) self (some (.row e sz zs .no)) r'=ob r':=fun r' h1 h2=>by
  rw[AP _ _ _ _ h2,AP _ _ _ _ h1,AP _ _ _ _ h2,AP _ _ _ _ h1]
  exact⟨rfl,rfl⟩
 have hr1:upd (upd ob r (some .gone)) self (some (.row e sz zs .no)) r=some .gone:=by rw[AP _ _ _ _ hrs,upd_same]
 have hφr:upd (upd φ r none) self p r=none:=by rw[AP _ _ _ _ hrs,upd_same]
 have hk:Kept w S φ ob w S (upd (upd φ r none) self p) (upd (upd ob r (some .gone)) self (some (.row e sz zs .no))):=by
  refine⟨fun b o h=>⟨h,rfl⟩,fun r' h=>?_,fun r' h=>?_⟩
  ·by_cases hh:r'=r
   ·subst hh
    exact .inr (.inr ⟨⟨_,_,_,_,h0⟩,by rw[hr1];rfl,fun cs hx=>by rw[hr1] at hx;simp at hx⟩)
   obtain⟨e1,e2⟩:=oth r' hh (hne r' h)
   exact .inl ⟨e1,by rw[e2],fun h=>by rwa [e2] at h⟩
  by_cases hh:r'=r
  ·rw[hh,hr1];simp
  rw[(oth r' hh (hne r' h)).2];exact h
 obtain⟨g0,g1,g2,g3⟩:=m.obj r _ h0
 have hpb :∀{b:Nat} {x:Rp},p=some (b,x)->∃c,φ r=some (b,c):=by
  intro b x h
  rcases hp with ⟨h2,_⟩|⟨b',c,c',h1,h2,_⟩
  ·rw[h2] at h;simp at h
  rw[h2] at h
  simp only[X24,X26] at h
  exact⟨c,h.1 ▸ h1⟩
 have pre :∀{r':Nat} {x:Nat×Rp},upd (upd ob r (some .gone)) self (some (.row e sz zs .no)) r'≠none->upd (upd φ r none) self p r'=some x->(r'=self/\p=some x)\/(r'≠self/\r'≠r/\ob r'≠none/\φ r'=some x):=by
  intro r' x h1 h2
  by_cases hs':r'=self
  ·subst hs'
   rw[upd_same] at h2
   exact .inl ⟨rfl,h2⟩
  by_cases hr':r'=r
  ·subst hr';rw[hφr] at h2;simp at h2
  obtain⟨e1,e2⟩:=oth r' hr' hs'
  exact .inr ⟨hs',hr',by rwa [e2] at h1,by rwa [e1] at h2⟩
 have hr0:ob r≠none:=by rw[h0];simp
 refine⟨⟨?_,?_,?_,m.sS,m.kS,m.bS,m.nS,m.fr,m.sz,?_,m.os⟩,hk⟩
 ·intro r' o h
  by_cases hs':r'=self
  ·subst hs'
   simp only[upd_same,X24] at h
   subst h
   refine⟨g0,fun i hi=>by rw[hz i hi];exact g1 _ _,fun i hi j hj=>by
    have:=hz i hi
    simp only[this] at hj ⊢
    exact g2 _ _ j hj,?_⟩
   rcases g3 with ⟨f1,f2⟩|⟨b,cap,vs,f,f1,f2,f3,f4,f5,f6,f7,f8⟩
   ·rcases hp with ⟨h2,h3⟩|⟨b',c,c',h1,_⟩
    ·exact .inl ⟨by rw[upd_same];exact h2,h3⟩
    rw[f1] at h1;simp at h1
   rcases hp with ⟨h1,h2⟩|⟨b',c,c',h1,h2,h3,h4⟩
   ·exact .inl ⟨by rw[upd_same];exact h1,h2⟩
   rw[f1] at h1
   simp only[X24,X26] at h1
   obtain⟨rfl,rfl⟩:=h1
   have hcs:(l + c') * sz<=cap.1 * sz:=X31 _ h4
   rw[X32] at hcs
   refine .inr ⟨b,(c',cap.2 + l * sz),vs,fun i j=>f (l + i) j,by rw[upd_same];exact h2,f2,h3,by simp only;omega,by simp only;omega,fun i j hi hj=>?_,fun i hi j hj=>?_,fun o _=>f8.1 o (by simp),fun _ _ _ _ h=>nomatch h⟩
   ·have:=f6 (l + i) j (by omega) hj
    rw[X32] at this
    simp only
    rw[<- this]
    congr 1
    omega
   have:=hz i hi
   simp only[this] at hj ⊢
   exact f7 (l + i) (by omega) j hj
  by_cases hr':r'=r
  ·subst hr'
   rw[hr1] at h
   obtain rfl:=X25 h
   trivial
  obtain⟨e1,e2⟩:=oth r' hr' hs'
  rw[e2] at h
  exact (m.obj r' o h).keep hk e1 (fun b c hb=>⟨rfl,fun _ h=>h⟩) (m.men r' o h)
 ·intro r1 r2 b c c' h1 h2 k1 k2
  rcases pre h1 k1 with ⟨rfl,a1⟩|⟨a1,a2,a3,a4⟩<;>rcases pre h2 k2 with ⟨rfl,b1⟩|⟨b1,b2,b3,b4⟩
  ·rfl
  ·obtain⟨c0,a1⟩:=hpb a1
   exact absurd (m.inj r2 r b c' c0 b3 hr0 b4 a1) b2
  ·obtain⟨c0,b1⟩:=hpb b1
   exact absurd (m.inj r1 r b c c0 a3 hr0 a4 b1) a2
  exact m.inj r1 r2 b c c' a3 b3 a4 b4
 ·intro r' o h r'' hm
  by_cases hs':r'=self
  ·subst hs'
   simp only[upd_same,X24] at h
   subst h
   simp[OB.refs] at hm
  by_cases hr':r'=r
  ·subst hr'
   rw[hr1] at h
   obtain rfl:=X25 h
   simp[OB.refs] at hm
  rw[(oth r' hr' hs').2] at h
  exact hk.c _ (m.men r' o h r'' hm)
 intro r' b c h g
 rcases pre h g with ⟨rfl,a1⟩|⟨a1,a2,a3,a4⟩
 ·obtain⟨c0,a1⟩:=hpb a1
  exact m.ow r b c0 hr0 a1
 exact m.ow r' b c a3 a4
def FrzExt (ob ob':Nat->Option OB):Prop:=∀r,ob' r=ob r \/∃e sz es f,ob r=some (.row e sz es f)/\ob' r=some (.row e sz es .yes)
theorem FrzExt.refl (ob:Nat->Option OB):FrzExt ob ob:=fun _=>.inl rfl
theorem FrzExt.row {ob ob':Nat->Option OB} (h:FrzExt ob ob') {r e sz:Nat} {es:List D} {f:FZ} (hr:ob r=some (.row e sz es f)) :∃f',ob' r=some (.row e sz es f'):=by
 rcases h r with h1 | ⟨e',sz',es',f',h1,h2⟩
 ·exact⟨f,h1.trans hr⟩
 rw[hr] at h1
 simp only[X24,OB.row.injEq] at h1
 obtain⟨rfl,rfl,rfl,rfl⟩:=h1
 exact⟨.yes,h2⟩
theorem FrzExt.upd {ob ob':Nat->Option OB} (h:FrzExt ob ob') {r e sz:Nat} {es:List D} {f:FZ} (hr:ob r=some (.row e sz es f)):FrzExt ob (Go.AX.upd ob' r (some (.row e sz es .yes))):=by
 intro r'
 by_cases hh:r'=r
 ·subst hh
  rw[upd_same]
  exact .inr ⟨e,sz,es,f,hr,rfl⟩
 rw[AP _ _ _ _ hh]
 exact h r'
def SV (obl:List (Option OB)) (wr:W):Prop:=∀r o,(r,o) ∈ wr->∃e sz es f,obl.getD r none=some (.row e sz es f)/\o=.row e sz es .yes
theorem Dj {obl:List (Option OB)} (m:Mem E w S φ ob) (hx:FrzExt (fun r=>obl.getD r none) ob) {a:AV} {v:Value} {K:D->W->Prop} (ha:RepA S w φ ob a v) (h:toD obl a K) :
  ∃x wr S',K x wr/\Mem E w S' φ (Ai ob wr)/\Kept w S φ ob w S' φ (Ai ob wr)/\RepD S' w x v/\FrzExt (fun r=>obl.getD r none) (Ai ob wr)/\SV obl wr:=by
 have own :∀{S:Sc} {ob:Nat->Option OB} (_:Mem E w S φ ob) (_:FrzExt (fun r=>obl.getD r none) ob) {r n:Nat} {v:Value} {K:OB->Prop} (_:RepA S w φ ob (.own r n) v) (_:C7 obl r K),
   ∃o,K o/\∀e sz es f,o=.row e sz es f->n=es.length->∃S',Mem E w S' φ (upd ob r (some (.row e sz es .yes)))/\Kept w S φ ob w S' φ (upd ob r (some (.row e sz es .yes)))/\RepD S' w (.lst sz es) v/\
    FrzExt (fun r=>obl.getD r none) (upd ob r (some (.row e sz es .yes)))/\SV obl [(r,.row e sz es .yes)]:=by
  intro S ob m hx r n v K ha h
  rw[Ar] at h
  obtain⟨o,ho,hK⟩:=h
  refine⟨o,hK,fun e sz es f hoe hn=>?_⟩
  subst hoe
  obtain⟨f',hf'⟩:=hx.row ho
  obtain⟨S',m',k',hd⟩:=m.freeze r e sz es f' hf'
  refine⟨S',m',k',hd v ?_,hx.upd ho,fun r' o' hm=>?_⟩
  ·cases ha with | own _ _ _ k c a0 hv hk h1 hb=>
    have:=(h1 e sz es f' hf').2 hn
    rwa [<- hn]
  simp only[X14,X26] at hm
  obtain⟨rfl,rfl⟩:=hm
  exact⟨e,sz,es,f,ho,rfl⟩
 cases a<;>simp only[toD] at h
 case d x=>
  rw[D4] at h
  cases ha with | d _ _ ha=>exact⟨_,[],S,h,m,.refl w S φ ob,ha.norm,hx,fun _ _ hm=>by simp at hm⟩
 case own r n=>
  obtain⟨o,hK,hh⟩:=own m hx ha h
  cases o with
  | box=>simp at hK
  | map=>simp at hK
  | amap=>simp at hK
  | gone=>simp at hK
  | row e sz es f=>
   simp only at hK
   obtain⟨S',h1,h2,h3,h4,h5⟩:=hh e sz es f rfl hK.1
   exact⟨_,_,S',hK.2,h1,h2,h3,h4,h5⟩
 case agg cs=>
  cases ha with | agg _ vs f hs hf hn hr=>
  have key :∀(cs:List AV) (off:Nat) (S:Sc) (ob:Nat->Option OB) (_:Mem E w S φ ob) (_:FrzExt (fun r=>obl.getD r none) ob) (K:List D->W->Prop)
    (_ :∀i (hi:i<cs.length),RepA S w φ ob cs[i] (f (off + i))) (_:toD.toDs obl cs K),
    ∃l wr S',K l wr/\l.length=cs.length/\Mem E w S' φ (Ai ob wr)/\Kept w S φ ob w S' φ (Ai ob wr)/\(∀i (hi:i<l.length),l[i].isAgg=false/\RepD S' w l[i] (f (off + i)))/\
     FrzExt (fun r=>obl.getD r none) (Ai ob wr)/\SV obl wr:=by
   intro cs
   induction cs with
   | nil=>intro off S ob m hx K _ h;exact⟨[],[],S,h,rfl,m,.refl w S φ ob,fun i hi=>by simp at hi,hx,fun _ _ hm=>by simp at hm⟩
   | cons c cs ih=>
    intro off S ob m hx K hr h
    have h0:=hr 0 (by simp)
    simp only[List.getElem_cons_zero,Nat.add_zero] at h0
    have hr' :∀i (hi:i<cs.length),RepA S w φ ob cs[i] (f (off + 1 + i)):=fun i hi=>by
     have:=hr (i + 1) (by simpa using hi)
     simpa[Nat.add_assoc,Nat.add_comm 1 i] using this
    have fin :∀(x:D) (l:List D) (S':Sc),x.isAgg=false->RepD S' w x (f off)->(∀i (hi:i<l.length),l[i].isAgg=false/\RepD S' w l[i] (f (off + 1 + i)))->
      ∀i (hi:i<(x::l).length),(x::l)[i].isAgg=false/\RepD S' w (x::l)[i] (f (off + i)):=by
     intro x l S' h1 h2 h3 i hi
     cases i with
     | zero=>exact⟨h1,h2⟩
     | succ i=>
      have:=h3 i (by simpa using hi)
      simpa[Nat.add_assoc,Nat.add_comm 1 i] using this
    cases c<;>simp only[toD.toDs] at h
    case d x=>
     cases h0 with | d _ _ h0=>
     have h0n:=h0.norm
     cases x with
     | agg l=>simp at h
     | val u=>
      simp only at h
      obtain⟨l,wr,S',a1,a2,a3,a4,a5,a6,a7⟩:=ih (off + 1) S ob m hx _ hr' h
      exact⟨_,wr,S',a1,by simp[a2],a3,a4,fin _ _ _ rfl (h0n.mono a4.k) a5,a6,a7⟩
     | nil u=>
      simp only at h
      obtain⟨l,wr,S',a1,a2,a3,a4,a5,a6,a7⟩:=ih (off + 1) S ob m hx _ hr' h
      exact⟨_,wr,S',a1,by simp[a2],a3,a4,fin _ _ _ rfl (h0n.mono a4.k) a5,a6,a7⟩
     | lst u v=>
      simp only at h
      obtain⟨l,wr,S',a1,a2,a3,a4,a5,a6,a7⟩:=ih (off + 1) S ob m hx _ hr' h
      exact⟨_,wr,S',a1,by simp[a2],a3,a4,fin _ _ _ rfl (h0n.mono a4.k) a5,a6,a7⟩
    case fn g caps=>
     cases caps with
     | cons=>simp at h
     | nil=>
      simp only at h
      generalize hv:f off=vf at h0
      cases h0 with | fn _ _ vs g' hs' _ _=>
      have hvs:vs=#[]:=by cases vs;simp_all
      subst hvs
      obtain⟨l,wr,S',a1,a2,a3,a4,a5,a6,a7⟩:=ih (off + 1) S ob m hx _ hr' h
      exact⟨_,wr,S',a1,by simp[a2],a3,a4,fin _ _ _ rfl (by rw[hv];exact .val _ rfl) a5,a6,a7⟩
    case own r n=>
     obtain⟨o,hK,hh⟩:=own m hx h0 h
     cases o with
     | box=>simp at hK
     | map=>simp at hK
     | amap=>simp at hK
     | gone=>simp at hK
     | row e sz es fz=>
      simp only at hK
      obtain⟨S1,b1,b2,b3,b4,b5⟩:=hh e sz es fz rfl hK.1
      have hm1 :∀i (hi:i<cs.length),RepA S1 w φ (upd ob r (some (.row e sz es .yes))) cs[i] (f (off + 1 + i)):=fun i hi=>
       (hr' i hi).mono b2.k fun r' hr''=>by
        by_cases hn0:ob r'=none
        ·by_cases hrr:r'=r
         ·subst hrr
          rw[Ar] at h
          obtain⟨o',ho',hK'⟩:=h
          have:=hx.row (r:=r') (e:=e) (sz:=sz) (es:=es) (f:=fz)
          cases o' with
          | box=>simp at hK'
          | map=>simp at hK'
          | amap=>simp at hK'
          | gone=>simp at hK'
          | row e' sz' es' f'=>
           obtain⟨f'',hf''⟩:=hx.row ho'
           rw[hn0] at hf'';simp at hf''
         refine .inl ⟨rfl,?_,?_⟩<;>rw[AP _ _ _ _ hrr]
         exact id
        exact b2.r r' hn0
      obtain⟨l,wr,S',a1,a2,a3,a4,a5,a6,a7⟩:=ih (off + 1) S1 _ b1 b4 _ hm1 hK.2
      refine⟨_,(r,.row e sz es .yes)::wr,S',a1,by simp[a2],a3,b2.trans a4,fin _ _ _ rfl (b3.mono a4.k) a5,a6,fun r' o' hm=>?_⟩
      simp only[List.mem_cons] at hm
      rcases hm with hm | hm
      ·exact b5 r' o' (by simp[hm])
      exact a7 r' o' hm
  obtain⟨l,wr,S',a1,a2,a3,a4,a5,a6,a7⟩:=key cs 0 S ob m hx _ (fun i hi=>by simpa using hr i hi) h
  refine⟨_,wr,S',a1,a3,a4,.agg l vs f (by omega) (fun i hi=>hf i (by omega)) (fun i hi=>(a5 i hi).1) (fun i hi=>by simpa using (a5 i hi).2),a6,a7⟩
end
end Go.AX
end
section
namespace Go.AX
section
variable {P:Program} {T:TT} {E:Env} {w:World} {S:Sc} {φ:Nat->Option (Nat×Rp)} {ob:Nat->Option OB}
def FW (K:AV->Prop) (r:Result Value) (w:World):Prop:=∃u:Value,u.oneCell'=true/\K (.d (.val u))/\r=.ok u w
theorem BA (op:BinOp) (t:Nat) (x y:Operand) (k k':IntKind) (a b:Int):(eqGuard op t x y (.int k a) (.int k' b)).run P w=.ok () w:=by
 cases op<;>rfl
theorem FV (op:BinOp) (t:Nat) (x y:Operand) (a b:ByteArray):(eqGuard op t x y (.string a) (.string b)).run P w=.ok () w:=by
 cases op<;>rfl
theorem TW (op:BinOp) (t:Nat) (x y:Operand) (a b:Bool):(eqGuard op t x y (.bool a) (.bool b)).run P w=.ok () w:=by
 cases op<;>rfl
theorem KindOk.structF {t:Nat} {fs:List (Nat×Nat×Nat)} (h:KindOk P t (.struct fs)):P.stoodInHeld t=false/\P.eqGuardType P.depth t=false/\
  P.underlying t = some (.struct (P.fieldsOf t)) ∧ (P.fieldsOf t).toList.map (fun f => (f.offset, (P.info? f.type).map (·.size), f.type)) = fs.map (fun x => (x.1, some x.2.1, x.2.2)) ∧ ∀ f ∈ (P.fieldsOf t).toList, f.name ≠ "_" := by
 obtain⟨h1,h2,F,h3,h4,h5⟩:=h
 have:P.fieldsOf t=F:=by simp[Program.fieldsOf,h3]
 rw[this]
 exact⟨h1,h2,h3,h4,h5⟩
theorem run_part_plain {t:Nat} {d:TypeDesc} (hu:P.underlying t=some d) (hd:d.isRow=false) {cs:Array Value} {off:Nat} {v:Value} (h:cs[off]?=some v):(part t cs off).run P w=.ok v w:=by
 simp[part,NK hu,hd,h]
theorem Iu {t:Nat} {ti:TI} (hti:TiOk P t ti) (hc:ti.kind.cls=some true) {cs:Array Value} {off:Nat}:(part t cs off).run P w=.ok (.agg (cs.extract off (off + ti.size))) w:=by
 obtain⟨d,hu,hd⟩:=hti.kind.row hc
 have hi:=hti.info1
 cases hq:P.info? t with
 | none=>simp[hq] at hi
 | some i=>
  have:i.size=ti.size:=by simpa[hq] using hi
  simp[part,NK hu,hd,sizeOf,typeInfo,hq,this]
theorem N1 {cs:List D} {vs:Array Value} (f:Nat->Value) (hs:vs.size=cs.length) (hf :∀i,i<cs.length->vs[i]?=some (f i))
  (hn :∀i (hi:i<cs.length),cs[i].isAgg=false) (h :∀i (hi:i<cs.length),RepD S w cs[i] (f i)) (off n:Nat) :
  RepD S w (.agg ((cs.drop off).take n)) (.agg (vs.extract off (off + n))):=by
 refine .agg _ _ (fun i=>f (off + i)) ?_ (fun i hi=>?_) (fun i hi=>?_) fun i hi=>?_
 ·simp[hs];omega
 ·simp only[X18,X17] at hi
  rw[Array.getElem?_extract]
  rw[if_pos (by omega)]
  exact hf _ (by omega)
 ·simp only[List.getElem_take,List.getElem_drop]
  exact hn _ _
 simp only[List.getElem_take,List.getElem_drop]
 exact h _ _
theorem Nj (hT:TabOk P T) :∀(n t:Nat) (x y:D) (vx vy:Value) (b:Bool),RepD S w x vx->RepD S w y vy->eqD T n t x y=some b->∀d,n<=d->(Op.equalIn d t vx vy).run P w=.ok b w
 | 0,t,x,y,vx,vy,b,_,_,h,_,_=>by simp[eqD] at h
 | n + 1,t,x,y,vx,vy,b,hx,hy,h,d,hd=>by
  obtain⟨d,rfl⟩ :∃d',d=d' + 1:=⟨d - 1,by omega⟩
  have hcl:(T.get t).kind.cls≠none:=by
   intro hc
   cases hk:(T.get t).kind<;>simp[hk,TK.cls] at hc
   simp[eqD,hk] at h
  have hti:=hT.of hcl
  have hkind:=hti.kind
  unfold eqD at h
  split at h
  ·rename_i hk
   rw[hk] at hkind
   simp only[X24] at h
   subst h
   cases hx;cases hy
   exact run_equalIn_bool' w d t _ _ hkind
  ·rename_i hk
   rw[hk] at hkind
   split at h
   ·rename_i hkk
    subst hkk
    simp only[X24] at h
    subst h
    cases hx;cases hy
    exact run_equalIn_int w d t _ _ _ _ hkind
   simp at h
  ·rename_i hk
   rw[hk] at hkind
   simp only[X24] at h
   subst h
   cases hx;cases hy
   exact run_equalIn_string w d t _ _ hkind
  ·rename_i fs xs ys hk
   rw[hk] at hkind
   obtain⟨h1,h2,h3,h4,h5⟩:=hkind.structF
   cases hx with | agg _ vxs f hs hf hn hr=>
   cases hy with | agg _ vys g hs' hf' hn' hr'=>
   rw[run_equalIn_struct w d t _ _ h3 h1]
   have key : ∀ (F : List Field) (fs : List (Nat × Nat × Nat)) (b : Bool), F.map (fun f => (f.offset, (P.info? f.type).map (·.size), f.type)) = fs.map (fun x => (x.1, some x.2.1, x.2.2)) → (∀ f ∈ F, f.name ≠ "_") →
     eqD.eqFs (eqD T n) T fs xs ys=some b->(Op.eqFields d vxs vys F).run P w=.ok b w:=by
    intro F
    induction F with
    | nil=>
     intro fs b hm _ he
     cases fs with
     | nil=>simp[eqD.eqFs] at he;subst he;rfl
     | cons=>simp at hm
    | cons fl F ih=>
     intro fs b hm hnm he
     cases fs with
     | nil=>simp at hm
     | cons q fs=>
      obtain⟨o,s,ft⟩:=q
      simp only[List.map_cons,List.cons.injEq,X26] at hm
      obtain⟨⟨hm1,hm2,hm3⟩,hm4⟩:=hm
      simp only[eqD.eqFs] at he
      have hftc:(T.get ft).kind.cls≠none:=by intro hc;simp[hc] at he
      have htf:=hT.of hftc
      have hne : fl.name ≠ "_" := hnm fl (by simp)
      have step :∀c,(∃u1 u2,(part fl.type vxs fl.offset).run P w=.ok u1 w/\(part fl.type vys fl.offset).run P w=.ok u2 w/\(Op.equalIn d fl.type u1 u2).run P w=.ok c w)->
        ∀b',eqD.eqFs (eqD T n) T fs xs ys=some b'->(Op.eqFields d vxs vys (fl::F)).run P w=.ok (c&&b') w:=by
       rintro c ⟨u1,u2,r1,r2,r3⟩ b' hb'
       have:=ih fs b' hm4 (fun f hf=>hnm f (by simp[hf])) hb'
       simp only[Op.eqFields,if_pos hne,Sem.run_bind,r1,r2,r3,Result.andThen_ok]
       cases c<;>simp[this]
      cases hcl2:(T.get ft).kind.cls with
      | none=>exact absurd hcl2 hftc
      | some q=>
       cases q with
       | true=>
        simp only[hcl2] at he
        cases he1:eqD T n ft (.agg ((xs.drop o).take s)) (.agg ((ys.drop o).take s)) with
        | none=>simp[he1] at he
        | some c=>
         simp only[he1] at he
         cases he2:eqD.eqFs (eqD T n) T fs xs ys with
         | none=>simp[he2] at he
         | some b'=>
          simp only[he2,X24] at he
          subst he
          have hsz:(T.get ft).size=s:=by
           have:=htf.info1
           rw[<- hm3,hm2] at this
           rw[<- hm3]
           exact (X25 this).symm
          refine step c ⟨.agg (vxs.extract o (o + s)),.agg (vys.extract o (o + s)),?_,?_,?_⟩ b' he2
          ·rw[hm3,hm1,<- hsz];exact Iu htf hcl2
          ·rw[hm3,hm1,<- hsz];exact Iu htf hcl2
          rw[hm3]
          exact Nj hT n ft _ _ _ _ c (N1 f hs hf hn hr o s) (N1 g hs' hf' hn' hr' o s) he1 d (by omega)
       | false=>
        simp only[hcl2] at he
        obtain⟨dd,hu,hdd⟩:=htf.kind.plain hcl2
        cases hx1:xs[o]? with
        | none=>simp[hx1] at he
        | some x1=>
         cases hy1:ys[o]? with
         | none=>simp[hx1,hy1] at he
         | some y1=>
          simp only[hx1,hy1] at he
          cases he1:eqD T n ft x1 y1 with
          | none=>simp[he1] at he
          | some c=>
           simp only[he1] at he
           cases he2:eqD.eqFs (eqD T n) T fs xs ys with
           | none=>simp[he2] at he
           | some b'=>
            simp only[he2,X24] at he
            subst he
            obtain⟨p1,p2⟩:=X16.1 hx1
            obtain⟨q1,q2⟩:=X16.1 hy1
            refine step c ⟨f o,g o,?_,?_,?_⟩ b' he2
            ·rw[hm1,hm3];exact run_part_plain hu hdd (hf o p1)
            ·rw[hm1,hm3];exact run_part_plain hu hdd (hf' o q1)
            rw[hm3]
            exact Nj hT n ft _ _ _ _ c (p2 ▸ hr o p1) (q2 ▸ hr' o q1) he1 d (by omega)
   exact key _ fs b h4 h5 h
  simp at h
theorem WW (hT:TabOk P T) {t:Nat} {x y:D} {vx vy:Value} {b:Bool} {ox oy:Operand} (hx:RepD S w x vx) (hy:RepD S w y vy) (h:eqD T 9 t x y=some b) :
  (do eqGuard .eql t ox oy vx vy;binOp .eql t vx vy:Sem Value).run P w=.ok (.bool b) w/\(do eqGuard .neq t ox oy vx vy;binOp .neq t vx vy:Sem Value).run P w=.ok (.bool !b) w:=by
 have heq:=Nj hT 9 t x y vx vy b hx hy h 10000 (by omega)
 have hcl:(T.get t).kind.cls≠none:=by
  intro hc
  cases hk:(T.get t).kind<;>simp[hk,TK.cls] at hc
  simp[eqD,hk] at h
 have hkind:=(hT.of hcl).kind
 unfold eqD at h
 split at h
 ·cases hx;cases hy
  simp[TW,binOp,Op.equal,Op.maxDepth,heq]
 ·split at h
  ·rename_i hkk
   subst hkk
   cases hx;cases hy
   simp only[X24] at h
   subst h
   simp[BA,binOp,Op.intCmp,bne]
  simp at h
 ·cases hx;cases hy
  simp only[X24] at h
  subst h
  simp[FV,binOp,Op.stringOp]
 ·rename_i hk
  rw[hk] at hkind
  obtain⟨h1,h2,h3,h4,h5⟩:=hkind.structF
  cases hx;cases hy
  constructor
  ·rw[Sem.run_bind,run_eqGuard_agg w .eql t ox oy _ _ h2,Result.andThen_ok,run_eql_struct,heq,Result.andThen_ok]
  rw[Sem.run_bind,run_eqGuard_agg w .neq t ox oy _ _ h2,Result.andThen_ok,run_neq_struct,heq,Result.andThen_ok]
 simp at h
theorem WG (hT:TabOk P T) {op:BinOp} {t:Nat} {x y:AV} {vx vy:Value} {ox oy:Operand} {K:AV->Prop} (hx:RepA S w φ ob x vx) (hy:RepA S w φ ob y vy) (h:X9 T op t x y K) :
  FW K ((do eqGuard op t ox oy vx vy;binOp op t vx vy:Sem Value).run P w) w:=by
 rw[WX] at h
 unfold Wg at h
 split at h
 ·obtain rfl:=hx.int;obtain rfl:=hy.int
  obtain⟨h1,r,rfl,hK⟩:=h
  refine⟨_,rfl,hK,?_⟩
  simp[BA,binOp,Op.shift,Int.not_lt.2 h1]
 ·obtain rfl:=hx.int;obtain rfl:=hy.int
  obtain⟨h1,r,rfl,hK⟩:=h
  refine⟨_,rfl,hK,?_⟩
  simp[BA,binOp,Op.shift,Int.not_lt.2 h1]
 ·obtain rfl:=hx.str;obtain rfl:=hy.str
  exact⟨_,rfl,h,by simp[FV,binOp,Op.stringOp]⟩
 ·obtain rfl:=hx.str;obtain rfl:=hy.str
  exact⟨_,rfl,h,by simp[FV,binOp,Op.stringOp]⟩
 ·obtain rfl:=hx.str;obtain rfl:=hy.str
  rename_i a b
  refine⟨_,rfl,h.2,?_⟩
  have:¬ (((a.size + b.size:Nat):Int) > IntKind.i64.max):=by
   have h1:=h.1
   have:IntKind.i64.max=9223372036854775807:=by decide
   rw[this]
   omega
  simp only[Sem.run_bind,FV,Result.andThen_ok,binOp,Op.stringOp,if_neg this,Sem.run_pure]
 ·obtain rfl:=hx.str;obtain rfl:=hy.str
  exact⟨_,rfl,h,by simp[FV,binOp,Op.stringOp]⟩
 ·obtain rfl:=hx.str;obtain rfl:=hy.str
  exact⟨_,rfl,h,by simp[FV,binOp,Op.stringOp]⟩
 ·obtain rfl:=hx.int;obtain rfl:=hy.int
  simp only[AH,decide_eq_true_eq] at h
  obtain⟨rfl,h⟩:=h
  cases op<;>simp only at h
  case add=>obtain⟨r,rfl,hK⟩:=h;exact⟨_,rfl,hK,by simp[BA,binOp,Op.intArith]⟩
  case sub=>obtain⟨r,rfl,hK⟩:=h;exact⟨_,rfl,hK,by simp[BA,binOp,Op.intArith]⟩
  case mul=>obtain⟨r,rfl,hK⟩:=h;exact⟨_,rfl,hK,by simp[BA,binOp,Op.intArith]⟩
  case quo=>obtain⟨h0,r,rfl,hK⟩:=h;exact⟨_,rfl,hK,by simp[BA,binOp,Op.intDiv,h0]⟩
  case rem=>obtain⟨h0,r,rfl,hK⟩:=h;exact⟨_,rfl,hK,by simp[BA,binOp,Op.intDiv,h0]⟩
  case and=>obtain⟨r,rfl,hK⟩:=h;exact⟨_,rfl,hK,by simp[BA,binOp,Op.intBits]⟩
  case or=>obtain⟨r,rfl,hK⟩:=h;exact⟨_,rfl,hK,by simp[BA,binOp,Op.intBits]⟩
  case xor=>obtain⟨r,rfl,hK⟩:=h;exact⟨_,rfl,hK,by simp[BA,binOp,Op.intBits]⟩
  case andNot=>obtain⟨r,rfl,hK⟩:=h;exact⟨_,rfl,hK,by simp[BA,binOp,Op.intBits]⟩
  case eql=>exact⟨_,rfl,h,by simp[BA,binOp,Op.intCmp]⟩
  case neq=>exact⟨_,rfl,h,by simp[BA,binOp,Op.intCmp]⟩
  case lss=>exact⟨_,rfl,h,by simp[BA,binOp,Op.intCmp]⟩
  case leq=>exact⟨_,rfl,h,by simp[BA,binOp,Op.intCmp]⟩
  case gtr=>exact⟨_,rfl,h,by simp[BA,binOp,Op.intCmp]⟩
  case geq=>exact⟨_,rfl,h,by simp[BA,binOp,Op.intCmp]⟩
  all_goals exact h.elim
 ·cases hx with | d _ _ hx=>cases hy with | d _ _ hy=>
  split at h
  ·rename_i b he;exact⟨_,rfl,h,(WW hT hx hy he).1⟩
  exact h.elim
 ·cases hx with | d _ _ hx=>cases hy with | d _ _ hy=>
  split at h
  ·rename_i b he;exact⟨_,rfl,h,(WW hT hx hy he).2⟩
  exact h.elim
 exact h.elim
theorem Xo {op:UnOp} {x:AV} {vx:Value} {K:AV->Prop} (hx:RepA S w φ ob x vx) (h:unK op x K):FW K ((Op.unary op vx).run P w) w:=by
 unfold unK at h
 split at h
 ·obtain rfl:=hx.bool;exact⟨_,rfl,h,rfl⟩
 ·obtain rfl:=hx.int;obtain⟨r,rfl,hK⟩:=h;exact⟨_,rfl,hK,rfl⟩
 exact h.elim
theorem Vq (hT:TabOk P T) {t ty:Nat} {x:AV} {vx:Value} {K:AV->Prop} (hx:RepA S w φ ob x vx) (h:V7 T t x K) :
  FW K ((Builtin.len_ #[t] ty #[vx]).run P w) w:=by
 have hcl:(T.get t).kind.cls≠none:=by
  intro hc
  cases hk:(T.get t).kind<;>simp[hk,TK.cls] at hc
  simp[V7,hk] at h
 have hti:=(hT.of hcl).kind
 unfold V7 at h
 split at h
 ·rename_i hk
  rw[hk] at hti
  simp only[KindOk] at hti
  cases hx with | d _ _ hx=>
  obtain⟨n,hn,h⟩:=h
  cases hx with
  | lst0=>exact⟨_,rfl,h,by subst hn;simp[Builtin.len_,run_underlying hti,goInt]⟩
  | lst=>exact⟨_,rfl,h,by subst hn;simp[Builtin.len_,run_underlying hti,goInt]⟩
 ·rename_i hk
  rw[hk] at hti
  simp only[KindOk] at hti
  cases hx with | d _ _ hx=>
  cases hx with
  | nil=>exact⟨_,rfl,h,by simp[Builtin.len_,run_underlying hti,goInt]⟩
 ·rename_i hk
  rw[hk] at hti
  simp only[KindOk] at hti
  obtain⟨n,hn,h⟩:=h
  cases hx with | own _ _ _ k c a0 hv hkn _ _=>
  subst hv hkn hn
  exact⟨_,rfl,h,by simp[Builtin.len_,run_underlying hti,goInt]⟩
 ·rename_i hk
  rw[hk] at hti
  simp only[KindOk] at hti
  obtain⟨n,hn,h⟩:=h
  cases hx with | osl _ _ _ _ _ k c a0 hv hkn _=>
  subst hv hkn hn
  exact⟨_,rfl,h,by simp[Builtin.len_,run_underlying hti,goInt]⟩
 ·rename_i hk
  rw[hk] at hti
  simp only[KindOk] at hti
  obtain rfl:=hx.str
  exact⟨_,rfl,h,by simp[Builtin.len_,run_underlying hti,goInt]⟩
 ·rename_i hk
  rw[hk] at hti
  simp only[KindOk] at hti
  exact⟨_,rfl,h,by simp[Builtin.len_,run_underlying hti,goInt]⟩
 exact h.elim
theorem V4 {x y:AV} {vx vy:Value} {K:AV->Prop} (hx:RepA S w φ ob x vx) (hy:RepA S w φ ob y vy) (h:Xb [x,y] K) (ts:Array Nat) (ty:Nat):FW K ((Builtin.max_ ts ty #[vx,vy]).run P w) w:=by
 unfold Xb at h
 split at h
 ·rename_i heq
  simp only[List.cons.injEq,and_true] at heq
  obtain⟨rfl,rfl⟩:=heq
  obtain rfl:=hx.int;obtain rfl:=hy.int
  obtain⟨r,rfl,hK⟩:=h
  exact⟨_,rfl,hK,by simp[Builtin.max_,Builtin.max2]⟩
 exact h.elim
theorem Vm {x y:AV} {vx vy:Value} {K:AV->Prop} (hx:RepA S w φ ob x vx) (hy:RepA S w φ ob y vy) (h:Xs [x,y] K) (ts:Array Nat) (ty:Nat):FW K ((Builtin.min_ ts ty #[vx,vy]).run P w) w:=by
 unfold Xs at h
 split at h
 ·rename_i heq
  simp only[List.cons.injEq,and_true] at heq
  obtain⟨rfl,rfl⟩:=heq
  obtain rfl:=hx.int;obtain rfl:=hy.int
  obtain⟨r,rfl,hK⟩:=h
  exact⟨_,rfl,hK,by simp[Builtin.min_,Builtin.min2]⟩
 exact h.elim
end
end Go.AX
end
section
namespace Go.AX
section
variable {P:Program} {T:TT} {E:Env} {w:World} {S:Sc} {φ:Nat->Option (Nat×Rp)} {ob:Nat->Option OB}
theorem Mem.drew (m:Mem E w S φ ob):Mem E w.drew S φ ob/\Kept w S φ ob w.drew S φ ob:=by
 have hk:Kept w S φ ob w.drew S φ ob:=⟨fun _ _ h=>⟨h,rfl⟩,fun r _=>.refl φ ob r,fun _ h=>h⟩
 exact⟨⟨fun r o h=>(m.obj r o h).keep hk rfl (fun _ _ _=>⟨rfl,fun _ h=>h⟩) (m.men r o h),m.inj,m.men,m.sS,m.kS,m.bS,m.nS,m.fr,m.sz,m.ow,⟨m.os.1,m.os.2.1,m.os.2.2.1,m.os.2.2.2.imp_right fun h=>Nat.le_trans h (Nat.le_succ _)⟩⟩,hk⟩
structure SrcV (S:Sc) (w:World) (sz:Nat) (ys:List D) (v:Value):Prop where
 hsz :∀i (hi:i<ys.length),ys[i].cells.length=sz
 na :∀i (hi:i<ys.length) j (hj:j<ys[i].cells.length),ys[i].cells[j].isAgg=false
 v:((∃a c,v=.slice a 0 c)/\ys=[]) \/∃b o cap,∃f:Nat->Nat->Value,v=.slice (some ⟨b,o,none⟩) ys.length cap/\(∀i j,i<ys.length->j<sz->cellAt w b (o + i * sz + j)=some (f i j))/\
  ∀i (hi:i<ys.length) j (hj:j<ys[i].cells.length),RepD S w ys[i].cells[j] (f i j)
theorem Us {obl:List (Option OB)} (m:Mem E w S φ (fun r=>obl.getD r none)) {y:AV} {v:Value} {K:Nat->List D->Prop} (hy:RepA S w φ (fun r=>obl.getD r none) y v) (h:RY obl y K) :
  ∃sz ys,K sz ys/\SrcV S w sz ys v:=by
 unfold RY at h
 split at h
 ·rename_i sz es
  refine⟨sz,es,h,?_⟩
  cases hy with | d _ _ hy=>
  cases hy with
  | lst0=>exact⟨fun i hi=>by simp at hi,fun i hi=>by simp at hi,.inl ⟨⟨_,_,rfl⟩,rfl⟩⟩
  | lst _ _ b o cap f hl hc hsz hS hn hr=>exact⟨hsz,hn,.inr ⟨b,o,cap,f,rfl,fun i j hi hj=>(hS i j hi hj).2,hr⟩⟩
 ·rename_i sz
  refine⟨sz,[],h,?_⟩
  cases hy with | d _ _ hy=>
  cases hy with
  | nil=>exact⟨fun i hi=>by simp at hi,fun i hi=>by simp at hi,.inl ⟨⟨_,_,rfl⟩,rfl⟩⟩
 ·rename_i r n
  rw[Ar] at h
  obtain⟨o,ho,h⟩:=h
  cases o with
  | box=>simp at h
  | map=>simp at h
  | amap=>simp at h
  | gone=>simp at h
  | row e sz es frz=>
   simp only at h
   refine⟨sz,es,h.2,?_⟩
   obtain⟨g0,g1,g2,g3⟩:=m.obj r _ ho
   cases hy with | own _ _ _ k c a0 hv hk h1 hb=>
   obtain⟨_,h2⟩:=h1 e sz es frz ho
   rcases h2 h.1 with ⟨a1,a2,_,rfl⟩|⟨b,cap,a1,rfl⟩
   ·exact⟨g1,g2,.inl ⟨⟨_,_,rfl⟩,List.eq_nil_of_length_eq_zero (by omega)⟩⟩
   rcases g3 with ⟨f1,_⟩|⟨b',cap',vs,f,f1,f2,f3,f4,f5,f6,f7,f8⟩
   ·rw[f1] at a1;simp at a1
   rw[f1] at a1
   simp only[X24,X26] at a1
   obtain⟨rfl,rfl⟩:=a1
   exact⟨g1,g2,.inr ⟨b',cap'.2,cap'.1,f,by rw[h.1],fun i j hi hj=>by rw[BH f2,Nat.add_assoc];exact f6 i j hi hj,f7⟩⟩
 exact h.elim
theorem Iy {obl:List (Option OB)} (m:Mem E w S φ (fun r=>obl.getD r none)) {y:AV} {v:Value} {K:Nat->List D->Prop} (hy:RepA S w φ (fun r=>obl.getD r none) y v) (h:TL obl y K) :
  ∃sz ys,K sz ys/\SrcV S w sz ys v:=by
 unfold TL at h
 split at h
 ·rename_i r a n k
  rw[Ar] at h
  obtain⟨o,ho,h⟩:=h
  cases o with
  | box=>simp at h
  | map=>simp at h
  | amap=>simp at h
  | gone=>simp at h
  | row e sz es frz=>
   simp only at h
   obtain⟨hm,zs,hzs,hK⟩:=h
   obtain⟨g0,g1,g2,g3⟩:=m.obj r _ ho
   cases hy with | osl _ _ _ _ _ k c a0 hv hk h1=>
   obtain⟨q1,q2,_⟩:=(h1 e sz es frz ho).2 hm
   have hlen:zs.length=n:=by rw[<- hzs];simp;omega
   have hget :∀i (hi:i<zs.length),zs[i]=es[a + i]'(by omega):=fun i hi=>by subst hzs;simp
   refine⟨sz,zs,hK,fun i hi=>by rw[hget i hi];exact g1 _ _,fun i hi j hj=>by
    have:=hget i hi
    simp only[this] at hj ⊢
    exact g2 _ _ j hj,?_⟩
   rcases q2 with q2 | ⟨b,cap,c',q2,q3,_⟩
   ·have:zs=[]:=List.eq_nil_of_length_eq_zero (by omega)
    exact .inl ⟨⟨a0,c,by rw[hv,hk,q2]⟩,this⟩
   rcases g3 with ⟨f1,_⟩|⟨b',cap',vs,f,f1,f2,f3,f4,f5,f6,f7,f8⟩
   ·rw[f1] at q2;simp at q2
   rw[f1] at q2
   simp only[X24,X26] at q2
   obtain⟨rfl,rfl⟩:=q2
   refine .inr ⟨b',cap'.2 + a * sz,c',fun i j=>f (a + i) j,by rw[q3,hlen],fun i j hi hj=>?_,fun i hi j hj=>?_⟩
   ·rw[BH f2,show cap'.2 + a * sz + i * sz + j=cap'.2 + ((a + i) * sz + j) by rw[X32];omega]
    exact f6 (a + i) j (by omega) hj
   have:=hget i hi
   simp only[this] at hj ⊢
   exact f7 (a + i) (by omega) j hj
 exact Us m hy h
def flat (n sz:Nat) (f:Nat->Nat->Value):List Value:=(List.range (n * sz)).map fun k=>f (k / sz) (k % sz)
theorem flat_length (n sz:Nat) (f:Nat->Nat->Value):(flat n sz f).length=n * sz:=by simp[flat]
theorem flat_get {n sz:Nat} (f:Nat->Nat->Value) {i j:Nat} (hi:i<n) (hj:j<sz):(flat n sz f)[i * sz + j]?=some (f i j):=by
 have:i * sz + j<n * sz:=by
  have:(i + 1) * sz<=n * sz:=X31 _ hi
  rw[X32] at this
  omega
 have hsz:0<sz:=by omega
 have h1:(i * sz + j) / sz=i:=by
  rw[Nat.mul_comm,Nat.mul_add_div hsz,Nat.div_eq_of_lt hj,Nat.add_zero]
 have h2:(i * sz + j) % sz=j:=by
  rw[Nat.mul_comm,Nat.mul_add_mod,Nat.mod_eq_of_lt hj]
 simp[flat,this,h1,h2]
theorem KC {n sz:Nat} {f:Nat->Nat->Value} {g:Nat->Option Value} (h :∀i j,i<n->j<sz->g (i * sz + j)=some (f i j)) :∀k v,(flat n sz f)[k]?=some v->g k=some v:=by
 intro k v hv
 obtain⟨hk,rfl⟩:=X16.1 hv
 rw[flat_length] at hk
 have hsz:0<sz:=by
  rcases Nat.eq_zero_or_pos sz with h | h
  ·subst h;simp at hk
  exact h
 have h1:k / sz<n:=Nat.div_lt_of_lt_mul (by rw[Nat.mul_comm];exact hk)
 have h2:k % sz<sz:=Nat.mod_lt _ hsz
 have h3:k / sz * sz + k % sz=k:=by rw[Nat.mul_comm];exact Nat.div_add_mod k sz
 have:=h _ _ h1 h2
 rw[h3] at this
 simp[flat,this]
theorem SrcV.one {sz n:Nat} {ys:List D} {f:Nat->Nat->Value} (hn:n=ys.length) (h1 :∀i (hi:i<ys.length),ys[i].cells.length=sz) (h2 :∀i (hi:i<ys.length) j (hj:j<ys[i].cells.length),ys[i].cells[j].isAgg=false)
  (h3 :∀i (hi:i<ys.length) j (hj:j<ys[i].cells.length),RepD S w ys[i].cells[j] (f i j)) :∀u ∈ flat n sz f,u.oneCell'=true:=by
 intro u hu
 obtain⟨k,hk,rfl⟩:=List.getElem_of_mem hu
 rw[flat_length] at hk
 have hsz:0<sz:=by
  rcases Nat.eq_zero_or_pos sz with h | h
  ·subst h;simp at hk
  exact h
 have g1:k / sz<ys.length:=by rw[<- hn];exact Nat.div_lt_of_lt_mul (by rw[Nat.mul_comm];exact hk)
 have g2:k % sz<ys[k / sz].cells.length:=by rw[h1];exact Nat.mod_lt _ hsz
 have:=(h3 _ g1 _ g2).one (h2 _ g1 _ g2)
 simpa[flat] using this
theorem PO {es ys:List D} {sz:Nat} (h1 :∀i (hi:i<es.length),es[i].cells.length=sz) (h2 :∀i (hi:i<ys.length),ys[i].cells.length=sz) :
  ∀i (hi:i<(es++ys).length),(es++ys)[i].cells.length=sz:=by
 intro i hi
 rw[List.getElem_append]
 split
 ·exact h1 _ _
 exact h2 _ _
theorem JD {t ty e:Nat} (ht:P.underlying t=some (.slice e)) {i:TypeInfo} (hi:P.info? e=some i) (a:Option Addr) (n c:Nat) (hn:n<=c) {a2:Option Addr} {c2:Nat} :
  (Builtin.append_ #[t,t] ty #[.slice a n c,.slice a2 0 c2]).run P w=.ok (.slice a n c) w:=by
 cases a<;>cases a2<;>simp[Builtin.append_,run_underlying ht,sizeOf,typeInfo,hi,Builtin.lenOf,hn,Builtin.firstCells,storeCells,loadCells,loadCellsFrom]
theorem LZ (t ty e:TypeId) (i:TypeInfo) (ht:P.underlying t=some (.slice e)) (hi:P.info? e=some i)
  (g o sLen sCap:Nat) (cur:Array Value) (hg:w.heap[g]?=some (.cells cur e (0,0)))
  (a:Addr) (m c:Nat) (news:List Value) (hl:news.length=m * i.size) (hnews :∀j u,news[j]?=some u->w.cell? (a.add j)=some u) (h1 :∀u ∈ news,u.oneCell'=true)
  (hroom:sLen + m<=sCap) (hfit:o + sLen * i.size + news.length<=cur.size) :
  (Builtin.append_ #[t,t] ty #[.slice (some ⟨g,o,none⟩) sLen sCap,.slice (some a) m c]).run P w =
   .ok (.slice (some ⟨g,o,none⟩) (sLen + m) sCap) (w.setRow g (cur.toList.take (o + sLen * i.size)++news++cur.toList.drop (o + sLen * i.size + news.length)).toArray):=by
 have hf:=run_firstCells_some (P:=P) w i.size m a m c news hl hnews
 have hst:=run_storeCells_at P g (o + sLen * i.size) e news 0 cur w hg (by simpa using hfit) h1
 simp only[Nat.add_zero] at hst
 simp[Builtin.append_,run_underlying ht,sizeOf,typeInfo,hi,Builtin.lenOf,hroom,hf,Addr.add_lit,hst]
theorem Mem.fz (m:Mem E w S φ ob) {r e sz:Nat} {es:List D} {f f':FZ} (ho:ob r=some (.row e sz es f)) (hf:f'.frozen=f.frozen) (hq :∀q ∈ f'.refs,ob q≠none) (hl :∀i j q n,f'=.lk i j q n->es.length<=i\/f=.lk i j q n) :
  Mem E w S φ (upd ob r (some (.row e sz es f')))/\Kept w S φ ob w S φ (upd ob r (some (.row e sz es f'))):=by
 obtain⟨g0,g1,g2,g3⟩:=m.obj r _ ho
 have:=m.set r _ (.row e sz es f') w (φ r) ho (fun _ _ _=>rfl) (Nat.le_refl _) ⟨rfl,rfl,rfl,Nat.le_refl _⟩ (fun _ _ _ _ _=>rfl) (.inl rfl) (.inl ⟨upd_same _ _ _,by simp[ho,hdr],fun ⟨cs,h⟩=>by simp at h⟩) hq fun hk=>by
  refine⟨g0,g1,g2,g3.imp (fun h=>⟨by rw[upd_same];exact h.1,h.2⟩) ?_⟩
  rintro⟨b,cap,vs,g,f1,f2,f3,f4,f5,f6,f7,f8⟩
  refine⟨b,cap,vs,g,by rw[upd_same];exact f1,f2,f3,f4,f5,f6,fun i hi j hj=>(f7 i hi j hj).mono hk.k,fun o h=>f8.1 o (by rw[hf] at h;exact h),fun i j q n h hi hj=>?_⟩
  rcases hl i j q n h with h' | h'
  ·omega
  exact hk.rep (fun q' hq'=>hq q' (by rw[h];simpa[AV.refs] using hq')) (f8.2 i j q n h' hi hj)
 have hu:upd φ r (φ r)=φ:=by funext i;by_cases hi:i=r<;>simp[upd,hi]
 rw[hu] at this
 exact this
structure ApRun (P:Program) (w:World) (t u ty e:Nat) (z:Value) (i:TypeInfo) (sz n:Nat) (f:Nat->Nat->Value) (vy:Value):Prop where
 nop:n=0->∀(a:Option Addr) (m c:Nat),m<=c->(Builtin.append_ #[t,u] ty #[.slice a m c,vy]).run P w=.ok (.slice a m c) w
 new:0<n->∀(a0:Option Addr),n * i.bytes<=281474976710656->(Builtin.append_ #[t,u] ty #[.slice a0 0 0,vy]).run P w =
  .ok (.slice (some ⟨w.heap.size,0,none⟩) n (grownCap w n 0 e)) (w.drew.alloc (.cells ((flat n sz f).toArray++Builtin.zeroCells z.cells (grownCap w n 0 e - n)) e))
 room:0<n->∀(g o sLen sCap:Nat) (cur:Array Value),w.heap[g]?=some (.cells cur e (0,0))->sLen + n<=sCap->o + sLen * sz + n * sz<=cur.size->
  (Builtin.append_ #[t,u] ty #[.slice (some ⟨g,o,none⟩) sLen sCap,vy]).run P w=.ok (.slice (some ⟨g,o,none⟩) (sLen + n) sCap) (w.setRow g (cur.toList.take (o + sLen * sz)++flat n sz f++cur.toList.drop (o + sLen * sz + (flat n sz f).length)).toArray)
 grow:0<n->∀(b:Addr) (sLen sCap:Nat) (olds:List Value),olds.length=sLen * sz->(∀j v,olds[j]?=some v->w.cell? (b.add j)=some v)->sCap<sLen + n->((sLen + n:Nat):Int)<=9223372036854775807->Builtin.nextslicecap (sLen + n) sCap * i.bytes<=281474976710656->
  (Builtin.append_ #[t,u] ty #[.slice (some b) sLen sCap,vy]).run P w=.ok (.slice (some ⟨w.heap.size,0,none⟩) (sLen + n) (grownCap w (sLen + n) sCap e))
   (w.drew.alloc (.cells (olds.toArray++(flat n sz f).toArray++Builtin.zeroCells z.cells (grownCap w (sLen + n) sCap e - (sLen + n))) e))
theorem It (m:Mem E w S φ ob) {t u ty e:Nat} {tie:TI} (hte:TiOk P e tie) (ht:P.underlying t=some (.slice e)) {r sz:Nat} {es ys:List D} {frz fz':FZ} (hfz:fz'.frozen=frz.frozen) (ho:ob r=some (.row e sz es frz)) {vx vy:Value}
  (hv:Hm φ r es.length vx) {f:Nat->Nat->Value} (hysz :∀i (hi:i<ys.length),ys[i].cells.length=sz) (hyna :∀i (hi:i<ys.length) j (hj:j<ys[i].cells.length),ys[i].cells[j].isAgg=false) (hr :∀i (hi:i<ys.length) j (hj:j<ys[i].cells.length),RepD S w ys[i].cells[j] (f i j)) (hy :∀{i z},P.info? e=some i->i.zero=some z->ApRun P w t u ty e z i sz ys.length f vy) (hlk :∀i j q n,fz'=.lk i j q n->ob q≠none/\∃i0,i=es.length + i0/\(i0<ys.length->j<sz->RepA S w φ ob (.own q n) (f i0 j))) (hsz:tie.size=sz) (hb1:(es.length + ys.length) * tie.bytes<=2 ^ 47) (hb2:es.length + ys.length<=2 ^ 47) :
  ∃u' w' φ',(Builtin.append_ #[t,u] ty #[vx,vy]).run P w=.ok u' w'/\Mem E w' S φ' (upd ob r (some (.row e sz (es++ys) fz')))/\Kept w S φ ob w' S φ' (upd ob r (some (.row e sz (es++ys) fz')))/\Hm φ' r (es++ys).length u':=by
 obtain⟨i,z,hi,hi1,hi2,hz,hz1,hz2,_⟩:=hte.info
 rw[hsz] at hi1
 obtain⟨g0,g1,g2,g3⟩:=m.obj r _ ho
 have hr0:ob r≠none:=by simp[ho]
 have hrefs :∀q ∈ fz'.refs,ob q≠none:=by
  intro q hq
  cases hz:fz' with
  | no=>simp[hz] at hq
  | yes=>simp[hz] at hq
  | lk i j q' n=>
   simp only[hz,FZ.refs_lk,X14] at hq
   rw[hq];exact (hlk _ _ _ _ hz).1
 have same :∀(h:ys=[]),Mem E w S φ (upd ob r (some (.row e sz (es++ys) fz')))/\Kept w S φ ob w S φ (upd ob r (some (.row e sz (es++ys) fz'))):=by
  intro h;subst h
  rw[List.append_nil]
  refine m.fz ho hfz hrefs fun i j q n h=>.inl ?_
  obtain⟨_,i0,h1,_⟩:=hlk i j q n h
  omega
 have h46:(2:Nat) ^ 47=140737488355328:=by decide
 rw[h46] at hb1 hb2
 have hbytes:(es.length + ys.length) * i.bytes<=140737488355328:=by rw[hi2];omega
 have hmax :∀(c:Nat),grownCap w (es.length + ys.length) c e<=maxLen:=fun c=>grownCap_le_maxLen w _ c e (by simp only[maxLen];omega)
 have fresh :∀(xs:List Value) (c:Nat) (hc:c<es.length + ys.length) (hcl:es.length<=c) (f g:Nat->Nat->Value) (hxs:xs=flat es.length sz g)
   (hg :∀i (hi:i<es.length) j (hj:j<es[i].cells.length),RepD S w es[i].cells[j] (g i j))
   (hf :∀i (hi:i<ys.length) j (hj:j<ys[i].cells.length),RepD S w ys[i].cells[j] (f i j))
   (hfl :∀i j q n,fz'=.lk i j q n->i<(es++ys).length->j<sz->RepA S w φ ob (.own q n) (f (i - es.length) j)),
   ∃φ',Mem E (w.drew.alloc (.cells (xs.toArray++(flat ys.length sz f).toArray++Builtin.zeroCells z.cells (grownCap w (es.length + ys.length) c e - (es.length + ys.length))) e)) S φ' (upd ob r (some (.row e sz (es++ys) fz')))/\
    Kept w S φ ob (w.drew.alloc (.cells (xs.toArray++(flat ys.length sz f).toArray++Builtin.zeroCells z.cells (grownCap w (es.length + ys.length) c e - (es.length + ys.length))) e)) S φ' (upd ob r (some (.row e sz (es++ys) fz')))/\
    Hm φ' r (es++ys).length (.slice (some ⟨w.heap.size,0,none⟩) (es.length + ys.length) (grownCap w (es.length + ys.length) c e)):=by
  intro xs c hc hcl f g hxs hg hf hfl
  have hge:=grownCap_ge w (es.length + ys.length) c e
  obtain⟨md,kd⟩:=m.drew
  generalize hw':w.drew.alloc (.cells (xs.toArray++(flat ys.length sz f).toArray++Builtin.zeroCells z.cells (grownCap w (es.length + ys.length) c e - (es.length + ys.length))) e)=w'
  have hblk:w'.heap[w.heap.size]?=some (.cells (xs.toArray++(flat ys.length sz f).toArray++Builtin.zeroCells z.cells (grownCap w (es.length + ys.length) c e - (es.length + ys.length))) e (0,0)):=by
   rw[<- hw'];exact heap_alloc_new w.drew _
  have hold :∀k,k<w.heap.size->w'.heap[k]?=w.heap[k]?:=fun k hk=>by rw[<- hw'];exact F5 w.drew _ hk
  have hsize:w'.heap.size=w.heap.size + 1:=by rw[<- hw'];simp
  have hlen:((xs.toArray++(flat ys.length sz f).toArray++Builtin.zeroCells z.cells (grownCap w (es.length + ys.length) c e - (es.length + ys.length)))).size=grownCap w (es.length + ys.length) c e * sz:=by
   simp only[Array.size_append,List.size_toArray,size_zeroCells,hz1,hxs,flat_length,hsz]
   rw[<- X32,<- X32]
   congr 1
   omega
  obtain⟨m',k'⟩:=m.set r _ (.row e sz (es++ys) fz') w' (some (w.heap.size,(grownCap w (es.length + ys.length) c e,0))) ho (fun k hk _=>hold k hk) (by omega) (by rw[<- hw'];exact⟨rfl,rfl,rfl,Nat.le_succ _⟩)
   (fun b' c' o' hb' hS=>C3 (hold b' (m.bS b' o' hS)) o') (.inr ⟨_,_,rfl,Nat.le_refl _,by omega⟩)
   (.inr <| .inl ⟨e,sz,es,frz,es++ys,fz',ho,upd_same _ _ _,by simp,fun hh=>by
    have hy0:ys=[]:=by simpa using hh
    subst hy0
    simp at hc
    omega⟩) (fun r' hr'=>hrefs r' hr') (fun hk=>by
    refine⟨g0,PO g1 hysz,fun i hi j hj=>?_,.inr ⟨w.heap.size,(grownCap w (es.length + ys.length) c e,0),_,fun i j=>if i<es.length then g i j else f (i - es.length) j,upd_same _ _ _,hblk,by simpa using hge,hmax c,by rw[hlen];exact Nat.le_of_eq (Nat.zero_add _),fun i j hi hj=>?_,fun i hi j hj=>?_,fun o' _ ho'=>?_,fun i j q n hq hi hj=>?_⟩⟩
    ·have e1:(es++ys)[i]=if h:i<es.length then es[i] else ys[i - es.length]'(by simp at hi;omega):=List.getElem_append ..
     simp only[e1] at hj ⊢
     split at hj
     ·rename_i h;simp only[h,dif_pos];exact g2 i h j hj
     rename_i h;simp only[h,dif_neg,not_false_eq_true];exact hyna _ _ j hj
    ·simp only[X11] at hi
     simp only[Nat.zero_add]
     rw[Array.getElem?_append_left (by
      simp only[Array.size_append,List.size_toArray,hxs,flat_length,<- X32]
      have:(i + 1) * sz<=(es.length + ys.length) * sz:=X31 _ hi
      rw[X32] at this
      omega)]
     by_cases h:i<es.length
     ·simp only[if_pos h]
      rw[Array.getElem?_append_left (by
       simp only[List.size_toArray,hxs,flat_length]
       have:(i + 1) * sz<=es.length * sz:=X31 _ h
       rw[X32] at this
       omega)]
      simp only[hxs]
      simpa using flat_get g h hj
     have hle:es.length * sz<=i * sz:=X31 _ (by omega)
     simp only[if_neg h]
     rw[Array.getElem?_append_right (by simp only[List.size_toArray,hxs,flat_length];omega)]
     simp only[List.size_toArray,hxs,flat_length]
     have e2:i * sz + j - es.length * sz=(i - es.length) * sz + j:=by rw[Nat.sub_mul];omega
     rw[e2]
     simpa using flat_get f (show i - es.length<ys.length by omega) hj
    ·have e1:(es++ys)[i]=if h:i<es.length then es[i] else ys[i - es.length]'(by simp at hi;omega):=List.getElem_append ..
     simp only[e1] at hj ⊢
     split at hj
     ·rename_i h;simp only[h,dif_pos,if_true];exact (hg i h j hj).mono hk.k
     rename_i h;simp only[h,dif_neg,not_false_eq_true,if_false];exact (hf _ _ j hj).mono hk.k
    ·exact absurd (m.bS _ _ ho') (Nat.lt_irrefl _)
    obtain⟨h1,i0,h2,_⟩:=hlk i j q n hq
    simp only[if_neg (show ¬ i<es.length by omega)]
    exact hk.rep (fun q' hq'=>by simp only[AV.refs,X14] at hq';rw[hq'];exact h1) (hfl i j q n hq hi hj))
  exact⟨_,m',k',.inr ⟨_,_,upd_same _ _ _,by simp⟩⟩
 have lkf :∀i j q n,fz'=.lk i j q n->i<(es++ys).length->j<sz->RepA S w φ ob (.own q n) (f (i - es.length) j):=by
  intro i j q n hq hi hj
  obtain⟨_,i0,h2,h3⟩:=hlk i j q n hq
  simp only[X11] at hi
  have e:i - es.length=i0:=by omega
  rw[e]
  exact h3 (by omega) hj
 have hR:=hy hi hz
 by_cases hys:ys=[]
 ·refine⟨vx,w,φ,?_,(same hys).1,(same hys).2,?_⟩
  ·rcases hv with ⟨a1,a2,a0,rfl⟩|⟨b1,cap1,a1,rfl⟩
   ·exact hR.nop (by rw[hys];rfl) a0 0 0 (Nat.le_refl _)
   rcases g3 with ⟨f1,_⟩|⟨b',cap',cur,g,f1,f2,f3,_⟩
   ·rw[a1] at f1;simp at f1
   rw[a1] at f1
   simp only[X24,X26] at f1
   obtain⟨rfl,rfl⟩:=f1
   exact hR.nop (by rw[hys];rfl) _ _ _ f3
  rw[hys,List.append_nil]
  exact hv
 have hpos:0<ys.length:=List.length_pos_iff.2 hys
 rcases hv with ⟨a1,a2,a0,rfl⟩|⟨b1,cap1,a1,rfl⟩
 ·
  have hes:es=[]:=List.eq_nil_of_length_eq_zero a2
  have hby:ys.length * i.bytes<=281474976710656:=by rw[a2,Nat.zero_add] at hbytes;omega
  have hrun:=hR.new hpos a0 hby
  obtain⟨φ',h1,h2,h3⟩:=fresh [] 0 (by omega) (by omega) f (fun _ _=>undef) (by simp[hes,flat]) (fun i hi=>by simp[hes] at hi) hr lkf
  simp only[a2,Nat.zero_add] at h1 h2 h3
  exact⟨_,_,φ',hrun,by simpa using h1,by simpa using h2,h3⟩
 rcases g3 with ⟨f1,_⟩|⟨b',cap',cur,g,f1,f2,f3,f4,f5,f6,f7,f8⟩
 ·rw[a1] at f1;simp at f1
 rw[a1] at f1
 simp only[X24,X26] at f1
 obtain⟨rfl,rfl⟩:=f1
 by_cases hroom:es.length + ys.length<=cap1.1
 ·have hle:(es.length + ys.length) * sz<=cap1.1 * sz:=X31 _ hroom
  rw[X32] at hle
  have hrun:=hR.room hpos b1 cap1.2 es.length cap1.1 cur f2 hroom (by omega)
  have hov:(cur.toList.take (cap1.2 + es.length * sz)++flat ys.length sz f++cur.toList.drop (cap1.2 + es.length * sz + (flat ys.length sz f).length))=BG cur.toList (cap1.2 + es.length * sz) (flat ys.length sz f):=rfl
  rw[hov] at hrun
  have hov2:cap1.2 + es.length * sz + (flat ys.length sz f).length<=cur.toList.length:=by rw[flat_length];simp;omega
  obtain⟨q1,q2,q3⟩:=Gg w b1 (BG cur.toList (cap1.2 + es.length * sz) (flat ys.length sz f)).toArray
  have hh:=setRow_heap w b1 cur (BG cur.toList (cap1.2 + es.length * sz) (flat ys.length sz f)).toArray e (0,0) f2
  have hget :∀k,(BG cur.toList (cap1.2 + es.length * sz) (flat ys.length sz f)).toArray[k]?=if cap1.2 + es.length * sz<=k/\k<cap1.2 + es.length * sz + ys.length * sz then (flat ys.length sz f)[k - (cap1.2 + es.length * sz)]? else cur[k]?:=by
   intro k
   have:=D5 cur.toList (cap1.2 + es.length * sz) (flat ys.length sz f) hov2 k
   rw[flat_length] at this
   simpa using this
  have hS8 :∀o',S b1 o'->o'<cap1.2 + es.length * sz:=by
   intro o' ho'
   refine Nat.lt_of_not_le fun hge=>f8.1 o' ?_ ho'
   cases frz<;>simp
   exact hge
  obtain⟨m',k'⟩:=m.set r _ (.row e sz (es++ys) fz') (w.setRow b1 (BG cur.toList (cap1.2 + es.length * sz) (flat ys.length sz f)).toArray) (φ r) ho (fun k hk hne=>q1 k fun e=>hne cap1 (by rw[e];exact a1)) (by omega) q3
   (fun b2 c2 o2 hb2 hS2=>by
    rw[a1] at hb2
    simp only[X24,X26] at hb2
    obtain⟨rfl,rfl⟩:=hb2
    rw[BH hh,BH f2,hget,if_neg (by have:=hS8 o2 hS2;omega)]) (.inl rfl)
   (.inr <| .inl ⟨e,sz,es,frz,es++ys,fz',ho,upd_same _ _ _,by simp,fun _=>upd_same _ _ _⟩) (fun r' hr'=>hrefs r' hr') (fun hk=>by
    refine⟨g0,PO g1 hysz,fun i hi j hj=>?_,.inr ⟨b1,cap1,_,fun i j=>if i<es.length then g i j else f (i - es.length) j,by rw[upd_same];exact a1,hh,by simpa using hroom,f4,?_,fun i j hi hj=>?_,fun i hi j hj=>?_,fun o' ho1 ho'=>?_,fun i j q n hq hi hj=>?_⟩⟩
    ·have e1:(es++ys)[i]=if h:i<es.length then es[i] else ys[i - es.length]'(by simp at hi;omega):=List.getElem_append ..
     simp only[e1] at hj ⊢
     split at hj
     ·rename_i h;simp only[h,dif_pos];exact g2 i h j hj
     rename_i h;simp only[h,dif_neg,not_false_eq_true];exact hyna _ _ j hj
    ·rw[List.size_toArray,BU _ _ _ hov2];simpa using f5
    ·simp only[X11] at hi
     rw[hget]
     by_cases h:i<es.length
     ·have:(i + 1) * sz<=es.length * sz:=X31 _ h
      rw[X32] at this
      simp only[if_pos h]
      rw[if_neg (by omega)]
      exact f6 i j h hj
     have hle2:es.length * sz<=i * sz:=X31 _ (by omega)
     have hle3:(i + 1) * sz<=(es.length + ys.length) * sz:=X31 _ hi
     rw[X32,X32] at hle3
     simp only[if_neg h]
     rw[if_pos (by omega)]
     have e2:cap1.2 + (i * sz + j) - (cap1.2 + es.length * sz)=(i - es.length) * sz + j:=by rw[Nat.sub_mul];omega
     rw[e2]
     exact flat_get f (show i - es.length<ys.length by omega) hj
    ·have e1:(es++ys)[i]=if h:i<es.length then es[i] else ys[i - es.length]'(by simp at hi;omega):=List.getElem_append ..
     simp only[e1] at hj ⊢
     split at hj
     ·rename_i h;simp only[h,dif_pos,if_true];exact (f7 i h j hj).mono hk.k
     rename_i h;simp only[h,dif_neg,not_false_eq_true,if_false];exact (hr _ _ j hj).mono hk.k
    ·refine f8.1 o' ?_ ho'
     rw[hfz] at ho1
     cases frz with
     | no=>simp
     | lk=>simp
     | yes=>
      simp only[FZ.frozen_yes,if_true,X11,X32] at ho1 ⊢
      omega
    obtain⟨h1,i0,h2,_⟩:=hlk i j q n hq
    simp only[if_neg (show ¬ i<es.length by omega)]
    exact hk.rep (fun q' hq'=>by simp only[AV.refs,X14] at hq';rw[hq'];exact h1) (lkf i j q n hq hi hj))
  have hu:upd φ r (φ r)=φ:=by funext i;by_cases hi:i=r<;>simp[upd,hi]
  rw[hu] at m' k'
  exact⟨_,_,φ,hrun,m',k',.inr ⟨_,_,a1,by simp⟩⟩
 have holds :∀j v,(flat es.length sz g)[j]?=some v->w.cell? ((⟨b1,cap1.2,none⟩:Addr).add j)=some v:=
  KC (g:=fun k=>w.cell? ((⟨b1,cap1.2,none⟩:Addr).add k)) fun i j hi hj=>by
   rw[Addr.add_none]
   have:=f6 i j hi hj
   rw[<- BH f2] at this
   exact this
 have hrun:=hR.grow hpos ⟨b1,cap1.2,none⟩ es.length cap1.1 (flat es.length sz g) (flat_length _ _ _) holds (by omega) (by omega) (growslice_fits (by omega) hbytes)
 obtain⟨φ',h1,h2,h3⟩:=fresh (flat es.length sz g) cap1.1 (by omega) f3 f g rfl f7 hr lkf
 exact⟨_,_,φ',hrun,h1,h2,h3⟩
theorem J5 (m:Mem E w S φ ob) {t ty e:Nat} {tie:TI} (hte:TiOk P e tie) (ht:P.underlying t=some (.slice e)) {r sz:Nat} {es ys:List D} {frz fz':FZ} (hfz:fz'.frozen=frz.frozen) (ho:ob r=some (.row e sz es frz)) {vx vy:Value}
  (hv:Hm φ r es.length vx) (hy:SrcV S w sz ys vy) (hlk :∀i j q n,fz'=.lk i j q n->ob q≠none/\∃i0,i=es.length + i0/\∀b o l c u,vy=.slice (some ⟨b,o,none⟩) l c->i0<l->j<sz->cellAt w b (o + (i0 * sz + j))=some u->RepA S w φ ob (.own q n) u) (hsz:tie.size=sz) (hb1:(es.length + ys.length) * tie.bytes<=2 ^ 47) (hb2:es.length + ys.length<=2 ^ 47) :
  ∃u w' φ',(Builtin.append_ #[t,t] ty #[vx,vy]).run P w=.ok u w'/\Mem E w' S φ' (upd ob r (some (.row e sz (es++ys) fz')))/\Kept w S φ ob w' S φ' (upd ob r (some (.row e sz (es++ys) fz')))/\Hm φ' r (es++ys).length u:=by
 rcases hy.v with ⟨⟨a2,c2,rfl⟩,hys⟩|⟨b,o,cap,f,rfl,hc,hr⟩
 ·have h0:ys.length=0:=by rw[hys];rfl
  refine It (f:=fun _ _=>undef) m hte ht hfz ho hv hy.hsz hy.na (fun i hi=>by omega) (fun {i z} hi hz=>⟨fun _ a m c hmc=>JD ht hi a m c hmc,fun h=>by omega,fun h=>by omega,fun h=>by omega⟩) (fun i j q n h=>?_) hsz hb1 hb2
  obtain⟨l1,i0,l2,_⟩:=hlk i j q n h
  exact⟨l1,i0,l2,fun h=>by omega⟩
 refine It (f:=f) m hte ht hfz ho hv hy.hsz hy.na hr (fun {i z} hi hz=>?_) (fun i j q n h=>?_) hsz hb1 hb2
 ·obtain⟨i',z',hi',hi1,hi2,hz',hz1,hz2,_⟩:=hte.info
  rw[hi] at hi'
  cases hi'
  rw[hsz] at hi1
  have hnews :∀j v,(flat ys.length sz f)[j]?=some v->w.cell? ((⟨b,o,none⟩:Addr).add j)=some v:=
   KC (g:=fun k=>w.cell? ((⟨b,o,none⟩:Addr).add k)) fun i j hi hj=>by rw[Addr.add_none];have:=hc i j hi hj;rw[Nat.add_assoc] at this;exact this
  refine⟨fun h0 a m c hmc=>by rw[h0];exact JD ht hi a m c hmc,fun hpos a0 hby=>?_,fun hpos g o' sLen sCap cur hg hroom hfit=>?_,fun hpos q sLen sCap olds hlo holds hg h63 hfit=>?_⟩
  ·cases a0 with
   | none=>exact run_append_nil (P:=P) w t ty e i z ht hi hz ⟨b,o,none⟩ ys.length cap (flat ys.length sz f) (by rw[flat_length,hi1]) hnews hpos (by omega) hby
   | some q=>
    have h:=run_append_grow (P:=P) w t ty e i z ht hi hz q 0 0 [] (by simp) (fun j v h=>by simp at h) ⟨b,o,none⟩ ys.length cap (flat ys.length sz f) (by rw[flat_length,hi1]) hnews (by omega) (by omega)
     (by rw[Nat.zero_add,nextslicecap_zero hpos];exact hby)
    simpa using h
  ·have h:=LZ (P:=P) (w:=w) t ty e i ht hi g o' sLen sCap cur hg ⟨b,o,none⟩ ys.length cap (flat ys.length sz f) (by rw[flat_length,hi1]) hnews (SrcV.one rfl hy.hsz hy.na hr) hroom (by rw[hi1,flat_length];omega)
   rw[hi1] at h
   exact h
  exact run_append_grow (P:=P) w t ty e i z ht hi hz q sLen sCap olds (by rw[hi1];exact hlo) holds ⟨b,o,none⟩ ys.length cap (flat ys.length sz f) (by rw[flat_length,hi1]) hnews hg h63 hfit
 obtain⟨l1,i0,l2,l3⟩:=hlk i j q n h
 exact⟨l1,i0,l2,fun hi0 hj=>l3 b o _ _ _ rfl hi0 hj (by rw[<- Nat.add_assoc];exact hc i0 j hi0 hj)⟩
theorem bytes_of_nums (l:List UInt8):strOfNums (l.map fun c=>(c.toNat:Int))=⟨l.toArray⟩:=by
 have:(strOfNums (l.map fun c=>(c.toNat:Int))).data.toList=l:=by
  rw[strOfNums_data,List.map_map]
  conv=>rhs;rw[<- List.map_id l]
  refine List.map_congr_left fun c _=>?_
  simp
 cases h:strOfNums (l.map fun c=>(c.toNat:Int)) with
 | mk d=>
  rw[h] at this
  simp only at this
  congr 1
  exact Array.toList_inj.1 (by simpa using this)
theorem UP {obl:List (Option OB)} (hT:TabOk P T) (m:Mem E w S φ (fun r=>obl.getD r none)) {src dst:Nat} {x:AV} {vx:Value} {K:AV->Prop} (hx:RepA S w φ (fun r=>obl.getD r none) x vx) (h:R9 T src dst x obl K) :
  FW K ((convert src dst vx).run P w) w:=by
 unfold R9 at h
 rw[AH] at h
 obtain⟨hsrc,h⟩:=h
 have hsc:(T.get src).kind.cls≠none:=fun hc=>by simp[hc] at hsrc
 have hts:=hT.of hsc
 obtain⟨ds,hds⟩ :∃d,P.underlying src=some d:=by
  cases hc:(T.get src).kind.cls with
  | none=>exact absurd hc hsc
  | some q=>cases q with
   | true=>obtain⟨d,hd,_⟩:=hts.kind.row hc;exact⟨d,hd⟩
   | false=>obtain⟨d,hd,_⟩:=hts.kind.plain hc;exact⟨d,hd⟩
 have hcl:(T.get dst).kind.cls≠none:=by
  intro hc
  cases hk:(T.get dst).kind<;>simp[hk,TK.cls] at hc
  simp[hk] at h
 have hti:=(hT.of hcl).kind
 split at h
 ·rename_i k _ n hk
  rw[hk] at hti
  obtain rfl:=hx.int
  obtain⟨r,rfl,hK⟩:=h
  refine⟨_,rfl,hK,?_⟩
  simp only[KindOk] at hti
  simp[convert,run_underlying hds,run_underlying hti,Conv.intToInt]
 ·rename_i s hk
  rw[hk] at hti
  obtain rfl:=hx.str
  refine⟨_,rfl,h,?_⟩
  simp only[KindOk] at hti
  simp only[convert,Sem.run_bind,run_underlying hds,run_underlying hti,Result.andThen_ok]
  cases ds<;>rfl
 ·rename_i hk _
  rw[hk] at hti
  simp only[KindOk] at hti
  split at h
  ·rename_i e hks
   have hsk:=hts.kind
   rw[hks] at hsk
   simp only[KindOk] at hsk
   split at h
   ·rename_i hke
    have hec:(T.get e).kind.cls≠none:=by rw[hke];simp[TK.cls]
    have hek:=(hT.of hec).kind
    rw[hke] at hek
    simp only[KindOk] at hek
    rw[AH] at h
    obtain⟨_,h⟩:=h
    obtain⟨sz,ys,hK,hsv⟩:=Iy m hx h
    rw[AH] at hK
    obtain⟨hsz,l,hl,hK⟩:=hK
    have hsz1:sz=1:=X30 hsz
    subst hsz1 hl
    refine⟨_,rfl,hK,?_⟩
    rcases hsv.v with ⟨⟨a2,c2,rfl⟩,h0⟩|⟨b,o,cap,f,rfl,hc,hr⟩
    ·have:l=[]:=by simpa using h0
     subst this
     cases a2 with
     | none=>
      rw[run_convert_bytes_nil w src e hsk hek 0 c2 dst hti]
      rfl
     | some a2=>
      rw[run_convert_bytes_string w src dst e _ 0 c2 hsk hek hti]
      simp[Conv.bytesToString,loadCells,loadCellsFrom]
      rfl
    rw[run_convert_bytes_arg w src e hsk hek b o _ cap (l.map fun c=>(c.toNat:Int)) (by simp) (fun i hi=>?_) dst hti,bytes_of_nums]
    have hi':i<(l.map fun c=>(D.u c.toNat:D)).length:=hi
    have h1:=hc i 0 hi' (by omega)
    have h2:=hr i hi' 0 (by simp[D.cells])
    simp only[Nat.mul_one,Nat.add_zero] at h1
    have hi'':i<l.length:=by simpa using hi'
    simp only[List.getElem_map,D.cells,List.getElem_cons_zero] at h2
    have h3:w.cell? ⟨b,o + i,none⟩=some (f i 0):=h1
    rw[h3]
    generalize f i 0=u at h2 ⊢
    cases h2 with | val _ _=>simp[hi'']
   exact h.elim
  exact h.elim
 exact h.elim
theorem MW {t i o s ft:Nat} {fs:List (Nat×Nat×Nat)} (h:KindOk P t (.struct fs)) (hi:fs[i]?=some (o,s,ft)) :
  ∃F f,P.underlying t=some (.struct F)/\F[i]?=some f/\f.offset=o/\f.type=ft/\(P.info? f.type).map (·.size)=some s:=by
 obtain⟨_,_,F,h1,h2,_⟩:=h
 have:=congrArg (fun l=>l[i]?) h2
 simp only[List.getElem?_map,hi,Option.map_some] at this
 cases hf:F[i]? with
 | none=>simp[hf] at this
 | some f=>
  simp[hf] at this
  exact⟨F,f,h1,hf,this.1,this.2.2,by simpa using this.2.1⟩
theorem Jx {t i o s ft:Nat} {fs:List (Nat×Nat×Nat)} (h:KindOk P t (.struct fs)) (hi:fs[i]?=some (o,s,ft)) (hs:0<s) (b off:Nat) :
  (Instr.fieldAt t (.pointer (some ⟨b,off,none⟩)) i).run P w=.ok (.pointer (some ⟨b,off + o,none⟩)) w:=by
 obtain⟨F,f,h1,h2,h3,h4,h5⟩:=MW h hi
 cases hq:P.info? f.type with
 | none=>simp[hq] at h5
 | some inf=>
  have hsz:inf.size=s:=by simpa[hq] using h5
  have hne:¬ s=0:=by omega
  simp[Instr.fieldAt,run_underlying h1,h2,Instr.sureAddr,fieldPlace,sizeOf,typeInfo,hq,hsz,hne,h3,Addr.add_none]
theorem Pq (hT:TabOk P T) {t i:Nat} {K:Nat->Nat->Nat->Prop} (h:IU T t i K) :∃o s ft fs,K o s ft/\KindOk P t (.struct fs)/\fs[i]?=some (o,s,ft)/\0<s:=by
 unfold IU at h
 split at h
 ·rename_i fs hk
  have hcl:(T.get t).kind.cls≠none:=by rw[hk];simp[TK.cls]
  have hkind:=(hT.of hcl).kind
  rw[hk] at hkind
  split at h
  ·rename_i o s ft hi
   split at h
   ·exact h.elim
   rename_i s'
   exact⟨o,s' + 1,ft,fs,h,hkind,hi,Nat.succ_pos _⟩
  exact h.elim
 exact h.elim
theorem Ff {t e:Nat} (ht:P.underlying t=some (.slice e)) {i:TypeInfo} (hi:P.info? e=some i) (b o n c:Nat) (k:IntKind) (j:Int) (h:0<=j/\j<n) :
  (Instr.indexAt t (.slice (some ⟨b,o,none⟩) n c) (.int k j)).run P w=.ok (.pointer (some ⟨b,o + j.toNat * i.size,none⟩)) w:=by
 simp[Instr.indexAt,run_underlying ht,asIntOf,h,sizeOf,typeInfo,hi,Addr.add_none]
theorem I9 {t e m:Nat} (ht:P.underlying t=some (.array m e)) {i:TypeInfo} (hi:P.info? e=some i) (b o:Nat) (k:IntKind) (j:Int) (h:0<=j/\j<m) :
  (Instr.indexAt t (.pointer (some ⟨b,o,none⟩)) (.int k j)).run P w=.ok (.pointer (some ⟨b,o + j.toNat * i.size,none⟩)) w:=by
 simp[Instr.indexAt,run_underlying ht,asIntOf,Instr.sureAddr,h,sizeOf,typeInfo,hi,Addr.add_none]
theorem Ax {t:Nat} (h:BD T t=true):(T.get t).kind.cls≠none:=by
 intro hc;simp[BD,hc] at h
theorem A2 (hT:TabOk P T) {t e:Nat} (h:(T.get t).kind=.slice e):P.underlying t=some (.slice e):=by
 have:=(hT.of (t:=t) (by rw[h];simp[TK.cls])).kind
 rwa [h] at this
theorem MO (hT:TabOk P T) {t n e:Nat} (h:(T.get t).kind=.arr n e):P.underlying t=some (.array n e):=by
 have:=(hT.of (t:=t) (by rw[h];simp[TK.cls])).kind
 rwa [h] at this
theorem ML {obl:List (Option OB)} (hT:TabOk P T) {t:Nat} {x y:AV} {vx vy:Value} {K:AV->Prop} (hx:RepA S w φ (fun r=>obl.getD r none) x vx)
  (hcx:Closed (fun r=>obl.getD r none) x) (hy:RepA S w φ (fun r=>obl.getD r none) y vy) (h:FN T t x y obl K) :
  ∃out u,K out/\(Instr.indexAt t vx vy).run P w=.ok u w/\RepA S w φ (fun r=>obl.getD r none) out u/\Closed (fun r=>obl.getD r none) out:=by
 unfold FN at h
 split at h
 ·obtain rfl:=hy.int
  rename_i k i
  split at h
  ·rename_i e sz es hk
   simp only[AH] at h
   obtain⟨hkn,hsz,hb,v,hv,hvl,hK⟩:=h
   have hte:=hT.of (Ax hkn)
   obtain⟨inf,z,hinf,hi1,_⟩:=hte.info
   have hsz':sz=(T.get e).size:=X30 hsz
   cases hx with | d _ _ hx=>
   cases hx with
   | lst0=>simp at hb;omega
   | lst _ _ b o cap f hl hc hsz2 hS hn hr=>
    have hlt:i.toNat<es.length:=by omega
    have hve:v=es[i.toNat]:=by rw[<- hv];simp[hlt]
    subst hve
    refine⟨_,_,hK,Ff (A2 hT hk) hinf b o _ cap k i hb,?_,fun r hr=>by simp[AV.refs] at hr⟩
    rw[hi1,<- hsz']
    exact .eref _ b _ (f i.toNat) (fun j hj=>hS i.toNat j hlt (by rw[hsz2] at hj;exact hj)) (fun j hj=>hn _ hlt j hj) fun j hj=>hr _ hlt j hj
  ·rename_i e r n hk
   rw[Ar] at h
   obtain⟨o,ho,h⟩:=h
   cases o with
   | box cs=>
    simp only[AH] at h
    obtain⟨hkn,hsz,rfl,hK⟩:=h
    have hte:=hT.of (Ax hkn)
    obtain⟨inf,z,hinf,hi1,_⟩:=hte.info
    cases hx with | own _ _ _ kk c a0 hv hkn h1 hbx=>
    obtain⟨rfl,b,c',a1,hv2⟩:=hbx cs ho
    rw[hv2]
    refine⟨_,_,hK,Ff (A2 hT hk) hinf b 0 1 1 k 0 (by omega),?_,fun r' hr'=>hcx r' (by simpa[AV.refs] using hr')⟩
    have e0:(0:Nat) + (0:Int).toNat * inf.size=0:=by simp
    rw[e0]
    refine .ref r 0 b c' a1 fun e2 sz2 es2 frz2 hx2=>?_
    rw[ho] at hx2
    simp at hx2
   | map=>simp at h
   | amap=>simp at h
   | gone=>simp at h
   | row e' sz es frz=>
    simp only[AH] at h
    obtain⟨hkn,hsz,hn,hb,hK⟩:=h
    have hte:=hT.of (Ax hkn)
    obtain⟨inf,z,hinf,hi1,_⟩:=hte.info
    have hsz':sz=(T.get e).size:=X30 hsz
    cases hx with | own _ _ _ kk c a0 hv hkn h1 hbx=>
    rcases (h1 e' sz es frz ho).2 hn with ⟨a1,a2,_,rfl⟩|⟨b,cap,a1,rfl⟩
    ·omega
    refine⟨_,_,hK,Ff (A2 hT hk) hinf b cap.2 n cap.1 k i (by omega),?_,fun r' hr'=>hcx r' (by simpa[AV.refs] using hr')⟩
    rw[hi1,<- hsz',<- Nat.add_zero (i.toNat * sz)]
    refine .rref r n i.toNat 0 _ (fun e2 sz2 es2 frz2 hx2=>?_) (fun cs hx2=>by rw[ho] at hx2;simp at hx2) ⟨_,rfl⟩
    rw[ho] at hx2
    simp only[X24,OB.row.injEq] at hx2
    obtain⟨rfl,rfl,rfl,rfl⟩:=hx2
    exact⟨by omega,fun _=>⟨by omega,b,cap,a1,rfl⟩⟩
  ·rename_i n e r off hk
   simp only[AH] at h
   obtain⟨hkn,_,⟨hb,hK⟩|⟨hs1,hb,j,hj,hK⟩⟩:=h
   rotate_left
   ·have hte:=hT.of (Ax hkn)
    obtain⟨inf,z,hinf,hi1,_⟩:=hte.info
    have hs1:=X30 hs1
    cases hx with | ref _ _ b c hφ hbx=>
    refine⟨_,_,hK,I9 (MO hT hk) hinf b off k i hb,?_,fun r' hr'=>hcx r' (by simpa[AV.refs] using hr')⟩
    rw[hi1,hs1,Nat.mul_one,hj]
    exact .rref r n j off _ (fun e2 sz2 es2 f2 hx2=>absurd hx2 (hbx _ _ _ _)) (fun cs hx2=>⟨b,c,hφ,rfl⟩) ⟨_,rfl⟩
   have hte:=hT.of (Ax hkn)
   obtain⟨inf,z,hinf,hi1,_⟩:=hte.info
   cases hx with | ref _ _ b c hφ hbx=>
   refine⟨_,_,hK,I9 (MO hT hk) hinf b off k i hb,?_,fun r' hr'=>hcx r' (by simpa[AV.refs] using hr')⟩
   rw[hi1]
   exact .ref r _ b c hφ hbx
  exact h.elim
 exact h.elim
theorem M8 {obl:List (Option OB)} (hT:TabOk P T) {t r a n m:Nat} {y:AV} {vx vy:Value} {K:AV->Prop} (hx:RepA S w φ (fun r=>obl.getD r none) (.osl r a n m) vx)
  (hcx:Closed (fun r=>obl.getD r none) (.osl r a n m)) (hy:RepA S w φ (fun r=>obl.getD r none) y vy) (h:I4 T t r a n m y obl K) :
  ∃out u,K out/\(Instr.indexAt t vx vy).run P w=.ok u w/\RepA S w φ (fun r=>obl.getD r none) out u/\Closed (fun r=>obl.getD r none) out:=by
 unfold I4 at h
 split at h
 ·obtain rfl:=hy.int
  rename_i kk i
  split at h
  ·rename_i e hk
   rw[Ar] at h
   obtain⟨o,ho,h⟩:=h
   cases o with
   | box=>simp at h
   | map=>simp at h
   | amap=>simp at h
   | gone=>simp at h
   | row e' sz es frz=>
    simp only[AH] at h
    obtain⟨hkn,hsz,hn,hb,j,hj,hK⟩:=h
    have hte:=hT.of (Ax hkn)
    obtain⟨inf,z,hinf,hi1,_⟩:=hte.info
    have hsz':sz=(T.get e).size:=X30 hsz
    cases hx with | osl _ _ _ _ _ k c a0 hv hkn' h1=>
    obtain⟨q1,q2,_⟩:=(h1 e' sz es frz ho).2 hn
    rcases q2 with q2 | ⟨b,cap,c',q2,q3,_⟩
    ·omega
    rw[q3]
    refine⟨_,_,hK,Ff (A2 hT hk) hinf b (cap.2 + a * sz) n c' kk i (by omega),?_,fun r' hr'=>hcx r' (by simpa[AV.refs] using hr')⟩
    have e1:cap.2 + a * sz + i.toNat * inf.size=cap.2 + (j * sz + 0):=by rw[hi1,<- hsz',Nat.add_assoc,<- X32,hj,Nat.add_zero]
    rw[e1]
    refine .rref r m j 0 _ (fun e2 sz2 es2 frz2 hx2=>?_) (fun cs hx2=>by rw[ho] at hx2;simp at hx2) ⟨_,rfl⟩
    rw[ho] at hx2
    simp only[X24,OB.row.injEq] at hx2
    obtain⟨rfl,rfl,rfl,rfl⟩:=hx2
    exact⟨by omega,fun _=>⟨by omega,b,cap,q2,rfl⟩⟩
  exact h.elim
 exact h.elim
theorem NA {obl:List (Option OB)} (hT:TabOk P T) {t:Nat} {x y:AV} {vx vy:Value} {K:AV->Prop} (hx:RepA S w φ (fun r=>obl.getD r none) x vx)
  (hcx:Closed (fun r=>obl.getD r none) x) (hy:RepA S w φ (fun r=>obl.getD r none) y vy) (h:GG T t x y obl K) :
  ∃out u,K out/\(Instr.indexAt t vx vy).run P w=.ok u w/\RepA S w φ (fun r=>obl.getD r none) out u/\Closed (fun r=>obl.getD r none) out:=by
 unfold GG at h
 split at h
 ·exact M8 hT hx hcx hy h
 exact ML hT hx hcx hy h
theorem JZ {x:AV} {vx:Value} {K:List AV->Prop} (hx:RepA S w φ ob x vx) (hc:Closed ob x) (h:HN x K) :
  ∃cs vs,K cs/\vx=.agg vs/\vs.size=cs.length/\(∀i (hi:i<cs.length),∃u,vs[i]?=some u/\cs[i].one=true/\RepA S w φ ob cs[i] u)/\∀c ∈ cs,Closed ob c:=by
 unfold HN at h
 split at h
 ·rename_i cs
  have hm :∀(cs:List D) (K:List AV->Prop),Lx (fun c K=>K (AV.d c)) cs K↔K (cs.map .d):=by
   intro cs
   induction cs with
   | nil=>intro K;simp[Lx]
   | cons c cs ih=>intro K;simp[Lx,ih]
  rw[hm] at h
  cases hx with | d _ _ hx=>
  cases hx with | agg _ vs f hs hf hn hr=>
  refine⟨_,vs,h,rfl,by simpa using hs,fun i hi=>⟨f i,hf i (by simpa using hi),?_,?_⟩,fun c hm=>?_⟩
  ·simpa[AV.one] using hn i (by simpa using hi)
  ·simpa using RepA.d _ _ (hr i (by simpa using hi))
  obtain⟨y,_,rfl⟩:=List.mem_map.1 hm
  exact A6 ob y
 ·rename_i cs
  cases hx with | agg _ vs f hs hf hn hr=>
  refine⟨cs,vs,h,rfl,hs,fun i hi=>⟨f i,hf i hi,hn i hi,hr i hi⟩,fun c hm r hr'=>?_⟩
  obtain⟨j,hj,rfl⟩:=List.getElem_of_mem hm
  exact hc r (AV.refs_mem cs j hj r hr')
 exact h.elim
theorem Ue (hT:TabOk P T) {t off:Nat} {cs:List AV} {vs:Array Value} {K:AV->Prop} (hs:vs.size=cs.length) (hr :∀i (hi:i<cs.length),∃u,vs[i]?=some u/\cs[i].one=true/\RepA S w φ ob cs[i] u)
  (hc :∀c ∈ cs,Closed ob c) (h:RB T t cs off K) :∃out u,K out/\(part t vs off).run P w=.ok u w/\RepA S w φ ob out u/\Closed ob out:=by
 unfold RB at h
 cases hcl:(T.get t).kind.cls with
 | none=>simp[hcl] at h
 | some q=>
  have hti:=hT.of (t:=t) (by rw[hcl];simp)
  cases q with
  | true=>
   simp only[hcl,Dl,AH,C6,EC,Nat.ble_eq,X17] at h
   refine⟨_,_,h.2,Iu hti hcl,?_,H3 fun c hm=>hc c (List.mem_of_mem_drop (List.mem_of_mem_take hm))⟩
   refine MQ (by simp[hs];omega) fun i hi=>?_
   simp only[X18,X17] at hi
   obtain⟨u,h1,h2,h3⟩:=hr (off + i) (by omega)
   refine⟨u,?_,?_,?_⟩
   ·rw[Array.getElem?_extract,if_pos (by omega)];exact h1
   ·simpa[List.getElem_take,List.getElem_drop] using h2
   simpa[List.getElem_take,List.getElem_drop] using h3
  | false=>
   simp only[hcl] at h
   cases hg:cs[off]? with
   | none=>simp[hg] at h
   | some x=>
    simp only[hg,CB] at h
    obtain⟨p1,p2⟩:=X16.1 hg
    obtain⟨d,hu,hd⟩:=hti.kind.plain hcl
    obtain⟨u,h1,h2,h3⟩:=hr off p1
    exact⟨x,u,h,run_part_plain hu hd h1,p2 ▸ h3,hc x (List.mem_of_getElem? hg)⟩
theorem TM (hT:TabOk P T) {t i:Nat} {x:AV} {vx:Value} {K:AV->Prop} (hx:RepA S w φ ob x vx) (hc:Closed ob x) (h:Nq T t i x K) :
  ∃out u,K out/\(Instr.field t vx i).run P w=.ok u w/\RepA S w φ ob out u/\Closed ob out:=by
 unfold Nq at h
 split at h
 ·rename_i fs hk
  have hkind:=(hT.of (t:=t) (by rw[hk];simp[TK.cls])).kind
  rw[hk] at hkind
  split at h
  ·rename_i o s ft hi
   obtain⟨cs,vs,hK,rfl,hs,hr,hcl⟩:=JZ hx hc h
   obtain⟨F,f,h1,h2,h3,h4,h5⟩:=MW hkind hi
   obtain⟨out,u,g1,g2,g3,g4⟩:=Ue hT hs hr hcl hK
   refine⟨out,u,g1,?_,g3,g4⟩
   simp only[Instr.field,Sem.run_bind,run_underlying h1,Result.andThen_ok,h2,asAgg,Sem.run_pure,h3,h4,g2]
  exact h.elim
 exact h.elim
theorem Su (hT:TabOk P T) {t:Nat} {x y:AV} {vx vy:Value} {K:AV->Prop} (hx:RepA S w φ ob x vx) (hc:Closed ob x) (hy:RepA S w φ ob y vy) (h:NB T t x y K) :
  ∃out u,K out/\(Instr.index t vx vy).run P w=.ok u w/\RepA S w φ ob out u/\Closed ob out:=by
 unfold NB at h
 split at h
 ·obtain rfl:=hy.int
  rename_i k i
  split at h
  ·rename_i s hk
   have hkind:=(hT.of (t:=t) (by rw[hk];simp[TK.cls])).kind
   rw[hk] at hkind
   simp only[KindOk] at hkind
   obtain rfl:=hx.str
   obtain⟨hb,c,hcc,hK⟩:=h
   refine⟨_,.int .u8 c.toNat,hK,?_,.d _ _ (.val _ rfl),A6 _ _⟩
   have hlt:i.toNat<s.size:=by omega
   have:s[i.toNat]?=some c:=by
    have h1:s.toList.getD i.toNat 0=s[i.toNat]:=by
     rw[ByteArray.toList_eq]
     have hl:i.toNat<s.data.toList.length:=by rw[Array.length_toList];exact hlt
     rw[List.getD_eq_getElem?_getD,X15 hl]
     rfl
    rw[<- hcc,h1]
    exact getElem?_pos s i.toNat hlt
   simp only[Instr.index,asIntOf,Sem.run_bind,Sem.run_pure,Result.andThen_ok,run_underlying hkind,if_pos hb.1,this]
  ·rename_i n e hk
   obtain⟨cs,vs,hK,rfl,hs,hr,hcl⟩:=JZ hx hc h
   obtain⟨hb,hK⟩:=hK
   split at hK
   ·rename_i hce
    obtain⟨a,ha,hK⟩:=hK
    rw[CB] at hK
    have hte:=hT.of (t:=e) (by rw[hce];simp)
    obtain⟨d,hu,hd⟩:=hte.kind.plain hce
    obtain⟨inf,z,hinf,hi1,_⟩:=hte.info
    obtain⟨p1,p2⟩:=X16.1 ha
    obtain⟨u,h1,h2,h3⟩:=hr _ p1
    refine⟨a,u,hK,?_,p2 ▸ h3,hcl a (List.mem_of_getElem? ha)⟩
    have e1:(sizeOf e).run P w=.ok (T.get e).size w:=by simp[sizeOf,typeInfo,hinf,hi1]
    have e2:=run_part_plain (w:=w) hu hd h1
    have e3:=run_underlying (MO hT hk) w
    simp only[Instr.index,asIntOf,Sem.run_bind,Sem.run_pure,Result.andThen_ok,e3,if_pos hb,e1,e2]
   exact hK.elim
  exact h.elim
 exact h.elim
end
end Go.AX
end
section
namespace Go.AX
section
variable {P:Program} {T:TT} {E:Env} {w:World} {S:Sc} {φ:Nat->Option (Nat×Rp)} {ob:Nat->Option OB}
theorem X5 (cells:Array Value) (off:Nat) (v:Value) (h:off + v.cells.size<=cells.size) :
  v.cells.zipIdx.foldl (fun cs (c,j)=>cs.setIfInBounds (off + j) c) cells=(BG cells.toList off v.cells.toList).toArray:=by
 have hg:=Great.foldl_set off v.cells.toList 0 cells
 have e:v.cells.zipIdx.foldl (fun cs (c,j)=>cs.setIfInBounds (off + j) c) cells=(v.cells.toList.zipIdx 0).foldl (fun cs (x:Value×Nat)=>cs.setIfInBounds (off + x.2) x.1) cells:=by
  rw[<- Array.foldl_toList,Array.toList_zipIdx]
 rw[e]
 apply Array.ext_getElem?
 intro k
 rw[hg.2 k,Nat.add_zero]
 have ho:=D5 cells.toList off v.cells.toList (by simpa using h) k
 simp only[Array.length_toList,List.getElem?_toArray,Array.getElem?_toList] at ho ⊢
 rw[ho]
 by_cases hin:off<=k/\k<off + v.cells.size
 ·rw[if_pos hin,if_pos ⟨hin.1,hin.2,by omega⟩]
 rw[if_neg hin,if_neg (fun h=>hin ⟨h.1,h.2.1⟩)]
def RepL (S:Sc) (w:World) (φ:Nat->Option (Nat×Rp)) (ob:Nat->Option OB) (cs:List AV) (vs:Array Value):Prop:=
 vs.size=cs.length/\∀i (hi:i<cs.length),∃u,vs[i]?=some u/\cs[i].one=true/\RepA S w φ ob cs[i] u
theorem RepL.over {cs xs:List AV} {vs us:Array Value} (h:RepL S w φ ob cs vs) (k:RepL S w φ ob xs us) {off:Nat} (hle:off + xs.length<=cs.length) :
  RepL S w φ ob (BG cs off xs) (BG vs.toList off us.toList).toArray:=by
 have h1:off + us.toList.length<=vs.toList.length:=by simp[h.1,k.1];omega
 refine⟨by rw[List.size_toArray,BU _ _ _ h1,BU _ _ _ hle];simp[h.1],fun i hi=>?_⟩
 have e1:=D5 cs off xs hle i
 have e2:=D5 vs.toList off us.toList h1 i
 rw[BU _ _ _ hle] at hi
 have hi2:i<(BG cs off xs).length:=by rw[BU _ _ _ hle];exact hi
 rw[X15 hi2] at e1
 simp only[Array.length_toList,k.1,Array.getElem?_toList] at e2
 by_cases hin:off<=i/\i<off + xs.length
 ·rw[if_pos hin,X15 (by omega)] at e1
  rw[if_pos hin] at e2
  obtain⟨u,g1,g2,g3⟩:=k.2 (i - off) (by omega)
  refine⟨u,by rw[List.getElem?_toArray,e2];exact g1,?_,?_⟩
  ·rw[X25 e1];exact g2
  rw[X25 e1];exact g3
 rw[if_neg hin,X15 hi] at e1
 rw[if_neg hin] at e2
 obtain⟨u,g1,g2,g3⟩:=h.2 i hi
 refine⟨u,by rw[List.getElem?_toArray,e2];exact g1,?_,?_⟩
 ·rw[X25 e1];exact g2
 rw[X25 e1];exact g3
theorem US {cs xs:List AV} {off:Nat} (h :∀c ∈ cs,Closed ob c) (k :∀c ∈ xs,Closed ob c) :∀c ∈ BG cs off xs,Closed ob c:=by
 intro c hm
 simp only[BG,X23] at hm
 rcases hm with (hm | hm)|hm
 ·exact h c (List.mem_of_mem_take hm)
 ·exact k c hm
 exact h c (List.mem_of_mem_drop hm)
inductive All2 {α β:Type} (R:α->β->Prop):List α->List β->Prop
 | nil:All2 R [] []
 | cons {a:α} {b:β} {l:List α} {k:List β} (h:R a b) (hs:All2 R l k):All2 R (a::l) (b::k)
theorem All2.imp {α β:Type} {R R':α->β->Prop} {l:List α} {k:List β} (h:All2 R l k) (f :∀a b,R a b->R' a b):All2 R' l k:=by
 induction h with
 | nil=>exact .nil
 | cons h _ ih=>exact .cons (f _ _ h) ih
def If (S:Sc) (w:World) (φ:Nat->Option (Nat×Rp)) (ob:Nat->Option OB) (ps:List (Nat×AV)) (vs:List (Nat×Value)):Prop:=
 All2 (fun p q=>p.1=q.1/\RepA S w φ ob p.2 q.2/\Closed ob p.2) ps vs
theorem LM {place:Nat->Option (Nat×Nat)} :∀{ps:List (Nat×AV)} {vs:List (Nat×Value)} (_:If S w φ ob ps vs) {cs:List AV} {cells:Array Value} {K:List AV->Prop} (_:RepL S w φ ob cs cells)
  (_ :∀c ∈ cs,Closed ob c) (_:HH.go place ps cs K),∃cs' cells',K cs'/\Instr.fill place cells vs=some cells'/\RepL S w φ ob cs' cells'/\∀c ∈ cs',Closed ob c
 | [],[],_,cs,cells,K,hr,hc,h=>⟨cs,cells,h,rfl,hr,hc⟩
 | (i,v)::ps,(j,u)::vs,hp,cs,cells,K,hr,hc,h=>by
  cases hp with | cons h1 h2=>
  obtain⟨hij,hv,hcv⟩:=h1
  simp only at hij hv hcv
  subst hij
  simp only[HH.go] at h
  cases hpl:place i with
  | none=>simp[hpl] at h
  | some q=>
   obtain⟨off,size⟩:=q
   simp only[hpl,Ef,AH,Ey] at h
   obtain⟨l,hl,hsz,hle,h⟩:=h
   have hsz':l.length=size:=X30 hsz
   obtain⟨k1,k2⟩:=Nu hv hl
   have hkl:RepL S w φ ob l u.cells:=⟨k1,k2⟩
   have hle':off + u.cells.size<=cells.size:=by rw[k1,hr.1];exact hle
   obtain⟨cs',cells',g1,g2,g3,g4⟩:=LM h2 (hr.over hkl hle) (US (off:=off) hc (Ih hcv hl)) h
   refine⟨cs',cells',g1,?_,g3,g4⟩
   rw[Instr.fill]
   simp only[hpl]
   rw[if_neg (by simp[k1,hsz'];rw[k1,hsz'] at hle';omega),X5 _ _ _ hle']
   exact g2
 | [],_::_,hp,_,_,_,_,_,_=>by cases hp
 | _::_,[],hp,_,_,_,_,_,_=>by cases hp
theorem Nl {t:Nat} (hT:TabOk P T) (hc:(T.get t).kind.cls≠none) {i:TypeInfo} {z:Value} (hi:P.info? t=some i) (hz:i.zero=some z):RepL S w φ ob ((T.get t).zero.map .d) z.cells/\∀c ∈ (T.get t).zero.map AV.d,Closed ob c:=by
 obtain⟨h1,_,h3⟩:=Vy (hT.of hc) hi hz S w φ ob
 refine⟨⟨h1,h3⟩,fun c hm=>?_⟩
 obtain⟨x,_,rfl⟩:=List.mem_map.1 hm
 exact A6 ob x
theorem Td (hT:TabOk P T) {t:Nat} {ps:List (Nat×AV)} {vs:Array (Nat×Value)} {K:AV->Prop} (hp:If S w φ ob ps vs.toList) (h:HH T t ps K) :
  ∃out u,K out/\(Instr.build t vs).run P w=.ok u w/\RepA S w φ ob out u/\Closed ob out:=by
 unfold HH at h
 split at h
 ·rename_i fs hk
  have hcl:(T.get t).kind.cls≠none:=by rw[hk];simp[TK.cls]
  have hti:=hT.of hcl
  obtain⟨i,z,hi,h1,h2,hz,h4,h5,_⟩:=hti.info
  obtain⟨hr,hc⟩:=Nl (S:=S) (w:=w) (φ:=φ) (ob:=ob) hT hcl hi hz
  obtain⟨cs',cells',g1,g2,g3,g4⟩:=LM hp hr hc h
  rw[EC] at g1
  refine⟨_,.agg cells',g1,?_,MQ g3.1 g3.2,H3 g4⟩
  refine run_build w t vs cells' ?_
  have hkind:=hti.kind
  rw[hk] at hkind
  obtain⟨_,_,F,hu,hF,_⟩:=hkind
  have hplaces:F.toList.mapM (fun f=>(P.info? f.type).map fun i=>(f.offset,i.size))=some (fs.map fun x=>(x.1,x.2.1)):=by
   clear g2 g1 h hu hk
   generalize F.toList=F' at hF
   induction F' generalizing fs with
   | nil=>cases fs with
    | nil=>rfl
    | cons=>simp at hF
   | cons f F' ih=>
    cases fs with
    | nil=>simp at hF
    | cons x fs=>
     simp only[List.map_cons,List.cons.injEq,X26] at hF
     obtain⟨⟨a1,a2,a3⟩,a4⟩:=hF
     have:=ih fs a4
     cases hq:P.info? f.type with
     | none=>simp[hq] at a2
     | some inf=>
      simp[hq] at a2
      simp[List.mapM_cons,hq,this,a1,a2]
  unfold Program.built
  simp only[hi,hu,hz,hplaces]
  have hpl:(fun x=>(fs.map fun x=>(x.1,x.2.1)).toArray[x]?)=(fun (i:Nat)=>match (fs[i]?:Option (Nat×Nat×Nat)) with
   | some (o,s,_)=>some (o,s)
   | none=>none):=by
   funext k
   simp only[List.getElem?_toArray,List.getElem?_map]
   cases fs[k]?<;>rfl
  rw[hpl]
  exact g2
 ·rename_i n e hk
  have hcl:(T.get t).kind.cls≠none:=by rw[hk];simp[TK.cls]
  have hti:=hT.of hcl
  rw[AH] at h
  obtain⟨hkn,h⟩:=h
  have hte:=hT.of (Ax hkn)
  obtain⟨i,z,hi,h1,h2,hz,h4,h5,_⟩:=hti.info
  obtain⟨ie,ze,hie,he1,_⟩:=hte.info
  obtain⟨hr,hc⟩:=Nl (S:=S) (w:=w) (φ:=φ) (ob:=ob) hT hcl hi hz
  obtain⟨cs',cells',g1,g2,g3,g4⟩:=LM hp hr hc h
  rw[EC] at g1
  refine⟨_,.agg cells',g1,?_,MQ g3.1 g3.2,H3 g4⟩
  refine run_build w t vs cells' ?_
  unfold Program.built
  simp only[hi,MO hT hk,hz,hie]
  have key :∀(vs:List (Nat×Value)) (c c':Array Value),Instr.fill (fun i=>match Nat.blt i n with
    | true=>some (i * (T.get e).size,(T.get e).size)
    | false=>none) c vs=some c'->Instr.fill (fun i=>some (i * ie.size,ie.size)) c vs=some c':=by
   intro vs
   induction vs with
   | nil=>intro c c' h;exact h
   | cons v vs ih=>
    intro c c' h
    obtain⟨j,v⟩:=v
    rw[Instr.fill] at h ⊢
    cases hb:Nat.blt j n with
    | false=>simp[hb] at h
    | true=>
     simp only[hb] at h
     rw[he1]
     split at h
     ·simp at h
     rename_i hne
     simp only[]
     rw[if_neg hne]
     have:=ih _ _ h
     rw[he1] at this
     exact this
  exact key _ _ _ g2
 exact h.elim
theorem WU (f:Nat->Option OB) (r:Nat) (x y:Option OB):upd (upd f r x) r y=upd f r y:=by
 funext i
 by_cases h:i=r<;>simp[upd,h]
theorem AS (ob:Nat->Option OB) (a b:W):Ai ob (a++b)=Ai (Ai ob a) b:=by
 induction a generalizing ob with
 | nil=>rfl
 | cons x a ih=>obtain⟨r,o⟩:=x;simp[Ai,ih]
theorem OE {obl:List (Option OB)} {sz:Nat} :∀{ps:List (Nat×AV)} {vs:List (Nat×Value)} {i:Nat} {S:Sc} {ob:Nat->Option OB} {K:List D->W->Prop} (_:Mem E w S φ ob) (_:FrzExt (fun r=>obl.getD r none) ob)
  (_:All2 (fun p q=>p.1=q.1/\RepA S w φ ob p.2 q.2/\Closed (fun r=>obl.getD r none) p.2) ps vs) (_:Dm.elems obl sz i ps K),
  ∃es wr S',K es wr/\Mem E w S' φ (Ai ob wr)/\Kept w S φ ob w S' φ (Ai ob wr)/\FrzExt (fun r=>obl.getD r none) (Ai ob wr)/\SV obl wr/\es.length=vs.length/\
   vs=((vs.map (·.2)).zipIdx i).map (fun x=>(x.2,x.1))/\(∀j (hj:j<es.length),es[j].cells.length=sz)/\∀j (hj:j<es.length) (hj':j<vs.length),RepD S' w es[j] vs[j].2
 | [],[],i,S,ob,K,m,hx,_,h=>⟨[],[],S,h,m,.refl w S φ ob,hx,fun _ _ hm=>by simp at hm,rfl,rfl,fun j hj=>by simp at hj,fun j hj=>by simp at hj⟩
 | (j,v)::ps,(j',u)::vs,i,S,ob,K,m,hx,hp,h=>by
  cases hp with | cons h1 h2=>
  obtain⟨hij,hv,hcv⟩:=h1
  simp only at hij hv hcv
  subst hij
  simp only[Dm.elems] at h
  cases hb:Nat.beq i j with
  | false=>simp[hb] at h
  | true=>
   have hji:i=j:=X30 hb
   subst hji
   simp only[hb] at h
   obtain⟨x,wr,S1,hK,m1,k1,hd,hx1,hw1⟩:=Dj m hx hv h
   rw[AH] at hK
   obtain⟨hsz,hK⟩:=hK
   have hp1:All2 (fun (p:Nat×AV) (q:Nat×Value)=>p.1=q.1/\RepA S1 w φ (Ai ob wr) p.2 q.2/\Closed (fun r=>obl.getD r none) p.2) ps vs:=by
    refine h2.imp fun p q hpq=>⟨hpq.1,k1.rep (fun r hr=>?_) hpq.2.1,hpq.2.2⟩
    have h3:=hpq.2.2 r hr
    rcases hx r with e1 | ⟨e,sz',es,f,e1,e2⟩
    ·rw[e1];exact h3
    rw[e2];simp
   obtain⟨es,wr2,S2,g1,g2,g3,g4,g5,g6,g7,g8,g9⟩:=OE m1 hx1 hp1 hK
   refine⟨x::es,wr++wr2,S2,g1,by rw[AS];exact g2,by rw[AS];exact k1.trans g3,by rw[AS];exact g4,fun r o hm=>?_,by simp[g6],?_,fun k hk=>?_,fun k hk hk'=>?_⟩
   ·rcases X23.1 hm with hm | hm
    ·exact hw1 r o hm
    exact g5 r o hm
   ·simp only[List.map_cons,List.zipIdx_cons]
    rw[<- g7]
   ·cases k with
    | zero=>exact X30 hsz
    | succ k=>exact g8 k (by simpa using hk)
   cases k with
   | zero=>exact hd.mono g3.k
   | succ k=>exact g9 k (by simpa using hk) (by simpa using hk')
 | [],_::_,_,_,_,_,_,_,hp,_=>by cases hp
 | _::_,[],_,_,_,_,_,_,hp,_=>by cases hp
theorem CN {obl:List (Option OB)} {r:Nat} (h:obl[r]?=some none):obl.getD r none=none/\r<obl.length:=by
 obtain⟨h1,h2⟩:=X16.1 h
 exact⟨by simp[h],h1⟩
theorem FrzExt.none {ob ob':Nat->Option OB} (h:FrzExt ob ob') {r:Nat} (hr:ob r=Option.none):ob' r=Option.none:=by
 rcases h r with e | ⟨e,sz,es,f,e1,_⟩
 ·rw[e,hr]
 rw[hr] at e1;simp at e1
theorem KV {t e:Nat} (hu:P.underlying t=some (.slice e)) {ie:TypeInfo} (hie:P.info? e=some ie) :
  (Instr.buildSlice t 0 #[]).run P w=.ok (.slice (some ⟨w.heap.size,0,none⟩) 0 0) (w.alloc (.cells #[] e)):=by
 have h0:Array.range 0=#[]:=by simp
 simp[Instr.buildSlice,run_underlying hu,sizeOf,typeInfo,hie,Instr.fill,newRow,h0]
theorem JF {obl:List (Option OB)} (hT:TabOk P T) (m:Mem E w S φ (fun r=>obl.getD r none)) {t len self:Nat} {ps:List (Nat×AV)} {vs:Array (Nat×Value)} {K:AV->W->Prop}
  (hp:If S w φ (fun r=>obl.getD r none) ps vs.toList) (h:Dm T t len self ps obl K) :
  ∃out wr u w',K out wr/\(∀r o,(r,o) ∈ wr->r<obl.length)/\(Instr.buildSlice t len vs).run P w=.ok u w'/\Post E w S φ (fun r=>obl.getD r none) out wr u w':=by
 unfold Dm at h
 split at h
 ·rename_i e hk
  rw[B2,AH,AH] at h
  obtain⟨hself,hcond,hkn,h⟩:=h
  rw[X27] at hcond
  obtain⟨hc1,hc2⟩:=hcond
  have hpos:0<(T.get e).size:=X29 hc1
  have hbig:len * (T.get e).size<=16777216:=X29 hc2
  obtain⟨hs1,hs2⟩:=CN hself
  have hte:=hT.of (Ax hkn)
  obtain⟨ie,z,hie,hi1,hi2,hz,hz1,_⟩:=hte.info
  obtain⟨es,wr,S1,hK,m1,k1,hx1,hw1,hl1,hv1,hsz1,hr1⟩:=OE m (FrzExt.refl _) hp h
  rw[AH] at hK
  obtain⟨hlen,hK⟩:=hK
  have hlen':es.length=len:=X30 hlen
  let vals:=vs.toList.map (·.2)
  have hvl:vals.length=len:=by simp only[vals,X10];omega
  have hvc :∀v ∈ vals,v.cells.size=(T.get e).size:=by
   intro v hm
   obtain⟨j,hj,rfl⟩:=List.getElem_of_mem hm
   have hj':j<vs.toList.length:=by simpa[vals] using hj
   have:=(hr1 j (by omega) hj').cells.1
   rw[hsz1 j (by omega)] at this
   simpa[vals] using this
  have hbl :∀r o,(r,o) ∈ wr++[(self,OB.row e (T.get e).size es .no)]->r<obl.length:=by
   intro r o hm
   rcases X23.1 hm with hm | hm
   ·obtain⟨e',sz',es',f',e1,_⟩:=hw1 r o hm
    exact Bh obl r _ e1
   simp only[X14,X26] at hm
   rw[hm.1];exact hs2
  obtain⟨cells,hrun,hcs,hcell⟩ :∃cells:Array Value,(Instr.buildSlice t len vs).run P w=.ok (.slice (some ⟨w.heap.size,0,none⟩) len len) (w.alloc (.cells cells e))/\cells.size=len * (T.get e).size/\
    ∀i j (hi:i<vals.length) (_:j<(T.get e).size),cells[i * (T.get e).size + j]?=vals[i].cells[j]?:=by
   by_cases h0:len=0
   ·subst h0
    have:vs=#[]:=by
     have:vs.toList.length=0:=by omega
     exact Array.toList_eq_nil_iff.1 (List.eq_nil_of_length_eq_zero this)
    subst this
    exact⟨#[],KV (A2 hT hk) hie,by simp,fun i j hi=>by rw[hvl] at hi;exact absurd hi (Nat.not_lt_zero _)⟩
   obtain⟨r,g1,g2,g3⟩:=Great.fill_dense hpos vals 0 ((Array.range (len * (T.get e).size)).map (z.cells[· % z.cells.size]!)) hvc (by simp[hvl])
   refine⟨r,?_,by simpa using g2,fun i j hi hj=>?_⟩
   ·have hfill:Instr.fill (fun i=>some (i * ie.size,ie.size)) ((Array.range (len * ie.size)).map (z.cells[· % z.cells.size]!)) vs.toList=some r:=by
     rw[hi1,hv1]
     exact g1
    exact run_buildSlice w t e len vs r ie z (A2 hT hk) hie hz (by rw[hi1];omega) (by rw[hi1];exact Nat.mul_ne_zero h0 (by omega)) hfill
   rw[g3]
   have hlt:(i + 1) * (T.get e).size<=vals.length * (T.get e).size:=X31 _ hi
   rw[X32] at hlt
   rw[if_pos ⟨by omega,by rw[Nat.zero_add];omega⟩]
   have e1:(i * (T.get e).size + j) / (T.get e).size=i:=by rw[Nat.mul_comm,Nat.mul_add_div hpos,Nat.div_eq_of_lt hj,Nat.add_zero]
   have e2:(i * (T.get e).size + j) % (T.get e).size=j:=by rw[Nat.mul_comm,Nat.mul_add_mod,Nat.mod_eq_of_lt hj]
   rw[e1,e2,Nat.sub_zero,X15 hi]
   rfl
  refine⟨_,_,_,_,hK,hbl,hrun,?_⟩
  obtain⟨m2,k2⟩:=m1.alloc self (len,0) (.row e (T.get e).size es .no) cells e (hx1.none hs1) (fun r hr=>by simp[OB.refs] at hr) (fun hk2=>by
   refine⟨hpos,fun i hi=>hsz1 i hi,fun i hi j hj=>?_,.inr ⟨w.heap.size,(len,0),cells,fun i j=>cells.getD (i * (T.get e).size + j) undef,upd_same _ _ _,heap_alloc_new w _,by simp only;omega,?_,Nat.le_of_eq ((Nat.zero_add _).trans hcs.symm),fun i j hi hj=>?_,fun i hi j hj=>?_,fun o _ ho=>absurd (m1.bS _ _ ho) (Nat.lt_irrefl _),fun _ _ _ _ h=>nomatch h⟩⟩
   ·have hi':i<vs.toList.length:=by omega
    obtain⟨_,q⟩:=(hr1 i hi hi').cells
    obtain⟨u,q1,q2,q3⟩:=q j hj
    exact q2
   ·have:len<=len * (T.get e).size:=Nat.le_mul_of_pos_right _ hpos
    simp only[maxLen]
    omega
   ·have hlt:(i + 1) * (T.get e).size<=len * (T.get e).size:=X31 _ (by omega)
    rw[X32] at hlt
    have:i * (T.get e).size + j<cells.size:=by omega
    simp[this]
   have hi':i<vs.toList.length:=by omega
   have hiv:i<vals.length:=by omega
   obtain⟨_,q⟩:=(hr1 i hi hi').cells
   obtain⟨u,q1,q2,q3⟩:=q j hj
   rw[hsz1 i hi] at hj
   have hcc:=hcell i j hiv hj
   have hvi:vals[i]=vs.toList[i].2:=by simp[vals]
   rw[hvi,q1] at hcc
   have:cells.getD (i * (T.get e).size + j) undef=u:=by simp[hcc]
   show RepD _ _ _ (cells.getD (i * (T.get e).size + j) undef)
   rw[this]
   exact q3.mono hk2.k)
  refine⟨S1,_,by rw[AS];exact m2,by rw[AS];exact k1.trans k2,?_,?_⟩
  ·refine .own self len _ len len (some ⟨w.heap.size,0,none⟩) rfl rfl (fun e2 sz2 es2 f2 hx2=>?_) (fun cs hx2=>?_)
   ·rw[AS] at hx2
    simp only[Ai,upd_same,X24,OB.row.injEq] at hx2
    obtain⟨rfl,rfl,rfl,rfl⟩:=hx2
    exact⟨by omega,fun _=>.inr ⟨_,_,upd_same _ _ _,rfl⟩⟩
   rw[AS] at hx2
   simp[Ai] at hx2
  intro r hr
  simp only[AV.refs,X14] at hr
  subst hr
  rw[AS]
  simp[Ai]
 exact h.elim
theorem Wc {T:TT} {e:Nat} (h:rowT T e=true):(T.get e).kind.cls=some true:=by
 unfold rowT at h
 split at h
 ·assumption
 simp at h
theorem OT {obl:List (Option OB)} (hT:TabOk P T) (m:Mem E w S φ (fun r=>obl.getD r none)) {t len self:Nat} {cs:List AV} {vs:Array (Nat×Value)} {K:AV->W->Prop}
  (hp:If S w φ (fun r=>obl.getD r none) [(0,.agg cs)] vs.toList) (h:G4 T t len self cs obl K) :
  ∃out wr u w',K out wr/\(∀r o,(r,o) ∈ wr->r<obl.length)/\(Instr.buildSlice t len vs).run P w=.ok u w'/\Post E w S φ (fun r=>obl.getD r none) out wr u w':=by
 unfold G4 at h
 split at h
 ·rename_i e hk
  rw[B2,AH] at h
  simp only[X27] at h
  obtain⟨hself,⟨⟨⟨⟨c1,c2⟩,c3⟩,c4⟩,c5⟩,hK⟩:=h
  have hlen:len=1:=X30 c1
  subst hlen
  have hcl:=Wc c2
  have hsz:(T.get e).size=cs.length:=X30 c3
  have hpos:0<(T.get e).size:=X29 c4
  have hbig:(T.get e).size<=65536:=X29 c5
  obtain⟨hs1,hs2⟩:=CN hself
  have hte:=hT.of (t:=e) (by rw[hcl];simp)
  obtain⟨ie,z,hie,hi1,hi2,hz,hz1,_⟩:=hte.info
  obtain⟨u,hvs,hu,hcu⟩ :∃u,vs=#[(0,u)]/\RepA S w φ (fun r=>obl.getD r none) (.agg cs) u/\Closed (fun r=>obl.getD r none) (.agg cs):=by
   generalize hvl:vs.toList=l at hp
   cases hp with
   | @cons _ q _ l' h1 h2=>
    cases h2 with
    | nil=>
     obtain⟨q1,q2⟩:=q
     refine⟨q2,?_,h1.2.1,h1.2.2⟩
     have:q1=0:=h1.1.symm
     subst this
     exact Array.toList_inj.1 hvl
  subst hvs
  cases hu with | agg _ us f hs hf hn hr=>
  obtain⟨r,g1,g2,g3⟩:=Great.fill_dense hpos [Value.agg us] 0 ((Array.range (1 * (T.get e).size)).map (z.cells[· % z.cells.size]!)) (by intro v hv;rw[X14.1 hv];simp only[Value.cells];omega) (by simp)
  have hrun:(Instr.buildSlice t 1 #[(0,Value.agg us)]).run P w=.ok (.slice (some ⟨w.heap.size,0,none⟩) 1 1) (w.alloc (.cells r e)):=by
   have hfill:Instr.fill (fun i=>some (i * ie.size,ie.size)) ((Array.range (1 * ie.size)).map (z.cells[· % z.cells.size]!)) #[(0,Value.agg us)].toList=some r:=by
    rw[hi1]
    exact g1
   exact run_buildSlice w t e 1 _ r ie z (A2 hT hk) hie hz (by rw[hi1];omega) (by rw[hi1];omega) hfill
  have hrs:r.size=cs.length:=by rw[g2];simp;omega
  have hrc :∀j,j<cs.length->r[j]?=some (f j):=by
   intro j hj
   rw[g3,if_pos ⟨by omega,by simp;omega⟩]
   have e1:j / (T.get e).size=0:=Nat.div_eq_of_lt (by omega)
   have e2:j % (T.get e).size=j:=Nat.mod_eq_of_lt (by omega)
   rw[e1,e2]
   simpa[Value.cells] using hf j hj
  obtain⟨m2,k2⟩:=m.alloc self (1,0) (.box cs) r e hs1 (fun r' hr'=>hcu r' (by simpa[OB.refs,AV.refs] using hr')) (fun hk2=>by
   refine⟨w.heap.size,(1,0),r,e,f,upd_same _ _ _,heap_alloc_new w _,hrs,fun o ho=>absurd (m.bS _ _ ho) (Nat.lt_irrefl _),hrc,fun j hj=>⟨hn j hj,?_⟩⟩
   exact hk2.rep (fun r' hr'=>hcu r' (by simpa[AV.refs] using AV.refs_mem cs j hj r' hr')) (hr j hj))
  refine⟨_,_,_,_,hK,fun r' o hm=>?_,hrun,S,_,m2,k2,?_,?_⟩
  ·simp only[X14,X26] at hm
   rw[hm.1];exact hs2
  ·refine .own self 1 _ 1 1 (some ⟨w.heap.size,0,none⟩) rfl rfl (fun e2 sz2 es2 f2 hx2=>?_) (fun cs2 hx2=>⟨rfl,_,_,upd_same _ _ _,rfl⟩)
   simp[Ai] at hx2
  intro r' hr'
  simp only[AV.refs,X14] at hr'
  subst hr'
  simp[Ai]
 exact h.elim
theorem NY {obl:List (Option OB)} (hT:TabOk P T) (m:Mem E w S φ (fun r=>obl.getD r none)) {t len self:Nat} {cs:List AV} {vs:Array (Nat×Value)} {K:AV->W->Prop}
  (hp:If S w φ (fun r=>obl.getD r none) [(0,.agg cs)] vs.toList) (h:GE T t len self cs obl K) :
  ∃out wr u w',K out wr/\(∀r o,(r,o) ∈ wr->r<obl.length)/\(Instr.buildSlice t len vs).run P w=.ok u w'/\Post E w S φ (fun r=>obl.getD r none) out wr u w':=by
 unfold GE at h
 split at h
 ·rename_i e hk
  rw[B2,AH] at h
  simp only[X27] at h
  obtain⟨hself,⟨⟨⟨⟨c1,c2⟩,c3⟩,c4⟩,c5⟩,jq,q,n,hjq,h⟩:=h
  have hlen:len=1:=X30 c1
  subst hlen
  have hsz:(T.get e).size=cs.length:=(X30 c2).symm
  have hpos:0<(T.get e).size:=X29 c3
  have hbig:(T.get e).size<=65536:=X29 c4
  obtain⟨hs1,hs2⟩:=CN hself
  have hte:=hT.of (t:=e) (Ax c5)
  obtain⟨ie,z,hie,hi1,hi2,hz,hz1,_⟩:=hte.info
  obtain⟨u,hvs,hu,hcu⟩ :∃u,vs=#[(0,u)]/\RepA S w φ (fun r=>obl.getD r none) (.agg cs) u/\Closed (fun r=>obl.getD r none) (.agg cs):=by
   generalize hvl:vs.toList=l at hp
   cases hp with
   | @cons _ q _ l' h1 h2=>
    cases h2 with
    | nil=>
     obtain⟨q1,q2⟩:=q
     refine⟨q2,?_,h1.2.1,h1.2.2⟩
     have:q1=0:=h1.1.symm
     subst this
     exact Array.toList_inj.1 hvl
  subst hvs
  obtain⟨d,wr,S1,hK,m1,k1,hd,hx1,hw1⟩:=Dj m (FrzExt.refl _) hu h
  rw[AH] at hK
  obtain⟨hne,hK⟩:=hK
  cases hu with | agg _ us f hs hf hn hr=>
  obtain⟨r,g1,g2,g3⟩:=Great.fill_dense hpos [Value.agg us] 0 ((Array.range (1 * (T.get e).size)).map (z.cells[· % z.cells.size]!)) (by intro v hv;rw[X14.1 hv];simp only[Value.cells];omega) (by simp)
  have hrun:(Instr.buildSlice t 1 #[(0,Value.agg us)]).run P w=.ok (.slice (some ⟨w.heap.size,0,none⟩) 1 1) (w.alloc (.cells r e)):=by
   have hfill:Instr.fill (fun i=>some (i * ie.size,ie.size)) ((Array.range (1 * ie.size)).map (z.cells[· % z.cells.size]!)) #[(0,Value.agg us)].toList=some r:=by
    rw[hi1]
    exact g1
   exact run_buildSlice w t e 1 _ r ie z (A2 hT hk) hie hz (by rw[hi1];omega) (by rw[hi1];omega) hfill
  have hrs:r.size=cs.length:=by rw[g2];simp;omega
  have hrc :∀j,j<cs.length->r[j]?=some (f j):=by
   intro j hj
   rw[g3,if_pos ⟨by omega,by simp;omega⟩]
   have e1:j / (T.get e).size=0:=Nat.div_eq_of_lt (by omega)
   have e2:j % (T.get e).size=j:=Nat.mod_eq_of_lt (by omega)
   rw[e1,e2]
   simpa[Value.cells] using hf j hj
  obtain⟨dc1,dc2⟩:=hd.cells
  have dlen:d.cells.length=(T.get e).size:=by rw[<- dc1];simp only[Value.cells];omega
  have hcell :∀j (hj:j<d.cells.length),d.cells[j].isAgg=false/\RepD S1 w d.cells[j] (f j):=by
   intro j hj
   obtain⟨u,q1,q2,q3⟩:=dc2 j hj
   have:us[j]?=some (f j):=hf j (by omega)
   have q1:us[j]?=some u:=q1
   rw[this] at q1
   exact⟨q2,X25 q1 ▸ q3⟩
  have hjl:jq<cs.length:=(X16.1 hjq).1
  have hq0:Ai (fun r=>obl.getD r none) wr q≠none:=k1.c q (hcu q (by
   have:=AV.refs_mem cs jq hjl q (by rw[(X16.1 hjq).2];simp[AV.refs])
   simpa[AV.refs] using this))
  have hqr:RepA S1 w φ (Ai (fun r=>obl.getD r none) wr) (.own q n) (f jq):=by
   have:=hr jq hjl
   rw[(X16.1 hjq).2] at this
   exact k1.rep (fun r' hr'=>hcu r' (by
    have:=AV.refs_mem cs jq hjl r' (by rw[(X16.1 hjq).2];exact hr')
    simpa[AV.refs] using this)) this
  obtain⟨m2,k2⟩:=m1.alloc self (1,0) (.row e (T.get e).size [d] (.lk 0 jq q n)) r e (hx1.none hs1) (fun r' hr'=>by
   simp only[OB.refs,FZ.refs_lk,X14] at hr'
   rw[hr'];exact hq0) (fun hk2=>by
   refine⟨hpos,fun i hi=>?_,fun i hi j hj=>?_,.inr ⟨w.heap.size,(1,0),r,fun _ j=>f j,upd_same _ _ _,heap_alloc_new w _,Nat.le_refl _,by simp only[maxLen];omega,by simp only;omega,fun i j hi hj=>?_,fun i hi j hj=>?_,fun o _ ho=>absurd (m1.bS _ _ ho) (Nat.lt_irrefl _),fun i j q' n' hq hi hj=>?_⟩⟩
   ·have:i=0:=by simpa using hi
    subst this;exact dlen
   ·have:i=0:=by simpa using hi
    subst this;exact (hcell j hj).1
   ·have:i=0:=by simpa using hi
    subst this
    simpa using hrc j (by omega)
   ·have:i=0:=by simpa using hi
    subst this;exact (hcell j hj).2.mono hk2.k
   simp only[FZ.lk.injEq] at hq
   obtain⟨rfl,rfl,rfl,rfl⟩:=hq
   exact hk2.rep (fun q' hq'=>by simp only[AV.refs,X14] at hq';rw[hq'];exact hq0) hqr)
  refine⟨_,_,_,_,hK,fun r' o hm=>?_,hrun,S1,_,by rw[AS];exact m2,by rw[AS];exact k1.trans k2,?_,?_⟩
  ·rcases X23.1 hm with hm | hm
   ·obtain⟨e',sz',es',f',p1,_⟩:=hw1 r' o hm
    exact Bh obl r' _ p1
   simp only[X14,X26] at hm
   rw[hm.1];exact hs2
  ·refine .own self 1 _ 1 1 (some ⟨w.heap.size,0,none⟩) rfl rfl (fun e2 sz2 es2 f2 hx2=>?_) (fun cs hx2=>?_)
   ·rw[AS] at hx2
    simp only[Ai,upd_same,X24,OB.row.injEq] at hx2
    obtain⟨rfl,rfl,rfl,rfl⟩:=hx2
    exact⟨Nat.le_refl _,fun _=>.inr ⟨_,_,upd_same _ _ _,rfl⟩⟩
   rw[AS] at hx2
   simp[Ai] at hx2
  intro r hr
  simp only[AV.refs,X14] at hr
  subst hr
  rw[AS]
  simp[Ai]
 exact h.elim
theorem M1 {obl:List (Option OB)} (hT:TabOk P T) (m:Mem E w S φ (fun r=>obl.getD r none)) {t len self:Nat} {ps:List (Nat×AV)} {vs:Array (Nat×Value)} {K:AV->W->Prop}
  (hp:If S w φ (fun r=>obl.getD r none) ps vs.toList) (h:FS T t len self ps obl K) :
  ∃out wr u w',K out wr/\(∀r o,(r,o) ∈ wr->r<obl.length)/\(Instr.buildSlice t len vs).run P w=.ok u w'/\Post E w S φ (fun r=>obl.getD r none) out wr u w':=by
 unfold FS at h
 split at h
 ·rcases h with h | h
  ·exact JF hT m hp h
  rcases h with h | h
  ·exact OT hT m hp h
  exact NY hT m hp h
 exact JF hT m hp h
end
end Go.AX
end
section
namespace Go.AX
def ofL (objs:List OB):Nat->Option OB:=fun r=>objs[r]?
def IY (φ:Nat->Option (Nat×Rp)) (n:Nat):Nat->Prop:=fun b=>∃r c,r<n/\φ r=some (b,c)
def CallsOK (wl:WL) (P:Program) (f:FuncId) (args:List AV) (objs:List OB) (res:AV) (objs':List OB):Prop:=
 (∃ fn, P.funcs[f]? = some fn ∧ fn.name ≠ "runtime.NumGoroutine" ∧ fn.body.isSome = true) ∧
 ∀(w:World) (S:Sc) (φ:Nat->Option (Nat×Rp)) (gb:Nat->Prop) (hg:GlobOK wl gb (IY φ objs.length) S w) (vals:Array Value),vals.size=args.length->
  (∀i (hi:i<args.length),RepA S w φ (ofL objs) args[i] (vals.getD i undef)/\Closed (ofL objs) args[i])->(∀r,objs.length<=r->φ r=none)->
  Mem ⟨w,S,IY φ objs.length,wl,gb,hg⟩ w S φ (ofL objs)->
  Calls P f vals w fun e w'=>∃v,e=.returned v/\∃S' φ',Mem ⟨w,S,IY φ objs.length,wl,gb,hg⟩ w' S' φ' (ofL objs')/\Kept w S φ (ofL objs) w' S' φ' (ofL objs')/\RepA S' w' φ' (ofL objs') res v/\Closed (ofL objs') res
structure InlOK (wl:WL) (P:Program) (f:FuncId) (args:List AV) (ob:List (Option OB)) (K:AV->List (Option OB)->Prop):Prop where
 fn : ∃ fn, P.funcs[f]? = some fn ∧ fn.name ≠ "runtime.NumGoroutine" ∧ fn.body.isSome = true
 run :∀(E:Env),E.wl=wl->∀(w:World) (S:Sc) (φ:Nat->Option (Nat×Rp)) (vals:Array Value),All2 (fun a v=>RepA S w φ (fun r=>ob.getD r none) a v/\Closed (fun r=>ob.getD r none) a) args vals.toList->
  Mem E w S φ (fun r=>ob.getD r none)->
  Calls P f vals w fun e w'=>∃v,e=.returned v/\∃S' φ' r ob',K r ob'/\Mem E w' S' φ' (fun r=>ob'.getD r none)/\Kept w S φ (fun r=>ob.getD r none) w' S' φ' (fun r=>ob'.getD r none)/\
   RepA S' w' φ' (fun r=>ob'.getD r none) r v/\Closed (fun r=>ob'.getD r none) r
def OU (wl:WL) (P:Program) (cx:Cx):Prop:=cx.G=wl.G/\(∀f args objs res objs',cx.C f args objs res objs'->CallsOK wl P f args objs res objs')/\
 ∀f args ob K,cx.I f args ob K->InlOK wl P f args ob K
def sel {α:Type} (ρ:List Nat) (g:Nat->Option α):Nat->Option α:=fun i=>(ρ[i]?).bind g
section
variable {P:Program} {T:TT} {E:Env} {w:World} {S S1:Sc} {φ:Nat->Option (Nat×Rp)} {ob:Nat->Option OB} {wr1:W}
theorem Yl (r:Nat) :∀(l:List Nat) (n:Nat) (F N:Nat->Prop),IP.go r l n F N->(∃k,l[k]?=some r/\F (n + k))\/(r ∉ l/\N (n + l.length))
 | [],n,F,N,h=>.inr ⟨by simp,h⟩
 | x::l,n,F,N,h=>by
  simp only[IP.go] at h
  cases hb:Nat.beq x r with
  | true=>
   simp only[hb] at h
   have:=X30 hb
   exact .inl ⟨0,by simp[this],h⟩
  | false=>
   simp only[hb] at h
   have hne:x≠r:=fun e=>by subst e;rw[show Nat.beq x x=true from Nat.beq_refl x] at hb;simp at hb
   rcases Yl r l (n + 1) F N h with ⟨k,h1,h2⟩|⟨h1,h2⟩
   ·exact .inl ⟨k + 1,by simpa using h1,by rw[show n + (k + 1)=n + 1 + k by omega];exact h2⟩
   exact .inr ⟨by simp[h1,Ne.symm hne],by rw[show n + (x::l).length=n + 1 + l.length by simp;omega];exact h2⟩
def Ext (ρ ρ':List Nat):Prop:=∃l,ρ'=ρ++l
theorem Ext.refl (ρ:List Nat):Ext ρ ρ:=⟨[],by simp⟩
theorem Ext.trans {a b c:List Nat} (h:Ext a b) (k:Ext b c):Ext a c:=by
 obtain⟨l,rfl⟩:=h;obtain⟨l',rfl⟩:=k;exact⟨l++l',by simp⟩
theorem Ext.get {ρ ρ':List Nat} (h:Ext ρ ρ') {i:Nat} (hi:i<ρ.length):ρ'[i]?=ρ[i]?:=by
 obtain⟨l,rfl⟩:=h
 exact List.getElem?_append_left hi
theorem Hf {r:Nat} {ρ:List Nat} {K:Nat->List Nat->Prop} (hn:ρ.Nodup) (h:IP.refK r ρ K) :∃i ρ',K i ρ'/\ρ'[i]?=some r/\Ext ρ ρ'/\ρ'.Nodup/\∀x ∈ ρ',x ∈ ρ\/x=r:=by
 rcases Yl r ρ 0 _ _ h with ⟨k,h1,h2⟩|⟨h1,h2⟩
 ·rw[Nat.zero_add] at h2
  exact⟨k,ρ,h2,h1,.refl ρ,hn,fun x hx=>.inl hx⟩
 rw[Nat.zero_add] at h2
 refine⟨_,_,h2,by simp,⟨[r],rfl⟩,?_,fun x hx=>?_⟩
 ·rw[List.nodup_append]
  exact⟨hn,by simp,fun a ha b hb=>by simp at hb;subst hb;exact fun e=>h1 (e ▸ ha)⟩
 simpa using hx
def SeenAs (S:Sc) (w:World) (φ:Nat->Option (Nat×Rp)) (ob:Nat->Option OB) (ρ:List Nat) (a:AV) (v:Value):Prop:=
 RepA S w (sel ρ φ) (sel ρ ob) a v/\∀r ∈ a.refs,r<ρ.length
theorem SeenAs.ext {ρ ρ':List Nat} {a:AV} {v:Value} (h:SeenAs S w φ ob ρ a v) (hx:Ext ρ ρ'):SeenAs S w φ ob ρ' a v:=by
 obtain⟨h1,h2⟩:=h
 refine⟨h1.mono (fun _ _ h=>⟨h,rfl⟩) fun r hr=>.inl ?_,fun r hr=>?_⟩
 ·have:=hx.get (h2 r hr)
  simp[sel,this]
 have:=h2 r hr
 obtain⟨l,rfl⟩:=hx
 simp;omega
theorem SeenAs.kept {w':World} {S':Sc} {ob':Nat->Option OB} {ρ:List Nat} {a:AV} {v:Value} (h:SeenAs S w φ ob ρ a v) (k:Kept w S φ ob w' S' φ ob') (hc :∀r ∈ ρ,ob r≠none):SeenAs S' w' φ ob' ρ a v:=by
 obtain⟨h1,h2⟩:=h
 refine⟨h1.mono k.k fun r hr=>?_,h2⟩
 have hlt:=h2 r hr
 have hg:ρ[r]?=some ρ[r]:=X15 hlt
 have:=k.r ρ[r] (hc _ (List.getElem_mem hlt))
 simpa[RefOK,sel,hg] using this
theorem Ys {ρ:List Nat} {r i n:Nat} {v:Value} (h:RepA S w φ ob (.own r n) v) (hi:ρ[i]?=some r):SeenAs S w φ ob ρ (.own i n) v:=by
 have hlt:=(X16.1 hi).1
 refine⟨?_,fun r' hr'=>by simp only[AV.refs,X14] at hr';omega⟩
 cases h with | own _ _ _ k c a0 hv hk h1 hb=>
 refine .own i n v k c a0 hv hk (fun e sz es frz hx=>?_) fun cs hx=>?_
 ·simp only[sel,hi,Option.bind_some] at hx
  obtain⟨g1,g2⟩:=h1 e sz es frz hx
  refine⟨g1,fun hn=>?_⟩
  have:=g2 hn
  unfold Hm at *
  simpa[sel,hi] using this
 simp only[sel,hi,Option.bind_some] at hx
 obtain⟨g1,b,c',g2,g3⟩:=hb cs hx
 exact⟨g1,b,c',by simpa[sel,hi] using g2,g3⟩
theorem UV {ρ:List Nat} {r i off:Nat} {v:Value} (h:RepA S w φ ob (.ref r off) v) (hi:ρ[i]?=some r):SeenAs S w φ ob ρ (.ref i off) v:=by
 have hlt:=(X16.1 hi).1
 refine⟨?_,fun r' hr'=>by simp only[AV.refs,X14] at hr';omega⟩
 cases h with | ref _ _ b c hφ hb=>
 exact .ref i off b c (by simpa[sel,hi] using hφ) fun e sz es frz hx=>hb e sz es frz (by simpa[sel,hi] using hx)
theorem Zv {ρ:List Nat} {r i:Nat} {v:Value} (h:RepA S w φ ob (.mp r) v) (hi:ρ[i]?=some r):SeenAs S w φ ob ρ (.mp i) v:=by
 have hlt:=(X16.1 hi).1
 refine⟨?_,fun r' hr'=>by simp only[AV.refs,X14] at hr';omega⟩
 cases h with | mp _ b c hφ hb hc=>
 exact .mp i b c (by simpa[sel,hi] using hφ) (fun e sz es frz hx=>hb e sz es frz (by simpa[sel,hi] using hx)) fun cs hx=>hc cs (by simpa[sel,hi] using hx)
theorem aA {ρ:List Nat} {f r i:Nat} {v:Value} (h:RepA S w φ ob (.it f r) v) (hi:ρ[i]?=some r):SeenAs S w φ ob ρ (.it f i) v:=by
 have hlt:=(X16.1 hi).1
 refine⟨?_,fun r' hr'=>by simp only[AV.refs,X14] at hr';omega⟩
 cases h with | it _ _ b c B hφ hb hc hS hm=>
 exact .it f i b c B (by simpa[sel,hi] using hφ) (fun e sz es frz hx=>hb e sz es frz (by simpa[sel,hi] using hx)) (fun cs hx=>hc cs (by simpa[sel,hi] using hx)) hS hm
theorem Vx {obl:List (Option OB)} {keep:Bool} (m:Mem E w S φ ob) (hx:FrzExt (fun r=>obl.getD r none) ob) {a:AV} {v:Value} {ρ:List Nat} (hn:ρ.Nodup) {K:AV->List Nat->W->Prop} (ha:RepA S w φ ob a v)
  (hcl:Closed (fun r=>obl.getD r none) a) (h:IP keep obl a ρ K) :
  ∃a' ρ' wr S',K a' ρ' wr/\Mem E w S' φ (Ai ob wr)/\Kept w S φ ob w S' φ (Ai ob wr)/\FrzExt (fun r=>obl.getD r none) (Ai ob wr)/\SV obl wr/\Ext ρ ρ'/\ρ'.Nodup/\
   (∀x ∈ ρ',x ∈ ρ\/obl.getD x none≠none)/\SeenAs S' w φ (Ai ob wr) ρ' a' v:=by
 have data :∀{K:D->W->Prop},toD obl a K->∃x wr S',K x wr/\Mem E w S' φ (Ai ob wr)/\Kept w S φ ob w S' φ (Ai ob wr)/\FrzExt (fun r=>obl.getD r none) (Ai ob wr)/\SV obl wr/\SeenAs S' w φ (Ai ob wr) ρ (.d x) v:=by
  intro K h
  obtain⟨x,wr,S',h1,h2,h3,h4,h5,h6⟩:=Dj m hx ha h
  exact⟨x,wr,S',h1,h2,h3,h5,h6,.d _ _ h4,fun r hr=>by simp[AV.refs] at hr⟩
 cases a<;>simp only[IP] at h
 case d x=>
  split at h
  ·cases ha with | d _ _ ha=>
   exact⟨_,ρ,[],S,h,m,.refl w S φ ob,hx,fun _ _ hm=>by simp at hm,.refl ρ,hn,fun x hx=>.inl hx,.d _ _ ha,fun r hr=>by simp[AV.refs] at hr⟩
  rw[D4] at h
  cases ha with | d _ _ ha=>
  exact⟨_,ρ,[],S,h,m,.refl w S φ ob,hx,fun _ _ hm=>by simp at hm,.refl ρ,hn,fun x hx=>.inl hx,.d _ _ ha.norm,fun r hr=>by simp[AV.refs] at hr⟩
 case agg cs=>
  obtain⟨x,wr,S',h1,h2,h3,h4,h5,h6⟩:=data h
  exact⟨_,ρ,wr,S',h1,h2,h3,h4,h5,.refl ρ,hn,fun x hx=>.inl hx,h6⟩
 case ref r off=>
  obtain⟨i,ρ',h1,h2,h3,h4,h5⟩:=Hf hn h
  refine⟨_,ρ',[],S,h1,m,.refl w S φ ob,hx,fun _ _ hm=>by simp at hm,h3,h4,fun x hx'=>?_,UV ha h2⟩
  rcases h5 x hx' with h | h
  ·exact .inl h
  exact .inr (hcl x (by simp[AV.refs,h]))
 case mp r=>
  obtain⟨i,ρ',h1,h2,h3,h4,h5⟩:=Hf hn h
  refine⟨_,ρ',[],S,h1,m,.refl w S φ ob,hx,fun _ _ hm=>by simp at hm,h3,h4,fun x hx'=>?_,Zv ha h2⟩
  rcases h5 x hx' with h | h
  ·exact .inl h
  exact .inr (hcl x (by simp[AV.refs,h]))
 case it f r=>
  obtain⟨i,ρ',h1,h2,h3,h4,h5⟩:=Hf hn h
  refine⟨_,ρ',[],S,h1,m,.refl w S φ ob,hx,fun _ _ hm=>by simp at hm,h3,h4,fun x hx'=>?_,aA ha h2⟩
  rcases h5 x hx' with h | h
  ·exact .inl h
  exact .inr (hcl x (by simp[AV.refs,h]))
 case own r n=>
  cases keep with
  | true=>
   obtain⟨i,ρ',h1,h2,h3,h4,h5⟩:=Hf hn h
   refine⟨_,ρ',[],S,h1,m,.refl w S φ ob,hx,fun _ _ hm=>by simp at hm,h3,h4,fun x hx'=>?_,Ys ha h2⟩
   rcases h5 x hx' with h | h
   ·exact .inl h
   exact .inr (hcl x (by simp[AV.refs,h]))
  | false=>
   obtain⟨x,wr,S',h1,h2,h3,h4,h5,h6⟩:=data h
   exact⟨_,ρ,wr,S',h1,h2,h3,h4,h5,.refl ρ,hn,fun x hx=>.inl hx,h6⟩
 case eref cs=>
  refine⟨_,ρ,[],S,h,m,.refl w S φ ob,hx,fun _ _ hm=>by simp at hm,.refl ρ,hn,fun x hx=>.inl hx,?_,fun r hr=>by simp[AV.refs] at hr⟩
  exact ha.mono (fun _ _ h=>⟨h,rfl⟩) fun r hr=>by simp[AV.refs] at hr
 case fn f caps=>
  cases ha with | fn _ _ vs g hs hf hr=>
  have key :∀(caps:List AV) (off:Nat) (ρ:List Nat) (K:List AV->List Nat->Prop) (_:ρ.Nodup) (_ :∀i (hi:i<caps.length),RepA S w φ ob caps[i] (g (off + i))) (_ :∀r ∈ AV.refs.refsL caps,obl.getD r none≠none)
    (_:IP.capsK caps ρ K),∃caps' ρ',K caps' ρ'/\caps'.length=caps.length/\Ext ρ ρ'/\ρ'.Nodup/\(∀x ∈ ρ',x ∈ ρ\/obl.getD x none≠none)/\∀i (hi:i<caps'.length),SeenAs S w φ ob ρ' caps'[i] (g (off + i)):=by
   intro caps
   induction caps with
   | nil=>intro off ρ K hn _ _ h;exact⟨[],ρ,h,rfl,.refl ρ,hn,fun x hx=>.inl hx,fun i hi=>by simp at hi⟩
   | cons c caps ih=>
    intro off ρ K hn hr hc h
    cases c<;>simp only[IP.capsK] at h
    case ref r o=>
     obtain⟨i,ρ1,h1,h2,h3,h4,h5⟩:=Hf hn h
     obtain⟨caps',ρ2,g1,g2,g3,g4,g5,g6⟩:=ih (off + 1) ρ1 _ h4 (fun i hi=>by
      have:=hr (i + 1) (by simpa using hi)
      simpa[Nat.add_assoc,Nat.add_comm 1 i] using this) (fun r hr=>hc r (by simp[AV.refs.refsL,hr])) h1
     refine⟨_,ρ2,g1,by simp[g2],h3.trans g3,g4,fun x hx=>?_,fun j hj=>?_⟩
     ·rcases g5 x hx with h | h
      ·rcases h5 x h with h | h
       ·exact .inl h
       exact .inr (hc x (by simp[AV.refs.refsL,AV.refs,h]))
      exact .inr h
     cases j with
     | zero=>
      have:=hr 0 (by simp)
      simp only[List.getElem_cons_zero] at this
      exact (UV this h2).ext g3
     | succ j=>
      have:=g6 j (by simpa using hj)
      simpa[Nat.add_assoc,Nat.add_comm 1 j] using this
  obtain⟨caps',ρ',g1,g2,g3,g4,g5,g6⟩:=key caps 0 ρ _ hn (fun i hi=>by simpa using hr i hi) (fun r hr=>hcl r (by simpa[AV.refs] using hr)) h
  refine⟨_,ρ',[],S,g1,m,.refl w S φ ob,hx,fun _ _ hm=>by simp at hm,g3,g4,g5,.fn f caps' vs g (by omega) (fun i hi=>hf i (by omega)) (fun i hi=>by have:=(g6 i hi).1;rw[Nat.zero_add] at this;exact this),fun r hr=>?_⟩
  obtain⟨c,hc1,hc2⟩:=AV.refs_mem' caps' r (by simpa[AV.refs] using hr)
  obtain⟨j,hj,rfl⟩:=List.getElem_of_mem hc1
  exact (g6 j hj).2 r hc2
theorem Jk {obl:List (Option OB)} {keep:List Bool} :∀{asz:List AV} {vs:List Value} {S:Sc} {ob:Nat->Option OB} {ρ:List Nat} {K:List AV->List Nat->W->Prop} (_:Mem E w S φ ob) (_:FrzExt (fun r=>obl.getD r none) ob) (_:ρ.Nodup)
  (_:All2 (fun a v=>RepA S w φ ob a v/\Closed (fun r=>obl.getD r none) a) asz vs) (_:OJ keep obl asz ρ K),
  ∃asz' ρ' wr S',K asz' ρ' wr/\Mem E w S' φ (Ai ob wr)/\Kept w S φ ob w S' φ (Ai ob wr)/\FrzExt (fun r=>obl.getD r none) (Ai ob wr)/\SV obl wr/\Ext ρ ρ'/\ρ'.Nodup/\
   (∀x ∈ ρ',x ∈ ρ\/obl.getD x none≠none)/\All2 (fun a v=>SeenAs S' w φ (Ai ob wr) ρ' a v) asz' vs
 | [],[],S,ob,ρ,K,m,hx,hn,_,h=>⟨[],ρ,[],S,h,m,.refl w S φ ob,hx,fun _ _ hm=>by simp at hm,.refl ρ,hn,fun x hx=>.inl hx,.nil⟩
 | a::asz,v::vs,S,ob,ρ,K,m,hx,hn,hv,h=>by
  cases hv with | cons h1 h2=>
  simp only[OJ] at h
  obtain⟨a',ρ1,wr,S1,hK,m1,k1,hx1,hw1,e1,n1,r1,s1⟩:=Vx m hx hn h1.1 h1.2 h
  have hcl :∀{r:Nat},obl.getD r none≠none->ob r≠none:=by
   intro r hr
   rcases hx r with e1 | ⟨e,sz,es,f,e1,e2⟩
   ·rw[e1];exact hr
   rw[e2];simp
  obtain⟨asz',ρ2,wr2,S2,g1,g2,g3,g4,g5,g6,g7,g8,g9⟩:=Jk m1 hx1 n1 (h2.imp fun a v hav=>⟨k1.rep (fun r hr=>hcl (hav.2 r hr)) hav.1,hav.2⟩) hK
  refine⟨a'::asz',ρ2,wr++wr2,S2,g1,by rw[AS];exact g2,by rw[AS];exact k1.trans g3,by rw[AS];exact g4,fun r o hm=>?_,e1.trans g6,g7,fun x hx'=>?_,?_⟩
  ·rcases X23.1 hm with hm | hm
   ·exact hw1 r o hm
   exact g5 r o hm
  ·rcases g8 x hx' with h | h
   ·exact r1 x h
   exact .inr h
  rw[AS]
  refine .cons ?_ g9
  obtain⟨s2,s3⟩:=s1.ext g6
  refine⟨s2.mono g3.k fun r hr=>?_,s3⟩
  have hlt:=s1.2 r hr
  have hlt2:=s3 r hr
  have hg1:ρ1[r]?=some ρ1[r]:=X15 hlt
  have hg2:ρ2[r]?=some ρ1[r]:=(g6.get hlt).trans hg1
  by_cases hno:Ai ob wr ρ1[r]=none
  ·have hno2:obl.getD ρ1[r] none=none:=by
    rcases hx1 ρ1[r] with e | ⟨e,sz,es,f,_,e2⟩
    ·exact e.symm.trans hno
    rw[hno] at e2;simp at e2
   have:Ai (Ai ob wr) wr2 ρ1[r]=none:=g4.none hno2
   refine .inl ⟨by simp[sel,hg2],?_,?_⟩<;>simp[sel,hg2,this,hno]
  have:=g3.r ρ1[r] hno
  simpa[RefOK,sel,hg2] using this
 | [],_::_,_,_,_,_,_,_,_,hv,_=>by cases hv
 | _::_,[],_,_,_,_,_,_,_,hv,_=>by cases hv
theorem G8 (cs:List AV) (K:List AV->Prop):Gi.cellsD cs K↔(BE (.box cs)=true/\K cs):=by
 induction cs generalizing K with
 | nil=>simp[Gi.cellsD,BE]
 | cons c cs ih=>
  cases c<;>simp only[Gi.cellsD,BE,List.all_cons]<;>simp
  simpa[BE] using ih _
theorem GT {obl:List (Option OB)} :∀{ρ:List Nat} {K:List OB->Prop},Gi obl ρ K->∃objs,K objs/\objs.length=ρ.length/\∀i (hi:i<objs.length) (hi':i<ρ.length),obl.getD ρ[i] none=some objs[i]/\BE objs[i]=true
 | [],K,h=>⟨[],h,rfl,fun i hi=>by simp at hi⟩
 | r::ρ,K,h=>by
  simp only[Gi,Ar] at h
  obtain⟨o,ho,h⟩:=h
  cases o with
  | box cs=>
   simp only[G8] at h
   obtain⟨hc,h⟩:=h
   obtain⟨objs,g1,g2,g3⟩:=GT h
   refine⟨.box cs::objs,g1,by simp[g2],fun i hi hi'=>?_⟩
   cases i with
   | zero=>exact⟨ho,hc⟩
   | succ i=>exact g3 i (by simpa using hi) (by simpa using hi')
  | row e sz es f=>
   simp only[AH] at h
   obtain⟨hl,h⟩:=h
   obtain⟨objs,g1,g2,g3⟩:=GT h
   refine⟨.row e sz es f::objs,g1,by simp[g2],fun i hi hi'=>?_⟩
   cases i with
   | zero=>exact⟨ho,hl⟩
   | succ i=>exact g3 i (by simpa using hi) (by simpa using hi')
  | amap=>exact h.elim
  | gone=>exact h.elim
  | map k e es=>
   simp only at h
   obtain⟨objs,g1,g2,g3⟩:=GT h
   refine⟨.map k e es::objs,g1,by simp[g2],fun i hi hi'=>?_⟩
   cases i with
   | zero=>exact⟨ho,rfl⟩
   | succ i=>exact g3 i (by simpa using hi) (by simpa using hi')
theorem N7 {self:Nat} :∀{ρ:List Nat} {objs:List OB} {K:W->Prop},IF ρ self objs K->
  ∃wr,K wr/\(∀o ∈ objs,BE o=true)/\(objs.length=ρ.length\/objs.length=ρ.length + 1)/\wr=(ρ++[self]).zip objs
 | [],[],K,h=>⟨[],h,by simp,.inl rfl,rfl⟩
 | [],[o],K,h=>by
  simp only[IF] at h
  split at h
  ·rename_i hc;exact⟨_,h,by simpa using hc,.inr rfl,rfl⟩
  exact h.elim
 | r::ρ,o::os,K,h=>by
  simp only[IF] at h
  split at h
  ·rename_i hc
   obtain⟨wr,g1,g2,g3,g4⟩:=N7 h
   refine⟨_,g1,fun x hx=>?_,by simpa using g3,by simp[g4]⟩
   rcases List.mem_cons.1 hx with e | e
   ·rw[e];exact hc
   exact g2 x e
  exact h.elim
 | [],_::_::_,K,h=>by simp[IF] at h
 | _::_,[],K,h=>by simp[IF] at h
theorem ObjOK.rename {φ':Nat->Option (Nat×Rp)} {ob':Nat->Option OB} {r r':Nat} {o:OB} (h:ObjOK S w φ ob r o) (hc:BE o=true) (hφ:φ' r'=φ r):ObjOK S w φ' ob' r' o:=by
 cases o with
 | box cs=>
  obtain⟨b,c,vs,e,f,h1,h2,h3,h4,h5,h6⟩:=h
  refine⟨b,c,vs,e,f,hφ.trans h1,h2,h3,h4,h5,fun j hj=>⟨(h6 j hj).1,?_⟩⟩
  have h7:=(h6 j hj).2
  have :∃x,cs[j]=.d x:=by
   simp only[BE,List.all_eq_true] at hc
   have:=hc cs[j] (List.getElem_mem hj)
   revert this
   cases cs[j]<;>simp
  obtain⟨x,hx⟩:=this
  rw[hx] at h7 ⊢
  cases h7 with | d _ _ h=>exact .d _ _ h
 | row e sz es frz=>
  obtain⟨h0,h1,h2,h3⟩:=h
  exact⟨h0,h1,h2,h3.imp (fun g=>⟨hφ.trans g.1,g.2⟩) fun ⟨b,cap,vs,f,g1,q2,q3,q4,q5,q6,q7,q8⟩=>⟨b,cap,vs,f,hφ.trans g1,q2,q3,q4,q5,q6,q7,q8.1,fun i j q n hf _ _=>(FZ.notlk (by simpa[BE] using hc) hf).elim⟩⟩
 | gone=>trivial
 | map k e es=>
  obtain⟨b,c,arr,clock,h1,h2⟩:=h
  exact⟨b,c,arr,clock,hφ.trans h1,h2⟩
 | amap=>simp[BE] at hc
theorem Ij {o:OB} (h:BE o=true):o.refs=[]:=by
 cases o with
 | box cs=>
  simp only[OB.refs]
  simp only[BE,List.all_eq_true] at h
  induction cs with
  | nil=>rfl
  | cons c cs ih=>
   simp only[AV.refs.refsL]
   rw[ih fun x hx=>h x (by simp[hx])]
   have:=h c (by simp)
   revert this
   cases c<;>simp[AV.refs]
 | row e sz es f=>
  cases f with
  | lk=>simp[BE] at h
  | _=>rfl
 | amap=>simp[BE] at h
 | map=>rfl
 | gone=>rfl
theorem Vz {ρ:List Nat} {self:Nat} {φ':Nat->Option (Nat×Rp)} {ob':Nat->Option OB} {a:AV} {v:Value} {K:AV->Prop} (ha:RepA S w φ ob a v) (hcl:Closed ob a)
  (hr :∀i,ob i≠none->φ' (ρ.getD i self)=φ i/\ob' (ρ.getD i self)=ob i) (h:Oe ρ self a K) :∃a',K a'/\RepA S w φ' ob' a' v/\Closed ob' a':=by
 have own :∀{i n:Nat} {v:Value},RepA S w φ ob (.own i n) v->ob i≠none->RepA S w φ' ob' (.own (ρ.getD i self) n) v:=by
  intro i n v h hne
  obtain⟨e1,e2⟩:=hr i hne
  cases h with | own _ _ _ k c a0 hv hk h1 hb=>
  refine .own _ n v k c a0 hv hk (fun e sz es frz hx=>?_) (fun cs hx=>by
   obtain⟨g1,b,c',g2,g3⟩:=hb cs (e2 ▸ hx)
   exact⟨g1,b,c',e1.trans g2,g3⟩)
  rw[e2] at hx
  obtain⟨g1,g2⟩:=h1 e sz es frz hx
  refine⟨g1,fun hn=>?_⟩
  have:=g2 hn
  unfold Hm at *
  rwa [e1]
 have ref :∀{i off:Nat} {v:Value},RepA S w φ ob (.ref i off) v->ob i≠none->RepA S w φ' ob' (.ref (ρ.getD i self) off) v:=by
  intro i off v h hne
  obtain⟨e1,e2⟩:=hr i hne
  cases h with | ref _ _ b c hφ hb=>exact .ref _ off b c (e1.trans hφ) fun e sz es frz hx=>hb e sz es frz (e2 ▸ hx)
 have cl :∀{i:Nat},ob i≠none->ob' (ρ.getD i self)≠none:=fun {i} hne=>by rw[(hr i hne).2];exact hne
 have mp :∀{i:Nat} {v:Value},RepA S w φ ob (.mp i) v->ob i≠none->RepA S w φ' ob' (.mp (ρ.getD i self)) v:=by
  intro i v h hne
  obtain⟨e1,e2⟩:=hr i hne
  cases h with | mp _ b c hφ hb hc=>exact .mp _ b c (e1.trans hφ) (fun e sz es frz hx=>hb e sz es frz (e2 ▸ hx)) fun cs hx=>hc cs (e2 ▸ hx)
 have key :∀(f:Nat->Value) (cs:List AV) (off:Nat) (K:List AV->Prop) (_ :∀i (hi:i<cs.length),RepA S w φ ob cs[i] (f (off + i))) (_ :∀c ∈ cs,Closed ob c) (_:Oe.renTup ρ self cs K),
   ∃cs',K cs'/\cs'.length=cs.length/\cs'.map AV.one=cs.map AV.one/\∀i (hi:i<cs'.length),RepA S w φ' ob' cs'[i] (f (off + i))/\Closed ob' cs'[i]:=by
  intro f cs
  induction cs with
  | nil=>intro off K _ _ h;exact⟨[],h,rfl,rfl,fun i hi=>by simp at hi⟩
  | cons c cs ih=>
   intro off K hr' hc h
   have h0:=hr' 0 (by simp)
   simp only[List.getElem_cons_zero,Nat.add_zero] at h0
   have hc0:=hc c (by simp)
   have go :∀(c':AV),c'.one=c.one->RepA S w φ' ob' c' (f off)->Closed ob' c'->Oe.renTup ρ self cs (fun l=>K (c'::l))->∃cs',K cs'/\cs'.length=(c::cs).length/\cs'.map AV.one=(c::cs).map AV.one/\∀i (hi:i<cs'.length),RepA S w φ' ob' cs'[i] (f (off + i))/\Closed ob' cs'[i]:=by
    intro c' q0 q1 q2 h
    obtain⟨cs',g1,g2,gm,g3⟩:=ih (off + 1) _ (fun i hi=>by
     have:=hr' (i + 1) (by simpa using hi)
     simpa[Nat.add_assoc,Nat.add_comm 1 i] using this) (fun x hx=>hc x (by simp[hx])) h
    refine⟨c'::cs',g1,by simp[g2],by simp only[List.map_cons,q0,gm],fun i hi=>?_⟩
    cases i with
    | zero=>exact⟨q1,q2⟩
    | succ i=>
     have:=g3 i (by simpa using hi)
     simpa[Nat.add_assoc,Nat.add_comm 1 i] using this
   cases c<;>simp only[Oe.renTup] at h
   case d x=>cases h0 with | d _ _ h0=>exact go _ rfl (.d _ _ h0) (A6 _ _) h
   case ref i o=>
    have hne:=hc0 i (by simp[AV.refs])
    exact go (.ref (ρ.getD i self) o) rfl (ref h0 hne) (fun r hr'=>by simp only[AV.refs,X14] at hr';rw[hr'];exact cl hne) h
   case own i o=>
    have hne:=hc0 i (by simp[AV.refs])
    exact go (.own (ρ.getD i self) o) rfl (own h0 hne) (fun r hr'=>by simp only[AV.refs,X14] at hr';rw[hr'];exact cl hne) h
 cases a<;>simp only[Oe] at h
 case d x=>cases ha with | d _ _ ha=>exact⟨_,h,.d _ _ ha,A6 _ _⟩
 case ref i off=>
  have hne:=hcl i (by simp[AV.refs])
  exact⟨_,h,ref ha hne,fun r hr'=>by simp only[AV.refs,X14] at hr';rw[hr'];exact cl hne⟩
 case own i n=>
  have hne:=hcl i (by simp[AV.refs])
  exact⟨_,h,own ha hne,fun r hr'=>by simp only[AV.refs,X14] at hr';rw[hr'];exact cl hne⟩
 case mp i=>
  have hne:=hcl i (by simp[AV.refs])
  exact⟨_,h,mp ha hne,fun r hr'=>by simp only[AV.refs,X14] at hr';rw[hr'];exact cl hne⟩
 case it f i=>
  have hne:=hcl i (by simp[AV.refs])
  obtain⟨e1,e2⟩:=hr i hne
  cases ha with | it _ _ b c B hφ hb hc hS hm=>
  exact⟨_,h,.it f _ b c B (e1.trans hφ) (fun e sz es frz hx=>hb e sz es frz (e2 ▸ hx)) (fun cs hx=>hc cs (e2 ▸ hx)) hS hm,fun r hr'=>by simp only[AV.refs,X14] at hr';rw[hr'];exact cl hne⟩
 case agg cs=>
  cases ha with | agg _ vs f hs hf hone hrr=>
  obtain⟨cs',g1,g2,gm,g3⟩:=key f cs 0 _ (fun i hi=>by simpa using hrr i hi) (fun c hm r hr'=>by
   obtain⟨j,hj,rfl⟩:=List.getElem_of_mem hm
   exact hcl r (by simpa[AV.refs] using AV.refs_mem cs j hj r hr')) h
  refine⟨_,g1,.agg cs' vs f (by omega) (fun i hi=>hf i (by omega)) (fun i hi=>by
   have e:(cs'.map AV.one)[i]'(by simpa using hi)=(cs.map AV.one)[i]'(by simp;omega):=by simp only[gm]
   simp only[List.getElem_map] at e
   rw[e];exact hone i (by omega)) (fun i hi=>by have:=(g3 i hi).1;rw[Nat.zero_add] at this;exact this),fun r hr'=>?_⟩
  obtain⟨c,h1,h2⟩:=AV.refs_mem' cs' r (by simpa[AV.refs] using hr')
  obtain⟨j,hj,rfl⟩:=List.getElem_of_mem h1
  exact (g3 j hj).2 r h2
 case tup cs=>
  cases ha with | tup _ vs f hs hf hrr=>
  obtain⟨cs',g1,g2,gm,g3⟩:=key f cs 0 _ (fun i hi=>by simpa using hrr i hi) (fun c hm r hr'=>by
   obtain⟨j,hj,rfl⟩:=List.getElem_of_mem hm
   exact hcl r (by simpa[AV.refs] using AV.refs_mem cs j hj r hr')) h
  refine⟨_,g1,.tup cs' vs f (by omega) (fun i hi=>hf i (by omega)) (fun i hi=>by have:=(g3 i hi).1;rw[Nat.zero_add] at this;exact this),fun r hr'=>?_⟩
  obtain⟨c,h1,h2⟩:=AV.refs_mem' cs' r (by simpa[AV.refs] using hr')
  obtain⟨j,hj,rfl⟩:=List.getElem_of_mem h1
  exact (g3 j hj).2 r h2
def Xr (ρ:List Nat) (self:Nat):AV->Option AV
 | .d x=>some (.d x)
 | .ref i off=>some (.ref (ρ.getD i self) off)
 | .own i n=>some (.own (ρ.getD i self) n)
 | .mp i=>some (.mp (ρ.getD i self))
 | .it f i=>some (.it f (ρ.getD i self))
 | .tup vs=>(renT vs).map .tup
 | .agg vs=>(renT vs).map .agg
 | _=>none where
 renT:List AV->Option (List AV)
  | []=>some []
  | .d x::l=>(renT l).map (.d x::·)
  | .ref i off::l=>(renT l).map (.ref (ρ.getD i self) off::·)
  | .own i n::l=>(renT l).map (.own (ρ.getD i self) n::·)
  | _::_=>none
theorem Jn (ρ:List Nat) (self:Nat) (a:AV) (K:AV->Prop):Oe ρ self a K ↔∃a',Xr ρ self a=some a'/\K a':=by
 have tup :∀(l:List AV) (K:List AV->Prop),Oe.renTup ρ self l K ↔∃l',Xr.renT ρ self l=some l'/\K l':=by
  intro l
  induction l with
  | nil=>intro K;simp[Oe.renTup,Xr.renT]
  | cons c l ih=>
   intro K
   cases c<;>simp only[Oe.renTup,Xr.renT,ih,Option.map_eq_some_iff]
   case d=>exact⟨fun ⟨l',h1,h2⟩=>⟨_,⟨l',h1,rfl⟩,h2⟩,fun ⟨_,⟨l',h1,h3⟩,h2⟩=>⟨l',h1,h3 ▸ h2⟩⟩
   case ref=>exact⟨fun ⟨l',h1,h2⟩=>⟨_,⟨l',h1,rfl⟩,h2⟩,fun ⟨_,⟨l',h1,h3⟩,h2⟩=>⟨l',h1,h3 ▸ h2⟩⟩
   case own=>exact⟨fun ⟨l',h1,h2⟩=>⟨_,⟨l',h1,rfl⟩,h2⟩,fun ⟨_,⟨l',h1,h3⟩,h2⟩=>⟨l',h1,h3 ▸ h2⟩⟩
   all_goals simp
 cases a<;>simp only[Oe,Xr,tup,Option.map_eq_some_iff]
 case agg=>exact⟨fun ⟨l',h1,h2⟩=>⟨_,⟨l',h1,rfl⟩,h2⟩,fun ⟨_,⟨l',h1,h3⟩,h2⟩=>⟨l',h1,h3 ▸ h2⟩⟩
 case tup=>exact⟨fun ⟨l',h1,h2⟩=>⟨_,⟨l',h1,rfl⟩,h2⟩,fun ⟨_,⟨l',h1,h3⟩,h2⟩=>⟨l',h1,h3 ▸ h2⟩⟩
 all_goals simp
theorem EL :∀(wr:W) (ob:Nat->Option OB) (r:Nat),(∀x ∈ wr,x.1≠r)->Ai ob wr r=ob r
 | [],ob,r,_=>rfl
 | (r',o)::wr,ob,r,h=>by
  simp only[Ai]
  rw[EL wr _ r fun x hx=>h x (by simp[hx]),AP _ _ _ _ (Ne.symm (h (r',o) (by simp)))]
theorem Qb :∀(ρ:List Nat) (objs:List OB) (ob:Nat->Option OB),ρ.Nodup->ρ.length=objs.length->
  (∀i (hi:i<ρ.length) (hi':i<objs.length),Ai ob (ρ.zip objs) ρ[i]=some objs[i])/\∀r,r ∉ ρ->Ai ob (ρ.zip objs) r=ob r
 | [],[],ob,_,_=>⟨fun i hi=>by simp at hi,fun r _=>rfl⟩
 | r::ρ,o::objs,ob,hn,hl=>by
  obtain⟨hr,hn'⟩:=List.nodup_cons.1 hn
  obtain⟨h1,h2⟩:=Qb ρ objs (upd ob r (some o)) hn' (by simpa using hl)
  simp only[List.zip_cons_cons,Ai]
  refine⟨fun i hi hi'=>?_,fun r' hr'=>?_⟩
  ·cases i with
   | zero=>simp only[List.getElem_cons_zero];rw[h2 r hr,upd_same]
   | succ i=>exact h1 i (by simpa using hi) (by simpa using hi')
  simp only[List.mem_cons,not_or] at hr'
  rw[h2 r' hr'.2,AP _ _ _ _ hr'.1]
 | [],_::_,_,_,hl=>by simp at hl
 | _::_,[],_,_,hl=>by simp at hl
theorem UJ {α β:Type} :∀(l:List α) (k:List β),l.zip k=(l.take k.length).zip k
 | [],k=>by simp
 | x::l,[]=>by simp
 | x::l,y::k=>by simp[<- UJ l k]
def back (ρ:List Nat) (φ φ':Nat->Option (Nat×Rp)):Nat->Option (Nat×Rp):=fun r=>if r ∈ ρ then φ' (ρ.idxOf r) else φ r
theorem HE {ρ:List Nat} (hn:ρ.Nodup) {φ φ':Nat->Option (Nat×Rp)} {i:Nat} (hi:i<ρ.length):back ρ φ φ' ρ[i]=φ' i:=by
 unfold back
 rw[if_pos (List.getElem_mem hi),hn.idxOf_getElem i hi]
theorem Ic {ρ:List Nat} {φ φ':Nat->Option (Nat×Rp)} {r:Nat} (h:r ∉ ρ):back ρ φ φ' r=φ r:=by
 unfold back;rw[if_neg h]
theorem Mem.merge {w':World} {S':Sc} {φ':Nat->Option (Nat×Rp)} {objs objs':List OB} {ρ ρ':List Nat} (m:Mem E w S φ ob) (hρ :∀r ∈ ρ,ob r≠none) (hob:ofL objs=sel ρ ob) (hlen:objs.length=ρ.length)
  {gb':Nat->Prop} {hg':GlobOK E.wl gb' (IY (sel ρ φ) objs.length) S w} (m':Mem ⟨w,S,IY (sel ρ φ) objs.length,E.wl,gb',hg'⟩ w' S' φ' (ofL objs')) (k':Kept w S (sel ρ φ) (ofL objs) w' S' φ' (ofL objs')) (hcl :∀o ∈ objs',BE o=true) (hn:ρ'.Nodup) (hl:ρ'.length=objs'.length) (hx:Ext ρ ρ')
  (hnew :∀r ∈ ρ',r ∈ ρ\/ob r=none) :
  Mem E w' S' (back ρ' φ φ') (Ai ob (ρ'.zip objs'))/\Kept w S φ ob w' S' (back ρ' φ φ') (Ai ob (ρ'.zip objs')):=by
 obtain⟨z1,z2⟩:=Qb ρ' objs' ob hn hl
 have hsub :∀r,r ∈ ρ->r ∈ ρ':=fun r hr=>by obtain⟨l,rfl⟩:=hx;exact List.mem_append_left _ hr
 have hge:ρ.length<=ρ'.length:=by obtain⟨l,rfl⟩:=hx;simp
 have old :∀{r:Nat},ob r≠none->r ∉ ρ' \/∃i,∃hi:i<ρ.length,ρ[i]=r/\∃hi':i<ρ'.length,ρ'[i]=r:=by
  intro r hr
  by_cases h:r ∈ ρ'
  ·rcases hnew r h with h' | h'
   ·obtain⟨i,hi,rfl⟩:=List.getElem_of_mem h'
    refine .inr ⟨i,hi,rfl,by omega,?_⟩
    have:=hx.get hi
    rw[X15 hi,X15 (by omega)] at this
    exact X25 this
   exact absurd h' hr
  exact .inl h
 have notPB :∀{r b c},ob r≠none->r ∉ ρ->φ r=some (b,c)->¬ IY (sel ρ φ) objs.length b:=by
  rintro r b c h1 h2 h3 ⟨i,c',hi,hs⟩
  rw[hlen] at hi
  simp only[sel,X15 hi,Option.bind_some] at hs
  exact h2 (m.inj r ρ[i] b c c' h1 (hρ _ (List.getElem_mem hi)) h3 hs ▸ List.getElem_mem hi)
 have oblk :∀{r b c},ob r≠none->r ∉ ρ->φ r=some (b,c)->w'.heap[b]?=w.heap[b]?/\∀o,S' b o->S b o:=by
  intro r b c h1 h2 h3
  have hb:=(m.ow r b c h1 h3).1
  have hp:=notPB h1 h2 h3
  exact⟨m'.fr b hb hp,fun o ho=>m'.nS b o ho hb hp⟩
 have hk:Kept w S φ ob w' S' (back ρ' φ φ') (Ai ob (ρ'.zip objs')):=by
  refine⟨k'.k,fun r hr=>?_,fun r hr=>?_⟩
  ·rcases old hr with h | ⟨i,hi,e1,hi',e2⟩
   ·refine .inl ?_
    rw[Ic h,z2 r h]
    exact⟨rfl,rfl,id⟩
   have hr2:=k'.r i (by rw[hob];simp[sel,hi,e1,hr])
   have q1:sel ρ φ i=φ r:=by simp[sel,hi,e1]
   have q2:ofL objs i=ob r:=by rw[hob];simp[sel,hi,e1]
   have q3:back ρ' φ φ' r=φ' i:=by rw[<- e2];exact HE hn hi'
   have q4:Ai ob (ρ'.zip objs') r=ofL objs' i:=by rw[<- e2,z1 i hi' (by omega)];simp[ofL,show i<objs'.length by omega]
   unfold RefOK at hr2 ⊢
   rw[q1,q2] at hr2
   rw[q3,q4]
   exact hr2
  rcases old hr with h | ⟨i,hi,e1,hi',e2⟩
  ·rw[z2 r h];exact hr
  rw[<- e2,z1 i hi' (by omega)];simp
 refine⟨⟨?_,?_,?_,?_,?_,m'.bS |> fun h=>h,?_,?_,?_,?_,?_⟩,hk⟩
 ·intro r o h
  by_cases hr:r ∈ ρ'
  ·obtain⟨i,hi,rfl⟩:=List.getElem_of_mem hr
   rw[z1 i hi (by omega)] at h
   obtain rfl:=X25 h
   exact (m'.obj i objs'[i] (by simp[ofL,show i<objs'.length by omega])).rename (hcl _ (List.getElem_mem _)) (HE hn hi)
  rw[z2 r hr] at h
  exact (m.obj r o h).keep hk (Ic hr) (fun b c hb=>oblk (by simp[h]) (fun hh=>hr (hsub r hh)) hb) (m.men r o h)
 ·intro r1 r2 b c c' h1 h2 g1 g2
  have inout :∀{r1 r2 b c c'},r1 ∈ ρ'->r2 ∉ ρ'->Ai ob (ρ'.zip objs') r2≠none->back ρ' φ φ' r1=some (b,c)->back ρ' φ φ' r2=some (b,c')->False:=by
   intro r1 r2 b c c' e1 e2 h2 g1 g2
   obtain⟨i,hi,rfl⟩:=List.getElem_of_mem e1
   rw[HE hn hi] at g1
   rw[Ic e2] at g2
   rw[z2 _ e2] at h2
   have q1:=m'.ow i b c (by simp[ofL,show i<objs'.length by omega]) g1
   have q2:=(m.ow r2 b c' h2 g2).1
   rcases q1.2 with q | q
   ·simp only at q;omega
   exact notPB h2 (fun hh=>e2 (hsub r2 hh)) g2 q
  by_cases e1:r1 ∈ ρ'
  ·by_cases e2:r2 ∈ ρ'
   ·obtain⟨i,hi,rfl⟩:=List.getElem_of_mem e1
    obtain⟨j,hj,rfl⟩:=List.getElem_of_mem e2
    rw[HE hn hi] at g1
    rw[HE hn hj] at g2
    have:i=j:=m'.inj i j b c c' (by simp[ofL,show i<objs'.length by omega]) (by simp[ofL,show j<objs'.length by omega]) g1 g2
    subst this;rfl
   exact (inout e1 e2 h2 g1 g2).elim
  by_cases e2:r2 ∈ ρ'
  ·exact (inout e2 e1 h1 g2 g1).elim
  rw[Ic e1] at g1;rw[Ic e2] at g2
  rw[z2 _ e1] at h1;rw[z2 _ e2] at h2
  exact m.inj r1 r2 b c c' h1 h2 g1 g2
 ·intro r o h r' hm
  by_cases hr:r ∈ ρ'
  ·obtain⟨i,hi,rfl⟩:=List.getElem_of_mem hr
   rw[z1 i hi (by omega)] at h
   obtain rfl:=X25 h
   rw[Ij (hcl _ (List.getElem_mem _))] at hm
   simp at hm
  rw[z2 r hr] at h
  exact hk.c _ (m.men r o h r' hm)
 ·exact fun b o h=>m'.sS b o (m.sS b o h)
 ·exact fun b o h=>(m'.kS b o (m.sS b o h)).trans (m.kS b o h)
 ·intro b o h hb hp
  by_cases hq:IY (sel ρ φ) objs.length b
  ·obtain⟨i,c,hi,hs⟩:=hq
   rw[hlen] at hi
   simp only[sel,X15 hi,Option.bind_some] at hs
   rcases (m.ow ρ[i] b c (hρ _ (List.getElem_mem hi)) hs).2 with g | g
   ·omega
   exact absurd g hp
  exact m.nS b o (m'.nS b o h (Nat.lt_of_lt_of_le hb m.sz) hq) hb hp
 ·intro b hb hp
  refine (m'.fr b (Nat.lt_of_lt_of_le hb m.sz) fun hq=>?_).trans (m.fr b hb hp)
  obtain⟨i,c,hi,hs⟩:=hq
  rw[hlen] at hi
  simp only[sel,X15 hi,Option.bind_some] at hs
  rcases (m.ow ρ[i] b c (hρ _ (List.getElem_mem hi)) hs).2 with g | g
  ·omega
  exact hp g
 ·exact Nat.le_trans m.sz m'.sz
 ·intro r b c h g
  by_cases hr:r ∈ ρ'
  ·obtain⟨i,hi,rfl⟩:=List.getElem_of_mem hr
   rw[HE hn hi] at g
   have q:=m'.ow i b c (by simp[ofL,show i<objs'.length by omega]) g
   refine⟨q.1,?_⟩
   rcases q.2 with q | ⟨j,c',hj,hs⟩
   ·have:=m.sz;simp only at q;exact .inl (by omega)
   rw[hlen] at hj
   simp only[sel,X15 hj,Option.bind_some] at hs
   exact (m.ow ρ[j] b c' (hρ _ (List.getElem_mem hj)) hs).2
  rw[z2 r hr] at h
  rw[Ic hr] at g
  have q:=m.ow r b c h g
  have:=m'.sz
  simp only at this
  exact⟨by omega,q.2⟩
 obtain⟨a1,a2,a3,a4⟩:=m'.os
 obtain⟨b1,b2,b3,b4⟩:=m.os
 exact⟨a1.trans b1,a2.trans b2,a3.trans b3,a4.elim .inl fun a=>b4.imp_right fun h=>Nat.le_trans h a⟩
theorem P7 {obl:List (Option OB)} (m1:Mem E w S1 φ (Ai (fun r=>obl.getD r none) wr1)) (k1:Kept w S φ (fun r=>obl.getD r none) w S1 φ (Ai (fun r=>obl.getD r none) wr1)) (hx1:FrzExt (fun r=>obl.getD r none) (Ai (fun r=>obl.getD r none) wr1))
  {f:FuncId} {asz':List AV} {vals:Array Value} {ρ ρ' ρ0:List Nat} {self:Nat} {objs objs':List OB} {res res':AV} (hw1:SV obl wr1) (hn:ρ.Nodup) (hρ :∀x ∈ ρ,x ∈ ([]:List Nat)\/obl.getD x none≠none)
  (seen:All2 (fun a v=>SeenAs S1 w φ (Ai (fun r=>obl.getD r none) wr1) ρ a v) asz' vals.toList) (hap:LQ.apartW wr1 ρ=true) (hlen:objs.length=ρ.length)
  (hobj :∀i (hi:i<objs.length) (hi':i<ρ.length),obl.getD ρ[i] none=some objs[i]/\BE objs[i]=true) (hC:CallsOK E.wl P f asz' objs res objs') (hren:Xr ρ0 self res=some res') (hcl :∀o ∈ objs',BE o=true)
  (hidx :∀i (hi:i<ρ'.length),ρ0.getD i self=ρ'[i]) (hρlen:ρ'.length=objs'.length) (hx:Ext ρ ρ') (hn':ρ'.Nodup) (hnew0 :∀r ∈ ρ',r ∈ ρ\/obl[r]?=some none) :
  (∀ r o, (r, o) ∈ wr1 ++ ρ'.zip objs' → r < obl.length) ∧ (∃ fn, P.funcs[f]? = some fn ∧ fn.name ≠ "runtime.NumGoroutine" ∧ fn.body.isSome = true) ∧
   Calls P f vals w fun e w'=>∃v,e=.returned v/\Post E w S φ (fun r=>obl.getD r none) res' (wr1++ρ'.zip objs') v w':=by
 obtain⟨hfn,hcall⟩:=hC
 have hap' :∀x ∈ wr1,∀r ∈ ρ,x.1≠r:=by
  intro x hx r hr e
  simp only[LQ.apartW,List.all_eq_true] at hap
  have:=hap x hx r hr
  rw[show Nat.beq r x.1=true by rw[e];exact Nat.beq_refl r] at this
  simp at this
 have hρ' :∀r ∈ ρ,obl.getD r none≠none:=fun r hr=>(hρ r hr).resolve_left (by simp)
 have hob1 :∀r ∈ ρ,Ai (fun r=>obl.getD r none) wr1 r=obl.getD r none:=fun r hr=>EL _ _ _ fun x hx=>hap' x hx r hr
 have hob:ofL objs=sel ρ (Ai (fun r=>obl.getD r none) wr1):=by
  funext i
  by_cases hi:i<ρ.length
  ·have hi':i<objs.length:=by omega
   simp only[ofL,sel,X15 hi,X15 hi',Option.bind_some]
   rw[hob1 _ (List.getElem_mem hi),(hobj i hi' hi).1]
  simp[ofL,sel,show ρ.length<=i by omega,show objs.length<=i by omega]
 have hρ1 :∀r ∈ ρ,Ai (fun r=>obl.getD r none) wr1 r≠none:=fun r hr=>by rw[hob1 r hr];exact hρ' r hr
 have hg0:GlobOK E.wl E.gb (IY (sel ρ φ) objs.length) S1 w:=m1.glob fun b hb=>by
  obtain⟨i,c,hi,hs⟩:=hb
  have hi':i<ρ.length:=by omega
  exact⟨ρ[i],c,hρ1 _ (List.getElem_mem hi'),by simpa[sel,hi'] using hs⟩
 have m0:Mem ⟨w,S1,IY (sel ρ φ) objs.length,E.wl,E.gb,hg0⟩ w S1 (sel ρ φ) (ofL objs):=by
  have get :∀{i:Nat},ofL objs i≠none->∃hi:i<ρ.length,Ai (fun r=>obl.getD r none) wr1 ρ[i]≠none/\sel ρ φ i=φ ρ[i]:=by
   intro i h
   have hi:i<ρ.length:=by
    refine Nat.lt_of_not_le fun hge=>h ?_
    simp[ofL,show objs.length<=i by omega]
   exact⟨hi,hρ1 _ (List.getElem_mem hi),by simp[sel,hi]⟩
  refine⟨fun i o h=>?_,fun i j b c c' h1 h2 g1 g2=>?_,fun i o h r' hm=>?_,fun _ _ h=>h,fun _ _ _=>rfl,m1.bS,fun _ _ h _ _=>h,fun _ _ _=>rfl,Nat.le_refl _,fun i b c h g=>?_,rfl,rfl,rfl,.inr (Nat.le_refl _)⟩
  ·obtain⟨hi,h1,h2⟩:=get (i:=i) (by simp[h])
   have hi':i<objs.length:=by omega
   have e1:objs[i]=o:=by simpa[ofL,hi'] using h
   have e2:Ai (fun r=>obl.getD r none) wr1 ρ[i]=some objs[i]:=by rw[hob1 _ (List.getElem_mem hi),(hobj i hi' hi).1]
   rw[<- e1]
   exact (m1.obj _ _ e2).rename (hobj i hi' hi).2 h2
  ·obtain⟨hi,p1,p2⟩:=get h1
   obtain⟨hj,q1,q2⟩:=get h2
   rw[p2] at g1
   rw[q2] at g2
   have:=m1.inj _ _ b c c' p1 q1 g1 g2
   exact (List.getElem_inj hn).1 this
  ·obtain⟨hi,_,_⟩:=get (i:=i) (by simp[h])
   have hi':i<objs.length:=by omega
   have e1:objs[i]=o:=by simpa[ofL,hi'] using h
   rw[<- e1,Ij (hobj i hi' hi).2] at hm
   simp at hm
  obtain⟨hi,p1,p2⟩:=get h
  exact⟨(m1.ow _ b c p1 (p2 ▸ g)).1,.inr ⟨i,c,by omega,g⟩⟩
 have hsz:vals.size=asz'.length:=by
  have :∀{l:List AV} {k:List Value} {R:AV->Value->Prop},All2 R l k->l.length=k.length:=by
   intro l k R h
   induction h with
   | nil=>rfl
   | cons _ _ ih=>simp[ih]
  have:=this seen
  simpa using this.symm
 have hargs :∀i (hi:i<asz'.length),RepA S1 w (sel ρ φ) (ofL objs) asz'[i] (vals.getD i undef)/\Closed (ofL objs) asz'[i]:=by
  have get :∀{l:List AV} {k:List Value} {R:AV->Value->Prop},All2 R l k->∀i (hi:i<l.length),∃v,k[i]?=some v/\R l[i] v:=by
   intro l k R h
   induction h with
   | nil=>intro i hi;simp at hi
   | cons h _ ih=>
    intro i hi
    cases i with
    | zero=>exact⟨_,rfl,h⟩
    | succ i=>exact ih i (by simpa using hi)
  intro i hi
  obtain⟨v,h1,h2,h3⟩:=get seen i hi
  have:vals.getD i undef=v:=by
   have:vals[i]?=some v:=by simpa using h1
   simp[this]
  rw[this,hob]
  refine⟨h2,fun r hr=>?_⟩
  have hlt:=h3 r hr
  simp only[sel,X15 hlt,Option.bind_some]
  exact hρ1 _ (List.getElem_mem hlt)
 have hnone :∀r,objs.length<=r->sel ρ φ r=none:=fun r hr=>by simp[sel,show ρ.length<=r by omega]
 have hnew :∀r ∈ ρ',r ∈ ρ\/Ai (fun r=>obl.getD r none) wr1 r=none:=fun r hr=>(hnew0 r hr).imp id fun h=>hx1.none (CN h).1
 refine⟨fun r o hm=>?_,hfn,(hcall w S1 (sel ρ φ) E.gb hg0 vals hsz hargs hnone m0).mono ?_⟩
 ·rcases X23.1 hm with hm | hm
  ·obtain⟨e',sz',es',f',e1,_⟩:=hw1 r o hm
   exact Bh obl r _ e1
  rcases hnew0 r (List.of_mem_zip hm).1 with h' | h'
  ·cases hg:obl.getD r none with
   | none=>exact absurd hg (hρ' r h')
   | some o=>exact Bh obl r o hg
  exact (CN h').2
 rintro e w' ⟨v,he,S',φ',mm,kk,rr,cc⟩
 refine⟨v,he,?_⟩
 obtain⟨m2,k2⟩:=m1.merge hρ1 hob hlen mm kk hcl hn' hρlen hx hnew
 obtain⟨z1,z2⟩:=Qb ρ' objs' (Ai (fun r=>obl.getD r none) wr1) hn' hρlen
 have hres:=Vz (ρ:=ρ0) (self:=self) (φ':=back ρ' φ φ') (ob':=Ai (Ai (fun r=>obl.getD r none) wr1) (ρ'.zip objs')) (K:=fun a=>a=res') rr cc (fun i hi=>by
  have hi':i<objs'.length:=by
   refine Nat.lt_of_not_le fun hge=>hi ?_
   simp[ofL,hge]
  have hi2:i<ρ'.length:=by omega
  rw[hidx i hi2]
  exact⟨HE hn' hi2,by rw[z1 i hi2 hi'];simp[ofL,hi']⟩) ((Jn _ _ _ _).2 ⟨res',hren,rfl⟩)
 obtain⟨_,rfl,r1,r2⟩:=hres
 refine⟨S',back ρ' φ φ',?_,?_,?_,?_⟩
 ·rw[AS];exact m2
 ·rw[AS];exact k1.trans k2
 ·rw[AS];exact r1
 rw[AS];exact r2
theorem UZ {obl:List (Option OB)} {cx:Cx} (hC :∀f args objs res objs',cx.C f args objs res objs'->CallsOK E.wl P f args objs res objs') (m:Mem E w S φ (fun r=>obl.getD r none)) {f:FuncId} {self:Nat} {args:List AV} {vals:Array Value} {K:AV->W->Prop}
  (hv:All2 (fun a v=>RepA S w φ (fun r=>obl.getD r none) a v/\Closed (fun r=>obl.getD r none) a) args vals.toList) (h:UF cx f self args obl K) :
  ∃ out wr, K out wr ∧ (∀ r o, (r, o) ∈ wr → r < obl.length) ∧ (∃ fn, P.funcs[f]? = some fn ∧ fn.name ≠ "runtime.NumGoroutine" ∧ fn.body.isSome = true) ∧
   Calls P f vals w fun e w'=>∃v,e=.returned v/\Post E w S φ (fun r=>obl.getD r none) out wr v w':=by
 rw[VA] at h
 unfold LQ at h
 obtain⟨asz',ρ,wr1,S1,hK,m1,k1,hx1,hw1,_,hn,hρ,seen⟩:=Jk m (FrzExt.refl _) List.nodup_nil hv h
 rw[AH] at hK
 obtain⟨hap,hK⟩:=hK
 obtain⟨objs,hK,hlen,hobj⟩:=GT hK
 obtain⟨res,objs',hCf,hself,hK⟩:=hK
 rw[Jn] at hK
 obtain⟨res',hren,hK⟩:=hK
 obtain⟨wr2,hK,hcl,hl2,hwr2⟩:=N7 hK
 have hzip:(ρ++[self]).zip objs'=((ρ++[self]).take objs'.length).zip objs':=UJ _ _
 rcases hl2 with hl | hl
 ·have hρ2:(ρ++[self]).take objs'.length=ρ:=by rw[hl,List.take_left'];rfl
  rw[hzip,hρ2] at hwr2
  obtain⟨c1,c2,c3⟩:=P7 m1 k1 hx1 (ρ':=ρ) (ρ0:=ρ) (self:=self) hw1 hn hρ seen hap hlen hobj (hC _ _ _ _ _ hCf) hren hcl (fun i hi=>by simp[hi]) hl.symm (.refl ρ) hn (fun r hr=>.inl hr)
  rw[<- hwr2] at c1 c3
  exact⟨res',_,hK,c1,c2,c3⟩
 have hρ2:(ρ++[self]).take objs'.length=ρ++[self]:=by rw[hl];exact List.take_of_length_le (by simp)
 rw[hzip,hρ2] at hwr2
 have hs:obl[self]?=some none:=by
  rcases hself with h | h
  ·omega
  exact h
 obtain⟨c1,c2,c3⟩:=P7 m1 k1 hx1 (ρ':=ρ++[self]) (ρ0:=ρ) (self:=self) hw1 hn hρ seen hap hlen hobj (hC _ _ _ _ _ hCf) hren hcl (fun i hi=>by
   rw[List.getElem_append]
   split
   ·rename_i hlt;simp[hlt]
   ·rename_i hlt;simp[show ρ.length<=i by omega]) (by simp[hl]) ⟨[self],rfl⟩ (by
   rw[List.nodup_append]
   exact⟨hn,by simp,fun a ha b hb e=>by
    simp at hb;subst hb;subst e
    exact ((hρ a ha).resolve_left (by simp)) (CN hs).1⟩) (fun r hr=>by
   rcases X23.1 hr with h | h
   ·exact .inl h
   simp only[X14] at h;exact .inr (h ▸ hs))
 rw[<- hwr2] at c1 c3
 exact⟨res',_,hK,c1,c2,c3⟩
theorem OM :∀{ρ:List Nat} {objs:List OB} {K:W->Prop},RQ ρ objs K->K (ρ.zip objs)/\(∀o ∈ objs,BE o=true)/\ρ.length=objs.length
 | [],[],K,h=>⟨h,by simp,rfl⟩
 | r::ρ,o::os,K,h=>by
  simp only[RQ] at h
  split at h
  ·rename_i hc
   obtain⟨g1,g2,g3⟩:=OM h
   refine⟨g1,fun x hx=>?_,by simp[g3]⟩
   rcases List.mem_cons.1 hx with e | e
   ·rw[e];exact hc
   exact g2 x e
  exact h.elim
 | [],_::_,K,h=>by simp[RQ] at h
 | _::_,[],K,h=>by simp[RQ] at h
theorem VB {l:List Nat} {r:Nat}:MM l r=true↔r ∈ l:=by
 induction l with
 | nil=>simp[MM]
 | cons x l ih=>
  simp only[MM,Bool.or_eq_true,ih,List.mem_cons]
  exact⟨fun h=>h.imp X30 id,fun h=>h.imp (fun e=>by rw[e];exact Nat.beq_refl x) id⟩
theorem O6 {l:List Nat} (h:QR l=true):l.Nodup:=by
 induction l with
 | nil=>exact List.nodup_nil
 | cons x l ih=>
  simp only[QR,X27,Bool.not_eq_true'] at h
  refine List.nodup_cons.2 ⟨fun hm=>?_,ih h.2⟩
  rw[VB.2 hm] at h
  simp at h
theorem Mem.grown (m:Mem E w S φ ob) {w':World} (hb :∀b,b<w.heap.size->w'.heap[b]?=w.heap[b]?) (hs:w.heap.size<=w'.heap.size) (hos:w'.os=w.os/\w'.output=w.output/\w'.tape=w.tape/\(E.wl.wl\/w.drawn<=w'.drawn)) :
  Mem E w' S φ ob/\Kept w S φ ob w' S φ ob:=by
 have hc :∀{b o},b<w.heap.size->cellAt w' b o=cellAt w b o:=fun h=>C3 (hb _ h) _
 have hk:Kept w S φ ob w' S φ ob:=⟨fun b o h=>⟨h,hc (m.bS b o h)⟩,fun r _=>.refl φ ob r,fun r h=>h⟩
 refine⟨⟨fun r o h=>(m.obj r o h).keep hk rfl (fun b c hφ=>⟨hb b (m.ow r b c (by simp[h]) hφ).1,fun _ h=>h⟩) (m.men r o h),m.inj,m.men,m.sS,fun b o h=>(hc (m.bS b o (m.sS b o h))).trans (m.kS b o h),
  fun b o h=>Nat.lt_of_lt_of_le (m.bS b o h) hs,m.nS,fun b h1 h2=>(hb b (Nat.lt_of_lt_of_le h1 m.sz)).trans (m.fr b h1 h2),Nat.le_trans m.sz hs,fun r b c h1 h2=>⟨Nat.lt_of_lt_of_le (m.ow r b c h1 h2).1 hs,(m.ow r b c h1 h2).2⟩,
  hos.1.trans m.os.1,hos.2.1.trans m.os.2.1,hos.2.2.1.trans m.os.2.2.1,hos.2.2.2.elim .inl fun a=>m.os.2.2.2.imp_right fun h=>Nat.le_trans h a⟩,hk⟩
theorem RepD.scal {S':Sc} {w':World} {x:D} {v:Value} (h:RepD S w x v) (hs:OH x=true):RepD S' w' x v:=by
 cases h with
 | val v h=>exact .val v h
 | agg cs vs f h1 h2 h3 h4=>
  refine .agg cs vs f h1 h2 h3 fun i hi=>?_
  have:=h4 i hi
  simp only[OH,List.all_eq_true] at hs
  have hc:=hs cs[i] (List.getElem_mem hi)
  revert this hc
  generalize cs[i]=c
  intro this hc
  cases c with
  | val u=>cases this with | val _ h=>exact .val _ h
  | _=>simp at hc
 | nil=>simp[OH] at hs
 | lst0=>simp[OH] at hs
 | lst=>simp[OH] at hs
theorem RepA.scal {S':Sc} {w':World} {φ':Nat->Option (Nat×Rp)} {ob':Nat->Option OB} {x:AV} {v:Value} (h:RepA S w φ ob x v) (hs:Wy x=true):RepA S' w' φ' ob' x v/\Closed ob' x:=by
 cases h with
 | d x v h=>exact⟨.d _ _ (h.scal hs),fun r hr=>by simp[AV.refs] at hr⟩
 | tup cs vs f h1 h2 h3=>
  have hc :∀c ∈ cs,∃x,c=.d x/\OH x=true:=by
   intro c hc
   simp only[Wy,List.all_eq_true] at hs
   have:=hs c hc
   cases c<;>simp at this
   exact⟨_,rfl,this⟩
  refine⟨.tup cs vs f h1 h2 fun i hi=>?_,fun r hr=>?_⟩
  ·obtain⟨x,e,hx⟩:=hc cs[i] (List.getElem_mem hi)
   have:=h3 i hi
   rw[e] at this ⊢
   cases this with | d _ _ h=>exact .d _ _ (h.scal hx)
  obtain⟨c,g1,g2⟩:=AV.refs_mem' cs r (by simpa[AV.refs] using hr)
  obtain⟨x,rfl,_⟩:=hc c g1
  simp[AV.refs] at g2
 | _=>simp[Wy] at hs
theorem UG {obl:List (Option OB)} {cx:Cx} (hC :∀f args objs res objs',cx.C f args objs res objs'->CallsOK E.wl P f args objs res objs') (m:Mem E w S φ (fun r=>obl.getD r none)) {f:FuncId} {args:List AV} {vals:Array Value} {K:AV->W->Prop}
  (hv:All2 (fun a v=>RepA S w φ (fun r=>obl.getD r none) a v/\Closed (fun r=>obl.getD r none) a) args vals.toList) (h:X6 cx f args obl K) :
  ∃ out wr, K out wr ∧ (∀ r o, (r, o) ∈ wr → r < obl.length) ∧ (∃ fn, P.funcs[f]? = some fn ∧ fn.name ≠ "runtime.NumGoroutine" ∧ fn.body.isSome = true) ∧
   Calls P f vals w fun e w'=>∃v,e=.returned v/\Post E w S φ (fun r=>obl.getD r none) out wr v w':=by
 unfold X6 at h
 obtain⟨asz',ρ,wr1,S1,hK,m1,k1,hx1,hw1,_,hn,hρ,seen⟩:=Jk m (FrzExt.refl _) List.nodup_nil hv h
 rw[AH] at hK
 obtain⟨hap,hK⟩:=hK
 obtain⟨objs,hK,hlen,hobj⟩:=GT hK
 obtain⟨res,objs',b,hCf,hK⟩:=hK
 cases b with
 | some news=>
  simp only[AH,Jn] at hK
  obtain⟨hnw,res',hren,hK⟩:=hK
  obtain⟨hK,hcl,hl⟩:=OM hK
  simp only[YJ,X27,List.all_eq_true] at hnw
  have hno :∀r ∈ news,obl[r]?=some none:=by
   intro r hr
   have:=hnw.2 r hr
   split at this
   ·assumption
   simp at this
  obtain⟨c1,c2,c3⟩:=P7 m1 k1 hx1 (ρ':=ρ++news) (ρ0:=ρ++news) (self:=0) hw1 hn hρ seen hap hlen hobj (hC _ _ _ _ _ hCf) hren hcl (fun i hi=>by simp only[List.getD_eq_getElem?_getD,X15 hi,Option.getD_some]) hl ⟨news,rfl⟩ (by
    rw[List.nodup_append]
    exact⟨hn,O6 hnw.1,fun a ha b hb e=>by
     subst e
     exact ((hρ a ha).resolve_left (by simp)) (CN (hno a hb)).1⟩) (fun r hr=>by
    rcases X23.1 hr with h | h
    ·exact .inl h
    exact .inr (hno r h))
  exact⟨res',_,hK,c1,c2,c3⟩
 | none=>
  simp only[AH,X27,List.isEmpty_iff] at hK
  obtain⟨⟨⟨rfl,rfl⟩,hs⟩,hK2⟩:=hK
  have hobjs:objs=[]:=List.eq_nil_of_length_eq_zero hlen
  subst hobjs
  obtain⟨hfn,hcall⟩:=hC _ _ _ _ _ hCf
  refine⟨res,[],hK2,fun r o hm=>by simp at hm,hfn,?_⟩
  have hsz:vals.size=asz'.length:=by
   have :∀{l:List AV} {k:List Value} {R:AV->Value->Prop},All2 R l k->l.length=k.length:=by
    intro l k R h
    induction h with
    | nil=>rfl
    | cons _ _ ih=>simp[ih]
   have:=this seen
   simpa using this.symm
  have he:(sel [] (Ai (fun r=>obl.getD r none) wr1))=ofL []:=by funext i;simp[sel,ofL]
  have hg0:GlobOK E.wl E.gb (IY (sel [] φ) ([]:List OB).length) S1 w:=m1.glob (PB:=IY (sel [] φ) ([]:List OB).length) fun b hb=>by
   obtain⟨i,c,hi,_⟩:=hb
   simp at hi
  refine (hcall w S1 (sel [] φ) E.gb hg0 vals hsz (fun i hi=>?_) (fun r _=>by simp[sel]) ?_).mono ?_
  ·have get :∀{l:List AV} {k:List Value} {R:AV->Value->Prop},All2 R l k->∀i (hi:i<l.length),∃v,k[i]?=some v/\R l[i] v:=by
    intro l k R h
    induction h with
    | nil=>intro i hi;simp at hi
    | cons h _ ih=>
     intro i hi
     cases i with
     | zero=>exact⟨_,rfl,h⟩
     | succ i=>exact ih i (by simpa using hi)
   obtain⟨v,h1,h2,h3⟩:=get seen i hi
   have:vals.getD i undef=v:=by
    have:vals[i]?=some v:=by simpa using h1
    simp[this]
   rw[this]
   rw[he] at h2
   exact⟨h2,fun r hr=>absurd (h3 r hr) (by simp)⟩
  ·exact⟨fun r o h=>by simp[ofL] at h,fun r r' b c c' h=>by simp[ofL] at h,fun r o h=>by simp[ofL] at h,fun _ _ h=>h,fun _ _ _=>rfl,m1.bS,fun _ _ h _ _=>h,fun _ _ _=>rfl,Nat.le_refl _,fun r b c h=>by simp[ofL] at h,rfl,rfl,rfl,.inr (Nat.le_refl _)⟩
  rintro e w' ⟨v,he,S',φ',mm,kk,rr,cc⟩
  refine⟨v,he,S,φ,?_⟩
  have hpb :∀b,¬ IY (sel [] φ) ([]:List OB).length b:=by rintro b ⟨r,c,h1,_⟩;simp at h1
  obtain⟨m2,k2⟩:=m.grown (w':=w') (fun b hb=>mm.fr b hb (hpb b)) mm.sz mm.os
  obtain⟨r1,r2⟩:=rr.scal (S':=S) (w':=w') (φ':=φ) (ob':=fun r=>obl.getD r none) hs
  exact⟨m2,k2,r1,r2⟩
end
end Go.AX
end
