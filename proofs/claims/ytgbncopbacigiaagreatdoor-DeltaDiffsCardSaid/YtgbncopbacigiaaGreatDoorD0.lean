/-
  Texts of one proof, packed.
-/
import Derived.KernelRfl
import Derived.Laws.Sem
import Derived.Orders
set_option linter.all false
set_option maxRecDepth 100000
set_option maxHeartbeats 4000000
open List renaming length_map→X10,length_append→X11,length_drop→X17,length_take→X18,length_replicate→X20,length_set→X21
open Option renaming none→Wy
open List renaming range→Xb4,replicate→Xb6
open BitVec renaming ofInt→Wv
open Go renaming Operand→Xaw,FuncId→Xcx
open Nat renaming beq→Xa6,blt→Xbr,ble→Xdi
namespace Go
abbrev O:=@List
abbrev C:=@Option
abbrev I:=Bool
abbrev A:=Value
abbrev S:=UInt8
abbrev T:=ByteArray
abbrev j:=UInt64
abbrev B:=World
abbrev z:=Oper
def Xe:=@decide_eq_true_eq
def Xj:=@if_neg
def Xy:=@if_pos
def Wd:=@decide_eq_true
def Wo:=@List.all_eq_true
def Wp:=@List.mem_cons
def Wq:=@List.getD_eq_getElem?_getD
def Ws:=@decide_eq_false
def Wu:=@List.pairwise_cons
def Wx:=@List.getElem_mem
def Ww:=@List.getElem?_append_left
def Wz:=@List.getElem_of_mem
def Xa0:=@List.mem_map
def Xa2:=@List.getElem_append_left
def Xa3:=@Nat.le_trans
def Xa4:=@List.getElem?_append_right
def Xa8:=@Nat.le_refl
def Xa7:=@Int.toNat_natCast
def Xab:=@List.eq_nil_of_length_eq_zero
def Xaa:=@List.filter_append
def Xac:=@List.flatMap_cons
def Xad:=@UInt64.toNat_ofNat'
def Xag:=@List.append_nil
def Xah:=@List.mem_filter
def Xai:=@List.foldl_cons
def Xas:=@List.getElem_map
def Xap:=@Nat.lt_of_lt_of_le
def Xal:=@Array.length_toList
def Xam:=@List.map_cons
def Xan:=@Nat.zero_add
def Xao:=@Option.getD_some
def Xau:=@List.append_assoc
def Xav:=@Array.toArray_toList
def Xb5:=@List.getElem_cons_zero
def Xax:=@List.nil_append
def Xay:=@List.mem_of_getElem?
def Xaz:=@Nat.lt_of_not_le
def Xb0:=@List.pairwise_append
def Xb1:=@List.getElem_append_right
def Xb2:=@decide_eq_false_iff_not
def Xbe:=@Nat.mod_eq_of_lt
def Xb7:=@Bool.not_eq_true'
def Xb8:=@List.take_add_one
def Xb9:=@Nat.add_assoc
def Xba:=@List.filter_cons_of_neg
def Xbb:=@List.drop_eq_getElem_cons
def Xbc:=@List.filterMap_cons
def Xc0:=@Nat.mul_comm
def Xbf:=@List.not_mem_nil
def Xbg:=@List.getElem_take
def Xbh:=@List.getElem_drop
def Xbi:=@beq_iff_eq
def Xbk:=@List.takeWhile_append_dropWhile
def Xbt:=@Option.map_some
def Xbo:=@List.size_toArray
def Xbs:=@List.getElem_append
def Xbv:=@Option.bind_some
def Xbw:=@List.nodup_append
def Xbx:=@List.length_range
def Xby:=@Array.getElem?_eq_some_iff
def Xc1:=@List.mem_cons_self
def Xc2:=@Option.map_eq_some_iff
def Xc4:=@List.mem_range
def Xc5:=@List.mem_flatMap
def Xc6:=@Bool.true_and
def Xc7:=@List.length_pos_iff
def Xc8:=@List.filter_eq_self
def Xch:=@Nat.add_zero
def Xca:=@bne_self_eq_false
def Xcb:=@List.length_filter_le
def Xcc:=@Int.natCast_nonneg
def Xce:=@List.mem_of_mem_take
def Xcf:=@List.getElem?_set_ne
def Xci:=@Nat.add_comm
def Xcj:=@List.take_length
def Xck:=@UInt64.toNat_inj
def Xcm:=@List.getElem?_set_self
def Xco:=@Bool.or_eq_true
def Xcr:=@cond_true
def Xcs:=@List.getElem_range
def Xct:=@UInt8.toNat_ofNat'
def Xcw:=@beq_self_eq_true
def Xcy:=@BitVec.ofInt_natCast
def Xd0:=@if_false
def Xd1:=@List.all_cons
def Xd3:=@Bool.and_true
def Xd4:=@Nat.beq_refl
def Xd5:=@List.getElem?_map
def Xd7:=@List.cons.injEq
def Xd9:=@Nat.zero_le
def Xda:=@Nat.two_pow_pos
def Xdb:=@List.Pairwise.sublist
def Xdf:=@not_false_eq_true
def Xdg:=@cond_false
def Xdl:=@if_true
def Xdm:=@or_false
def Xdn:=@and_assoc
def Xdo:=@beq_eq_false_iff_ne
end Go
section
namespace Go.AX
inductive D where
 | val (v:Value)
 | agg (cs:List D)
 | nil (sz:Nat)
 | su (sz:Nat) (es:List D)
 deriving Inhabited
abbrev D.i (n:Int):D:=.val (.int .i64 n)
abbrev D.u (n:Int):D:=.val (.int .u8 n)
abbrev D.b (b:I):D:=.val (.bool b)
abbrev D.s (s:T):D:=.val (.string s)
def D.cells:D->O D
 | .agg F=>F
 | x=>[x]
def D.isAgg:D->I
 | .agg _=>true
 | _=>false
def D.norm:D->D
 | .nil sz=>.su sz []
 | .agg F=>.agg (F.map λ
   | .nil sz=>.su sz []
   | x=>x)
 | x=>x
inductive AV where
 | d (x:D)
 | agg (cs:List AV)
 | ref (r off:Nat)
 | sT (cs:List D)
 | own (r n:Nat)
 | sh (r n i k:Nat)
 | fn (f:FuncId) (caps:List AV)
 | sH (vs:List AV)
 | mp (r:Nat)
 | th (r a n m:Nat)
 | it (f:FuncId) (r:Nat)
 | gl (g:Nat)
 | gv (g:Nat)
 | dead
 deriving Inhabited
abbrev AV.i (n:Int):AV:=.d (.val (.int .i64 n))
abbrev AV.u (n:Int):AV:=.d (.val (.int .u8 n))
abbrev AV.b (b:I):AV:=.d (.val (.bool b))
abbrev AV.s (s:T):AV:=.d (.val (.string s))
abbrev AV.l (sz:Nat)(es:O D):AV:=.d (.su sz es)
inductive FZ where
 | no|sQ
 | lk (i j q n:Nat)
 deriving Inhabited
def FZ.frozen:FZ->I
 | .sQ=>true
 | _=>false
def FZ.free:FZ->I
 | .no=>true
 | _=>false
def FZ.tN {f:FZ}(h:f.free=true):f=.no:=by cases f<;>simp[FZ.free] at h;rfl
def FZ.linked:FZ->I
 | .lk _ _ _ _=>true
 | _=>false
def FZ.refs:FZ->O Nat
 | .lk _ _ q _=>[q]
 | _=>[]
@[simp] theorem FZ.xc:FZ.no.frozen=false:=rfl
@[simp] theorem FZ.tG:FZ.sQ.frozen=true:=rfl
@[simp] theorem FZ.wR (i j q n:Nat):(FZ.lk i j q n).frozen=false:=rfl
@[simp] theorem FZ.xe:FZ.no.linked=false:=rfl
@[simp] theorem FZ.wy:FZ.sQ.linked=false:=rfl
@[simp] theorem FZ.wP (i j q n:Nat):(FZ.lk i j q n).linked=true:=rfl
@[simp] theorem FZ.xJ:FZ.no.refs=[]:=rfl
@[simp] theorem FZ.xh:FZ.sQ.refs=[]:=rfl
@[simp] theorem FZ.tU (i j q n:Nat):(FZ.lk i j q n).refs=[q]:=rfl
def FZ.xl {f:FZ}(h:f.linked=false){i j q n:Nat}(e:f=.lk i j q n):False:=by subst e;simp at h
inductive OB where
 | box (cs:List AV)
 | row (e sz:Nat) (es:List D) (frz:FZ)
 | map (k e:Nat) (es:List (D×D))
 | rK (k e:Nat) (es:List (D×D)) (kv:Value) (r n:Nat)
 | gone
 deriving Inhabited
inductive TK where
 | bool|int (k:IntKind)|str|ptr|fn|other
 | slice (elem:Nat)
 | arr (n elem:Nat)
 | struct (fs:List (Nat×Nat×Nat))
 | map (k e:Nat)
 deriving Inhabited
structure TI where
 kind:TK
 size:Nat
 bytes:Nat
 zero:List D
 deriving Inhabited
inductive TT where
 | s4
 | node (k:Nat) (v:TI) (l r:TT)
def TI.none:TI:=⟨.other,0,0,[]⟩
def TT.get:TT->Nat->TI
 | .s4,_=>TI.none
 | .node k v l r,n=>match Xa6 n k with
  | true=>v
  | false=>match Xbr n k with
   | true=>l.get n
   | false=>r.get n
def TK.sG:TK->C I
 | .struct _|.arr _ _=>some true
 | .other=>none
 | _=>some false
def A2 (T:TT)(t:Nat):I:=(T.get t).kind.sG.isSome
structure r9 where
 tm:List AV
 ob:List (Option OB)
structure Cx where
 T:TT
 np:Nat
 C:FuncId->List AV->List OB->AV->List OB->Prop
 s9:FuncId->List Bool
 G:Nat->Option (List (D×D))
 inl:FuncId->Bool
 I:FuncId->List AV->List (Option OB)->(AV->List (Option OB)->Prop)->Prop
 ex:Nat
def AV.force (a:AV)(K:AV->Prop):Prop:=match a with
 | .d x=>K (.d x)
 | .agg F=>K (.agg F)
 | .ref r o=>K (.ref r o)
 | .sT F=>K (.sT F)
 | .own r n=>K (.own r n)
 | .sh r n i k=>K (.sh r n i k)
 | .fn f c=>K (.fn f c)
 | .sH vs=>K (.sH vs)
 | .mp r=>K (.mp r)
 | .it f r=>K (.it f r)
 | .gl g=>K (.gl g)
 | .gv g=>K (.gv g)
 | .th r a n m=>K (.th r a n m)
 | .dead=>K .dead
def AS (b:I)(P:Prop):Prop:=match b with
 | true=>P
 | false=>False
def uc (tm:O AV):Xaw->AV
 | .tmp t=>tm.getD t .dead
 | .const v=>(match v.oneCell' with
  | true=>.d (.val v)
  | false=>.dead)
 | .func f=>.fn f []
 | .global g=>.gl g
def KP {α:Type}:O α->Nat->α->(O α->Prop)->Prop
 | [],_,_,K=>K []
 | _::l,0,v,K=>K (v::l)
 | x::l,n+1,v,K=>KP l n v λF=>K (x::F)
def O1 {α F:Type}(f:α->(F->Prop)->Prop):O α->(O F->Prop)->Prop
 | [],K=>K []
 | x::l,K=>f x λy=>O1 f l λH=>K (y::H)
def OK {α:Type}:O α->Nat->(O α->Prop)->Prop
 | l,0,K=>K l
 | [],_+1,K=>K []
 | _::l,n+1,K=>OK l n K
def M4 {α:Type}:O α->Nat->(O α->Prop)->Prop
 | _,0,K=>K []
 | [],_+1,K=>K []
 | x::l,n+1,K=>M4 l n λF=>K (x::F)
def L8 {α:Type}:O α->Nat->O α->(O α->Prop)->Prop
 | F,0,[],K=>K F
 | _::F,0,v::vs,K=>L8 F 0 vs λl=>K (v::l)
 | c::F,n+1,vs,K=>L8 F n vs λl=>K (c::l)
 | [],_,_,_=>False
def Ri:O AV->C (O D)
 | []=>some []
 | .d x::r=>match Ri r with
  | some l=>some (x::l)
  | none=>none
 | _::_=>none
def SY (F:O AV)(K:AV->Prop):Prop:=match Ri F with
 | some l=>K (.d (.agg l))
 | none=>K (.agg F)
def LV (a:AV)(K:O AV->Prop):Prop:=match a with
 | .d (.val v)=>K [.d (.val v)]
 | .d (.nil sz)=>K [.d (.nil sz)]
 | .d (.su sz F)=>K [.d (.su sz F)]
 | .d (.agg H)=>O1 (λc K=>match c with
   | .val v=>K (.d (.val v))
   | .nil sz=>K (.d (.nil sz))
   | .su sz F=>K (.d (.su sz F))
   | .agg _=>False) H K
 | .agg H=>K H
 | .ref r o=>K [.ref r o]
 | .own r n=>K [.own r n]
 | .mp r=>K [.mp r]
 | .fn f c=>K [.fn f c]
 | _=>False
def OO (x:D)(K:D->Prop):Prop:=match x with
 | .val v=>K (.val v)
 | .nil sz=>K (.su sz [])
 | .su sz H=>K (.su sz H)
 | .agg F=>O1 (λc K=>match c with
   | .val v=>K (.val v)
   | .nil sz=>K (.su sz [])
   | .su sz H=>K (.su sz H)
   | .agg F=>K (.agg F)) F λF=>K (.agg F)
abbrev W:=O (Nat×OB)
def CC (ob:O (C OB))(r:Nat)(K:OB->Prop):Prop:=match ob.getD r none with
 | some (.box H)=>K (.box H)
 | some (.row e sz es F)=>K (.row e sz es F)
 | some (.map k e es)=>K (.map k e es)
 | some (.rK k e es J r n)=>K (.rK k e es J r n)
 | some .gone=>K .gone
 | none=>False
def uz (ob:O (C OB))(r:Nat)(K:Prop):Prop:=match ob[r]? with
 | some none=>K
 | _=>False
def ub (T:TT):Nat->Nat->D->D->C I
 | 0,_,_,_=>none
 | n+1,t,x,y=>match (T.get t).kind,x,y with
  | .bool,.val (.bool a),.val (.bool b)=>some (a==b)
  | .int _,.val (.int k a),.val (.int F b)=>if k=F then some (a==b) else none
  | .str,.val (.string a),.val (.string b)=>some (a.toList==b.toList)
  | .struct fs,.agg xs,.agg ys=>eqFs (ub T n) T fs xs ys
  | _,_,_=>none where
 eqFs (rec:Nat->D->D->C I) (T:TT):O (Nat×Nat×Nat)->O D->O D->C I
  | [],_,_=>some true
  | (o,s,t)::fs,xs,ys=>
   match (match (T.get t).kind.sG with
    | some true=>rec t (.agg ((xs.drop o).take s)) (.agg ((ys.drop o).take s))
    | some false=>(match xs[o]?,ys[o]? with
     | some x,some y=>rec t x y
     | _,_=>none)
    | none=>none) with
   | some b=>match eqFs rec T fs xs ys with
    | some c=>some (b&&c)
    | none=>none
   | none=>none
def Yp (T:TT)(op:BinOp)(t:Nat)(x y:AV)(K:AV->Prop):Prop:=
 match op,x,y with
 | .shl,.d (.val (.int k a)),.d (.val (.int _ b))=>0<=b/\∃r,k.wrap (a*2^(min b.toNat k.bits))=r/\K (.d (.val (.int k r)))
 | .shr,.d (.val (.int k a)),.d (.val (.int _ b))=>0<=b/\∃r,a.fdiv (2^(min b.toNat k.bits))=r/\K (.d (.val (.int k r)))
 | .eql,.d (.val (.string a)),.d (.val (.string b))=>K (.b (a.toList==b.toList))
 | .neq,.d (.val (.string a)),.d (.val (.string b))=>K (.b (!(a.toList==b.toList)))
 | .add,.d (.val (.string a)),.d (.val (.string b))=>(a.size+b.size<=2^62)/\K (.s (a++b))
 | .lss,.d (.val (.string a)),.d (.val (.string b))=>K (.b (Op.bytesLess a.toList b.toList))
 | .gtr,.d (.val (.string a)),.d (.val (.string b))=>K (.b (!(Op.bytesLess a.toList b.toList || a.toList==b.toList)))
 | op,.d (.val (.int k a)),.d (.val (.int F b))=>AS (decide (k=F)) (match op with
  | .add=>∃r,k.wrap (a+b)=r/\K (.d (.val (.int k r)))
  | .sub=>∃r,k.wrap (a-b)=r/\K (.d (.val (.int k r)))
  | .mul=>∃r,k.wrap (a*b)=r/\K (.d (.val (.int k r)))
  | .quo=>b≠0/\∃r,k.wrap (a.tdiv b)=r/\K (.d (.val (.int k r)))
  | .rem=>b≠0/\∃r,a.tmod b=r/\K (.d (.val (.int k r)))
  | .and=>∃r,k.wrap (Wv k.bits a &&& Wv k.bits b).toNat=r/\K (.d (.val (.int k r)))
  | .or=>∃r,k.wrap (Wv k.bits a ||| Wv k.bits b).toNat=r/\K (.d (.val (.int k r)))
  | .xor=>∃r,k.wrap (Wv k.bits a ^^^ Wv k.bits b).toNat=r/\K (.d (.val (.int k r)))
  | .andNot=>∃r,k.wrap (Wv k.bits a &&& ~~~Wv k.bits b).toNat=r/\K (.d (.val (.int k r)))
  | .eql=>K (.b (a==b))
  | .neq=>K (.b (a !=b))
  | .lss=>K (.b (decide (a<b)))
  | .leq=>K (.b (decide (a<=b)))
  | .gtr=>K (.b (decide (a>b)))
  | .geq=>K (.b (decide (a≥b)))
  | _=>False)
 | .eql,.d x,.d y=>(match ub T 9 t x y with
  | some b=>K (.b b)
  | none=>False)
 | .neq,.d x,.d y=>(match ub T 9 t x y with
  | some b=>K (.b (!b))
  | none=>False)
 | _,_,_=>False
def Hv (b:I)(A B:Prop):Prop:=match b with
 | true=>A
 | false=>B
def mZ (T:TT)(op:BinOp)(t:Nat)(x y:AV)(K:AV->Prop):Prop:=Yp T op t x y K
def Ym (T:TT)(op:BinOp)(t:Nat)(x y:AV)(K:AV->Prop):mZ T op t x y K=Yp T op t x y K:=rfl
def xM (op:UnOp)(x:AV)(K:AV->Prop):Prop:=
 match op,x with
 | .not,.d (.val (.bool b))=>K (.b (!b))
 | .neg,.d (.val (.int k a))=>∃r,k.wrap (0-a)=r/\K (.d (.val (.int k r)))
 | _,_=>False
def dn (c a b:AV)(K:AV->Prop):Prop:=
 match c with
 | .d (.val (.bool t))=>(match a,b with
  | .d (.val (.bool x)),.d (.val (.bool y))=>K (.b (cond t x y))
  | a,b=>Hv t (a.force K) (b.force K))
 | _=>False
def MJ (T:TT)(t i:Nat)(K:Nat->Nat->Nat->Prop):Prop:=match (T.get t).kind with
 | .struct fs=>(match fs[i]? with
  | some (o,s,F)=>match s with
   | 0=>False
   | s+1=>K o (s+1) F
  | none=>False)
 | _=>False
def Lr (T:TT)(t n i k:Nat)(es:O D)(K:AV->Prop):Prop:=n=es.length/\∃x,es.getD i default=x/\OK x.cells k λF=>(match (T.get t).kind.sG with
   | some true=>AS (Xdi (T.get t).size F.length) <| M4 F (T.get t).size λl=>K (.d (.agg l))
   | some false=>(match F[0]? with
    | some a=>K (.d a)
    | none=>False)
   | none=>False)
def U5 (T:TT)(t:Nat)(a:AV)(ob:O (C OB))(K:AV->Prop):Prop:=
 match a with
 | .ref r H=>CC ob r λo=>(match o with
  | .box F=>(match (T.get t).kind.sG with
   | some true=>OK F H λF=>AS (Xdi (T.get t).size F.length) <| M4 F (T.get t).size λl=>SY l K
   | some false=>(match F[H]? with
    | some a=>a.force K
    | none=>False)
   | none=>False)
  | _=>False)
 | .sT F=>(match (T.get t).kind.sG with
   | some true=>AS (Xdi (T.get t).size F.length) <| M4 F (T.get t).size λl=>K (.d (.agg l))
   | some false=>(match F[0]? with
    | some a=>K (.d a)
    | none=>False)
   | none=>False)
 | .sh r n i k=>CC ob r λo=>(match o with
  | .row _ sz J fz=>(match fz with
   | .lk M j q m=>Lr T t n i k J K\/(n=J.length/\i=M/\k=j/\i<J.length/\j<sz/\(T.get t).kind.sG=some false/\K (.own q m))
   | _=>Lr T t n i k J K)
  | .box F=>(match (T.get t).kind.sG with
   | some false=>∃a,F[k+i]?=some a/\a.force K
   | _=>False)
  | _=>False)
 | _=>False
def cW (ob:O (C OB))(a:AV)(K:D->W->Prop):Prop:=match a with
 | .d x=>OO x λx=>K x []
 | .own r n=>CC ob r λo=>(match o with
  | .row e sz F _=>n=F.length/\K (.su sz F) [(r,.row e sz F .sQ)]
  | _=>False)
 | .agg H=>toDs H λl w=>K (.agg l) w
 | _=>False where
 toDs:O AV->(O D->W->Prop)->Prop
  | [],K=>K [] []
  | .d x::H,K=>(match x with
   | .agg _=>False
   | .val v=>toDs H λl w=>K (.val v::l) w
   | .nil sz=>toDs H λl w=>K (.su sz []::l) w
   | .su sz F=>toDs H λl w=>K (.su sz F::l) w)
  | .own r n::H,K=>CC ob r λo=>(match o with
   | .row e sz F _=>n=F.length/\toDs H λl w=>K (.su sz F::l) ((r,.row e sz F .sQ)::w)
   | _=>False)
  | .fn f J::H,K=>(match J with
   | []=>toDs H λl w=>K (.val (.func (.func f) #[] #[])::l) w
   | _=>False)
  | _::_,_=>False
def IR (y:D)(k:Nat)(x:D)(K:D->Prop):Prop:=OO x λx=>L8 y.cells k x.cells λF=>match y with
 | .agg _=>K (.agg F)
 | _=>match F with
  | [z]=>AS (!z.isAgg) (K z)
  | _=>False
def Qv (T:TT)(t:Nat)(a x:AV)(ob:O (C OB))(K:AV->W->Prop):Prop:=
 AS (A2 T t) <| match a with
 | .ref r F=>CC ob r λo=>(match o with
  | .box Q=>LV x λvs=>AS (Xa6 vs.length (T.get t).size) <| L8 Q F vs λH=>K .dead [(r,.box H)]
  | _=>False)
 | .sh r n i k=>CC ob r λo=>(match o with
  | .row e sz J M=>n=J.length/\M.free=true/\(match x with
   | .d x=>AS (Xa6 x.cells.length (T.get t).size) <|∃y,J.getD i default=y/\IR y k x λz=>∃P,J.set i z=P/\K .dead [(r,.row e sz P .no)]
   | _=>False)
  | _=>False)
 | _=>False
def Ha (T:TT)(t r n i k q m:Nat)(ob:O (C OB))(K:AV->W->Prop):Prop:=False
def GO (T:TT)(t r n i k:Nat)(x:AV)(ob:O (C OB))(K:AV->W->Prop):Prop:=
 AS (A2 T t) <| cW ob x λd w=>AS (w.all λq=>!Nat.beq q.1 r) <| CC ob r λo=>(match o with
  | .row e sz F H=>n=F.length/\H.free=true/\(AS (Xa6 d.cells.length (T.get t).size) <|∃y,F.getD i default=y/\IR y k d λz=>∃J,F.set i z=J/\K .dead (w++[(r,.row e sz J .no)]))
  | _=>False)
def Nc (T:TT)(t:Nat)(a x:AV)(ob:O (C OB))(K:AV->W->Prop):Prop:=match a,x with
 | .sh r n i k,.own q m=>Ha T t r n i k q m ob K
 | .sh r n i k,.agg F=>GO T t r n i k (.agg F) ob K
 | a,x=>Qv T t a x ob K
def Tf {T:TT}{t:Nat}{a x:AV}{ob:O (C OB)}{K:AV->W->Prop}(h:Nc T t a x ob K) : (∃r n i k q m,a=.sh r n i k/\x=.own q m/\Ha T t r n i k q m ob K)\/(∃r n i k M,a=.sh r n i k/\x=.agg M/\GO T t r n i k (.agg M) ob K) \/ (Qv T t a x ob K/\∀ob' (F:AV->W->Prop),Qv T t a x ob' F->Nc T t a x ob' F):=by
 unfold Nc at h;split at h
 ·exact .inl ⟨_,_,_,_,_,_,rfl,rfl,h⟩
 ·exact .inr (.inl ⟨_,_,_,_,_,rfl,rfl,h⟩)
 rename_i H J;refine .inr (.inr ⟨h,λob' F P=>?_⟩);unfold Nc;split
 ·exact absurd rfl (H _ _ _ _ _ _ rfl)
 ·exact absurd rfl (J _ _ _ _ _ rfl)
 exact P
def Jc (T:TT)(t:Nat)(F:O (Nat×AV))(K:AV->Prop):Prop:=
 match (T.get t).kind with
 | .struct fs=>go (λi=>match fs[i]? with
  | some (o,s,_)=>some (o,s)
  | none=>none) F ((T.get t).zero.map .d) λJ=>SY J K
 | .arr n e=>AS (A2 T e) <| go (λi=>match Xbr i n with
  | true=>some (i*(T.get e).size,(T.get e).size)
  | false=>none) F ((T.get t).zero.map .d) λJ=>SY J K
 | _=>False where
 go (H:Nat->C (Nat×Nat)):O (Nat×AV)->O AV->(O AV->Prop)->Prop
  | [],J,K=>K J
  | (i,v)::rest,J,K=>match H i with
   | some (off,size)=>LV v λvs=>AS (Xa6 vs.length size) <| L8 J off vs λM=>go H rest M K
   | none=>False
def DF (o:C AV)(F:Int)(K:Int->Prop):Prop:=match o with
 | none=>K F
 | some (.d (.val (.int _ i)))=>K i
 | _=>False
def Qy (sz:Nat)(d:D)(lo J:C AV)(K:AV->Prop):Prop:=match d with
 | .su F H=>AS (Xa6 F sz) <| DF lo 0 λl=>DF J H.length λh=>(0<=l/\l<=h/\h<=H.length)/\∃ys,(H.drop l.toNat).take (h.toNat-l.toNat)=ys/\K (.d (.su F ys))
 | _=>False
def NT (T:TT)(e:Nat)(x:AV)(lo F:C AV)(ob:O (C OB))(K:AV->W->Prop):Prop:=
 AS (A2 T e) <| cW ob x λd w=>Qy (T.get e).size d lo F λv=>K v w
def Xg (T:TT)(e r n:Nat)(lo H:C AV)(ob:O (C OB))(K:AV->W->Prop):Prop:=
 AS (A2 T e) <| CC ob r λo=>match o with
  | .row _ sz F _=>AS (Xa6 sz (T.get e).size) <| DF lo 0 λl=>DF H F.length λh=>(0<=l/\l<=h/\h<=F.length)/\n=F.length/\∃a k,l.toNat=a/\h.toNat-l.toNat=k/\K (.th r a k n) []
  | _=>False
def QV (T:TT)(e self r n:Nat)(lo M mx:C AV)(ob:O (C OB))(K:AV->W->Prop):Prop:=
 uz ob self <| AS (A2 T e) <| CC ob r λo=>match o with
  | .row P sz F H=>AS (Xa6 sz (T.get e).size&&H.free) <| DF lo 0 λl=>DF M F.length λh=>DF mx h λm=>(0<=l/\l<=h/\h<=m/\m<=F.length)/\n=F.length/\
    ∃J,(F.drop l.toNat).take (h.toNat-l.toNat)=J/\K (.own self J.length) [(r,.gone),(self,.row P sz J .no)]
  | _=>False
def TW (T:TT)(t self:Nat)(x:AV)(lo F mx:C AV)(ob:O (C OB))(K:AV->W->Prop):Prop:=match (T.get t).kind with
 | .slice e=>(match x with
  | .own r n=>(match F with
   | some h=>QV T e self r n lo (some h) mx ob K
   | none=>False)
  | _=>False)
 | _=>False
def XG (T:TT)(t self:Nat)(x:AV)(lo F:C AV)(ob:O (C OB))(K:AV->W->Prop):Prop:=match (T.get t).kind with
 | .slice e=>(match x with
  | .own r n=>NT T e (.own r n) lo F ob K\/Xg T e r n lo F ob K\/QV T e self r n lo F none ob K
  | .d (.nil sz)=>NT T e (.d (.nil sz)) lo F ob K\/(AS (A2 T e) <| DF lo 0 λl=>DF F 0 λh=>(l=0/\h=0)/\K (.d (.nil sz)) [])
  | x=>NT T e x lo F ob K)
 | .str=>(match x with
  | .d (.val (.string s))=>DF lo 0 λl=>DF F s.size λh=>(0<=l/\l<=h/\h<=s.size)/\K (.s (s.extract l.toNat h.toNat)) []
  | _=>False)
 | _=>False
def ZM (T:TT)(t self:Nat)(n c:AV)(ob:O (C OB))(K:AV->W->Prop):Prop:=match (T.get t).kind,n,c with
 | .slice e,.d (.val (.int .i64 n)),.d (.val (.int .i64 c))=>uz ob self <| AS (A2 T e&&Xbr 0 (T.get e).size&&(match (T.get e).kind.sG with|some true=>true|_=>Xa6 (T.get e).size 1)) <| (0<=n/\n<=c/\c<=1048576/\(T.get e).bytes<=65536)/\
   ∃z,(match (T.get e).kind.sG with
    | some true=>D.agg (T.get e).zero
    | _=>(T.get e).zero.headD default).norm=z/\∃F,Xb6 n.toNat z=F/\K (.own self F.length) [(self,.row e (T.get e).size F .no)]
 | _,_,_=>False
def oV (T:TT)(t u self:Nat)(x n:AV)(ob:O (C OB))(K:AV->W->Prop):Prop:=match (T.get t).kind,(T.get u).kind,x,n with
 | .slice e,.int .i64,.d (.nil _),.d (.val (.int .i64 n))=>uz ob self <| AS (A2 T u&&A2 T e&&Xbr 0 (T.get e).size&&(match (T.get e).kind.sG with|some true=>true|_=>Xa6 (T.get e).size 1)) <| (0<n/\n<=1048576/\(T.get e).bytes<=65536)/\
   ∃z,(match (T.get e).kind.sG with
    | some true=>D.agg (T.get e).zero
    | _=>(T.get e).zero.headD default).norm=z/\∃F,Xb6 n.toNat z=F/\K (.own self F.length) [(self,.row e (T.get e).size F .no)]
 | _,_,_,_=>False
def mP (T:TT)(t:Nat)(x:AV)(K:AV->Prop):Prop:=False
def C7:TK->D->D->C I
 | .int _,.val (.int k a),.val (.int F b)=>if k=F then some (a==b) else none
 | .str,.val (.string a),.val (.string b)=>some (a==b)
 | .bool,.val (.bool a),.val (.bool b)=>some (a==b)
 | _,_,_=>none
def BU (tk:TK)(x:D):O (D×D)->C (C D)
 | []=>some none
 | p::l=>match C7 tk x p.1 with
  | some true=>some (some p.2)
  | some false=>BU tk x l
  | none=>none
def ER (tk:TK)(x v:D):O (D×D)->C (O (D×D))
 | []=>some [(x,v)]
 | p::l=>match C7 tk x p.1 with
  | some true=>some ((x,v)::l)
  | some false=>(ER tk x v l).map (p::·)
  | none=>none
def MM (T:TT)(e:Nat):D:=(match (T.get e).kind.sG with
 | some true=>D.agg (T.get e).zero
 | _=>(T.get e).zero.headD default).norm
def IF:TK->A->I
 | .int k,.int F _=>decide (F=k)
 | .str,.string _=>true
 | .bool,.bool _=>true
 | _,_=>false
def IB:TK->I
 | .int _|.str|.bool=>true
 | _=>false
def QP (T:TT)(e:Nat):I:=match (T.get e).kind.sG with
 | some true=>true
 | _=>Xa6 (T.get e).size 1
def nO (T:TT)(t u r k:Nat)(n:AV)(ob:O (C OB))(K:AV->W->Prop):Prop:=match (T.get t).kind,(T.get u).kind,n with
 | .slice e,.int .i64,.d (.val (.int .i64 n))=>CC ob r λo=>(match o with
  | .row M sz F H=>AS (Xa6 M e&&Xa6 sz (T.get e).size&&H.free&&A2 T u&&A2 T e&&QP T e) <|
    (k=F.length/\0<=n/\n<=1048576/\(T.get e).bytes<=65536/\(F.length+n.toNat)*(T.get e).bytes<=2^47/\F.length+n.toNat<=2^47)/\
     ∃z,MM T e=z/\∃J,F++Xb6 n.toNat z=J/\K (.own r J.length) [(r,.row M sz J .no)]
  | _=>False)
 | _,_,_=>False
def eS (T:TT)(t u self:Nat)(x n:AV)(ob:O (C OB))(K:AV->W->Prop):Prop:=False
def Qq (T:TT)(e:Nat):I:=match (T.get e).kind,(T.get e).zero with
 | .slice _,[.nil _]=>true
 | _,_=>false
def YS (T:TT)(t:Nat)(x key:AV)(ok:I)(ob:O (C OB))(K:AV->Prop):Prop:=match (T.get t).kind,x,key with
 | .map k e,.mp r,.d (.val F)=>AS (IF (T.get k).kind F&&IB (T.get k).kind&&A2 T k&&A2 T e&&Xbr 0 (T.get e).size&&QP T e) <| CC ob r λo=>(match o with
  | .map _ _ H=>∃q,BU (T.get k).kind (.val F) H=some q/\∃v,q.getD (MM T e)=v/\∃b,q.isSome=b/\K (match ok with
   | true=>.sH [.d v,.b b]
   | false=>.d v)
  | .rK _ _ H J M P=>(∃q,BU (T.get k).kind (.val F) H=some q/\∃v,q.getD (MM T e)=v/\∃b,q.isSome=b/\K (match ok with
   | true=>.sH [.d v,.b b]
   | false=>.d v))\/(F=J/\ok=false/\(∃q,BU (T.get k).kind (.val F) H=some q)/\Qq T e=true/\K (.own M P))
  | _=>False)
 | _,_,_=>False
def ZE (T:TT)(G:Nat->C (O (D×D)))(t:Nat)(a:AV)(ob:O (C OB))(K:AV->Prop):Prop:=match a with
 | .gl g=>(match (T.get t).kind,G g with
  | .map _ _,some _=>K (.gv g)
  | _,_=>False)
 | a=>U5 T t a ob K
def gu (T:TT)(G:Nat->C (O (D×D)))(t g:Nat)(key:AV)(ok:I)(K:AV->Prop):Prop:=match (T.get t).kind,G g,key with
 | .map k e,some es,.d (.val F)=>AS (IF (T.get k).kind F&&IB (T.get k).kind&&A2 T k&&A2 T e&&Xbr 0 (T.get e).size&&QP T e) <|
   ∃q,BU (T.get k).kind (.val F) es=some q/\∃v,q.getD (MM T e)=v/\∃b,q.isSome=b/\K (match ok with
   | true=>.sH [.d v,.b b]
   | false=>.d v)
 | _,_,_=>False
def Yr (T:TT)(G:Nat->C (O (D×D)))(t:Nat)(x key:AV)(ok:I)(ob:O (C OB))(K:AV->Prop):Prop:=match x with
 | .gv g=>gu T G t g key ok K
 | x=>YS T t x key ok ob K
def KW (T:TT)(t:Nat)(x key v:AV)(ob:O (C OB))(K:AV->W->Prop):Prop:=match (T.get t).kind,x,key with
 | .map k _,.mp r,.d (.val H)=>AS (IF (T.get k).kind H&&IB (T.get k).kind&&A2 T k) <| cW ob v λd w=>AS (w.all λq=>!Nat.beq q.1 r) <| CC ob r λo=>(match o with
  | .map J M P=>∃F,ER (T.get k).kind (.val H) d P=some F/\K .dead (w++[(r,.map J M F)])
  | .rK J M P _ _ _=>∃F,ER (T.get k).kind (.val H) d P=some F/\K .dead (w++[(r,.map J M F)])
  | _=>False)
 | _,_,_=>False
def ND (T:TT)(t:Nat)(x key:AV)(J n:Nat)(ob:O (C OB))(K:AV->W->Prop):Prop:=match (T.get t).kind,x,key with
 | .map k _,.mp r,.d (.val F)=>AS (IF (T.get k).kind F&&IB (T.get k).kind&&A2 T k) <| cW ob (.own J n) λd w=>AS (w.all λq=>!Nat.beq q.1 r) <| CC ob r λo=>(match o with
  | .map M P Q=>∃H,ER (T.get k).kind (.val F) d Q=some H/\K .dead (w++[(r,.rK M P H F J n)])
  | .rK M P Q _ _ _=>∃H,ER (T.get k).kind (.val F) d Q=some H/\K .dead (w++[(r,.rK M P H F J n)])
  | _=>False)
 | _,_,_=>False
def MA (T:TT)(t:Nat)(x key v:AV)(ob:O (C OB))(K:AV->W->Prop):Prop:=match v with
 | .own r n=>KW T t x key (.own r n) ob K\/ND T t x key r n ob K
 | v=>KW T t x key v ob K
def D7 (T:TT)(t len self:Nat)(F:O (Nat×AV))(ob:O (C OB))(K:AV->W->Prop):Prop:=
 match (T.get t).kind with
 | .slice e=>uz ob self <| AS (Xbr 0 (T.get e).size&&Xdi (len*(T.get e).size) 16777216) <| AS (A2 T e) <|
  elems (T.get e).size 0 F λH w=>AS (Xa6 H.length len) <| K (.own self len) (w++[(self,.row e (T.get e).size H .no)])
 | _=>False where
 elems (sz:Nat):Nat->O (Nat×AV)->(O D->W->Prop)->Prop
  | _,[],K=>K [] []
  | i,(j,v)::rest,K=>match Xa6 i j with
   | true=>cW ob v λx w=>AS (Xa6 x.cells.length sz) <| elems sz (i+1) rest λl w'=>K (x::l) (w++w')
   | false=>False
def vP (T:TT)(t:Nat):I:=match (T.get t).kind.sG with
 | some true=>true
 | _=>false
def KT (T:TT)(t len self:Nat)(F:O AV)(ob:O (C OB))(K:AV->W->Prop):Prop:=
 match (T.get t).kind with
 | .slice e=>uz ob self <| AS (Xa6 len 1&&vP T e&&Xa6 (T.get e).size F.length&&Xbr 0 (T.get e).size&&Xdi (T.get e).size 65536) <| K (.own self 1) [(self,.box F)]
 | _=>False
def LM (T:TT)(t len self:Nat)(F:O AV)(ob:O (C OB))(K:AV->W->Prop):Prop:=False
def ID (T:TT)(t len self:Nat)(F:O (Nat×AV))(ob:O (C OB))(K:AV->W->Prop):Prop:=match F with
 | [(0,.agg H)]=>D7 T t len self [(0,.agg H)] ob K\/KT T t len self H ob K\/LM T t len self H ob K
 | F=>D7 T t len self F ob K
def VN (ob:O (C OB))(y:AV)(K:Nat->O D->Prop):Prop:=match y with
 | .d (.su sz F)=>K sz F
 | .d (.nil sz)=>K sz []
 | .own r n=>CC ob r λo=>(match o with
  | .row _ sz F _=>n=F.length/\K sz F
  | _=>False)
 | _=>False
def WA (ob:O (C OB))(y:AV)(K:Nat->O D->Prop):Prop:=match y with
 | .th r a n m=>CC ob r λo=>(match o with
  | .row _ sz F _=>m=F.length/\∃H,(F.drop a).take n=H/\K sz H
  | _=>False)
 | y=>VN ob y K
def cQ (ob:O (C OB))(y:AV)(k sz:Nat)(frz:FZ)(K:FZ->Prop):Prop:=match frz with
 | .sQ=>K .sQ
 | _=>(match y with
  | .own q n=>(match ob.getD q none with
   | some (.row _ F ys (.lk i j H m))=>(match Xa6 F sz with
    | true=>n=ys.length/\K (.lk (k+i) j H m)
    | false=>K .no)
   | _=>K .no)
  | _=>K .no)
def O4 (T:TT)(st:Nat)(self:Nat)(x y:AV)(ob:O (C OB))(K:AV->W->Prop):Prop:=
 match (T.get st).kind with
 | .slice e=>WA ob y λH ys=>(match x with
  | .d (.nil _)=>uz ob self <| AS (Xa6 H (T.get e).size&&Xbr 0 (T.get e).size) <| AS (A2 T e) <| (ys.length*(T.get e).bytes<=2^47/\ys.length<=2^47)/\
    K (.own self ys.length) [(self,.row e (T.get e).size ys .no)]
  | .own r n=>CC ob r λo=>(match o with
   | .row P sz F J=>AS (Xa6 P e&&Xa6 H sz&&Xa6 sz (T.get e).size&&Xbr 0 sz) <| AS (A2 T e) <| n=F.length/\((F.length+ys.length)*(T.get e).bytes<=2^47/\F.length+ys.length<=2^47)/\
     ∃M,F++ys=M/\cQ ob y F.length sz J λf=>K (.own r M.length) [(r,.row P sz M f)]
   | _=>False)
  | .th r a n m=>CC ob r λo=>(match o with
   | .row P sz F J=>AS (Xa6 P e&&Xa6 H sz&&Xa6 sz (T.get e).size&&Xbr 0 sz&&J.free) <| AS (A2 T e) <| uz ob self <| a=0/\m=F.length/\n<=F.length/\((n+ys.length)*(T.get e).bytes<=2^47/\n+ys.length<=2^47)/\
     ∃M,F.take n++ys=M/\K (.own self M.length) [(r,.gone),(self,.row P sz M .no)]
   | _=>False)
  | _=>False)
 | _=>False
def gG (T:TT)(t:Nat)(x:AV)(K:AV->Prop):Prop:=
 match (T.get t).kind,x with
 | .slice _,.d (.su _ es)=>∃n:Nat,es.length=n/\K (.i n)
 | .slice _,.d (.nil _)=>K (.i 0)
 | .slice _,.own _ n=>∃m:Nat,n=m/\K (.i m)
 | .slice _,.th _ _ n _=>∃m:Nat,n=m/\K (.i m)
 | .str,.d (.val (.string s))=>K (.i s.size)
 | .arr n _,_=>K (.i n)
 | _,_=>False
def H5 (T:TT)(t:Nat)(x y:AV)(ob:O (C OB))(K:AV->Prop):Prop:=
 match y with
 | .d (.val (.int _ i))=>(match (T.get t).kind,x with
  | .slice e,.d (.su sz F)=>AS (A2 T e) <| AS (Xa6 sz (T.get e).size) <| (0<=i/\i<F.length)/\∃v,F.getD i.toNat default=v/\v.cells.length=sz/\K (.sT v.cells)
  | .slice e,.own r n=>CC ob r λo=>(match o with
   | .row _ sz F _=>AS (A2 T e) <| AS (Xa6 sz (T.get e).size) <| n=F.length/\(0<=i/\i<F.length)/\K (.sh r n i.toNat 0)
   | .box H=>AS (A2 T e) <| AS (Xa6 H.length (T.get e).size) <| i=0/\K (.ref r 0)
   | _=>False)
  | .arr n e,.ref r off=>AS (A2 T e) <| AS (Xdi 2 n) <| ((0<=i/\i<n)/\K (.ref r (off+i.toNat*(T.get e).size))) \/
    AS (Xa6 (T.get e).size 1) ((0<=i/\i<n)/\∃j,i.toNat=j/\K (.sh r n j off))
  | _,_=>False)
 | _=>False
def I7 (T:TT)(t r a n m:Nat)(y:AV)(ob:O (C OB))(K:AV->Prop):Prop:=
 match y with
 | .d (.val (.int _ i))=>(match (T.get t).kind with
  | .slice e=>CC ob r λo=>(match o with
   | .row _ sz F _=>AS (A2 T e) <| AS (Xa6 sz (T.get e).size) <| m=F.length/\(0<=i/\i<n)/\∃j,a+i.toNat=j/\K (.sh r m j 0)
   | _=>False)
  | _=>False)
 | _=>False
def JC (T:TT)(t:Nat)(x y:AV)(ob:O (C OB))(K:AV->Prop):Prop:=match x with
 | .th r a n m=>I7 T t r a n m y ob K
 | x=>H5 T t x y ob K
def Yf (T:TT)(t:Nat)(F:O AV)(off:Nat)(K:AV->Prop):Prop:=
 match (T.get t).kind.sG with
 | some true=>OK F off λF=>AS (Xdi (T.get t).size F.length) <| M4 F (T.get t).size λl=>SY l K
 | some false=>(match F[off]? with
  | some a=>a.force K
  | none=>False)
 | none=>False
def Ij (x:AV)(K:O AV->Prop):Prop:=match x with
 | .d (.agg F)=>O1 (λc K=>K (.d c)) F K
 | .agg F=>K F
 | _=>False
def TR (T:TT)(t:Nat)(x y:AV)(K:AV->Prop):Prop:=
 match y with
 | .d (.val (.int _ i))=>(match (T.get t).kind,x with
  | .str,.d (.val (.string s))=>(0<=i/\i<s.size)/\∃c,s.toList.getD i.toNat 0=c/\K (.u c.toNat)
  | .arr n e,x=>Ij x λF=>(0<=i/\i<n)/\(match (T.get e).kind.sG with
   | some false=>∃a,F[i.toNat*(T.get e).size]?=some a/\a.force K
   | _=>False)
  | _,_=>False)
 | _=>False
def Tu (T:TT)(t i:Nat)(x:AV)(K:AV->Prop):Prop:=
 match (T.get t).kind with
 | .struct fs=>(match fs[i]? with
  | some (o,_,F)=>Ij x λH=>Yf T F H o K
  | none=>False)
 | _=>False
def ZN (T:TT)(F dst:Nat)(x:AV)(ob:O (C OB))(K:AV->Prop):Prop:=
 AS (T.get F).kind.sG.isSome <| match (T.get dst).kind,x with
 | .int k,.d (.val (.int _ n))=>∃r,k.wrap n=r/\K (.d (.val (.int k r)))
 | .str,.d (.val (.string s))=>K (.s s)
 | .str,x=>(match (T.get F).kind with
  | .slice e=>(match (T.get e).kind with
   | .int .u8=>AS (Xa6 (T.get e).size 1) <| WA ob x λsz H=>AS (Xa6 sz 1) <|∃l:O S,H=l.map (λc=>.u c.toNat)/\K (.s ⟨l.toArray⟩)
   | _=>False)
  | _=>False)
 | _,_=>False
def isNil:AV->I
 | .d (.val (.slice Wy 0 0))=>true
 | _=>false
def WP (T:TT)(ty self:Nat)(x:AV)(ob:O (C OB))(K:AV->W->Prop):Prop:=
 match isNil x with
 | true=>(match (T.get ty).kind with
  | .slice e=>(match ob[self]? with
   | some none=>AS (Xbr 0 (T.get e).size) <| K (.own self 0) [(self,.row e (T.get e).size [] .no)]
   | _=>K (.d (.nil (T.get e).size)) [])
  | _=>False)
 | false=>x.force λx=>K x []
def J3 (s9:I)(ob:O (C OB))(a:AV)(ρ:O Nat)(K:AV->O Nat->W->Prop):Prop:=match a with
 | .d x=>(match s9,x with
  | true,.nil sz=>K (.d (.nil sz)) ρ []
  | _,x=>OO x λx=>K (.d x) ρ [])
 | .own r n=>(match s9 with
  | true=>refK r ρ λi ρ=>K (.own i n) ρ []
  | false=>cW ob (.own r n) λx w=>K (.d x) ρ w)
 | .agg J=>cW ob (.agg J) λx w=>K (.d x) ρ w
 | .ref r M=>refK r ρ λi ρ=>K (.ref i M) ρ []
 | .mp r=>refK r ρ λi ρ=>K (.mp i) ρ []
 | .it f r=>refK r ρ λi ρ=>K (.it f i) ρ []
 | .sT J=>K (.sT J) ρ []
 | .fn f H=>capsK H ρ λH ρ=>K (.fn f H) ρ []
 | _=>False where
 refK (r:Nat) (ρ:O Nat) (K:Nat->O Nat->Prop):Prop:=go r ρ 0 (λi=>K i ρ) (λn=>K n (ρ++[r]))
 go (r:Nat):O Nat->Nat->(Nat->Prop)->(Nat->Prop)->Prop
  | [],n,_,N=>N n
  | x::ρ,n,F,N=>match Xa6 x r with
   | true=>F n
   | false=>go r ρ (n+1) F N
 capsK:O AV->O Nat->(O AV->O Nat->Prop)->Prop
  | [],ρ,K=>K [] ρ
  | .ref r M::J,ρ,K=>refK r ρ λi ρ=>capsK J ρ λJ ρ=>K (.ref i M::J) ρ
  | _::_,_,_=>False
def QK (s9:O I)(ob:O (C OB)):O AV->O Nat->(O AV->O Nat->W->Prop)->Prop
 | [],F,K=>K [] F []
 | a::J,F,K=>J3 (s9.headD false) ob a F λM F w=>QK s9.tail ob J F λH F w'=>K (M::H) F (w++w')
def G8 (ob:O (C OB)):O Nat->(O OB->Prop)->Prop
 | [],K=>K []
 | r::H,K=>CC ob r λo=>match o with
  | .box J=>cellsD J λM=>G8 ob H λl=>K (.box M::l)
  | .row e sz P F=>AS (!F.linked) <| G8 ob H λl=>K (.row e sz P F::l)
  | .map k e P=>G8 ob H λl=>K (.map k e P::l)
  | .rK ..=>False
  | .gone=>False where
 cellsD:O AV->(O AV->Prop)->Prop
  | [],K=>K []
  | .d x::J,K=>cellsD J λl=>K (.d x::l)
  | _::_,_=>False
def Ln (ρ:O Nat)(self:Nat)(a:AV)(K:AV->Prop):Prop:=match a with
 | .d x=>K (.d x)
 | .ref i F=>K (.ref (ρ.getD i self) F)
 | .own i n=>K (.own (ρ.getD i self) n)
 | .mp i=>K (.mp (ρ.getD i self))
 | .it f i=>K (.it f (ρ.getD i self))
 | .sH vs=>renTup ρ self vs λl=>K (.sH l)
 | .agg vs=>renTup ρ self vs λl=>K (.agg l)
 | _=>False where
 renTup (ρ:O Nat) (self:Nat):O AV->(O AV->Prop)->Prop
  | [],K=>K []
  | .d x::l,K=>renTup ρ self l λH=>K (.d x::H)
  | .ref i F::l,K=>renTup ρ self l λH=>K (.ref (ρ.getD i self) F::H)
  | .own i n::l,K=>renTup ρ self l λH=>K (.own (ρ.getD i self) n::H)
  | _::_,_=>False
def A4:OB->I
 | .box F=>F.all λ| .d _=>true|_=>false
 | .row _ _ _ f=>!f.linked
 | .map _ _ _=>true
 | .rK ..=>false
 | .gone=>true
def JM (ρ:O Nat)(self:Nat)(gF:O OB)(K:W->Prop):Prop:=match ρ,gF with
 | [],[]=>K []
 | [],[o]=>match A4 o with
  | true=>K [(self,o)]
  | false=>False
 | r::ρ,o::os=>match A4 o with
  | true=>JM ρ self os λw=>K ((r,o)::w)
  | false=>False
 | _,_=>False
def KG (cx:Cx)(f:Xcx)(self:Nat)(args:O AV)(ob:O (Option OB))(K:AV->W->Prop):Prop:=
 QK (cx.s9 f) ob args [] λH J w=>AS (apartW w J) <| G8 ob J λgF=>
  ∃M F,cx.C f H gF M F/\(F.length=J.length\/ob[self]?=some none)/\
   Ln J self M λP=>JM J self F λw'=>K P (w++w') where
 apartW (w:W) (J:O Nat):I:=w.all λx=>J.all λr=>match Xa6 r x.1 with
  | true=>false
  | false=>true
def Uz (cx:Cx)(f:Xcx)(self:Nat)(args:O AV)(ob:O (C OB))(K:AV->W->Prop):Prop:=KG cx f self args ob K
def Vt (cx:Cx)(f:Xcx)(self:Nat)(args:O AV)(ob:O (C OB))(K:AV->W->Prop):Uz cx f self args ob K=KG cx f self args ob K:=rfl
def SQ:O Nat->O OB->(W->Prop)->Prop
 | [],[],K=>K []
 | r::F,o::os,K=>(match A4 o with
  | true=>SQ F os λw=>K ((r,o)::w)
  | false=>False)
 | _,_,_=>False
def Lt:O Nat->Nat->I
 | [],_=>false
 | x::l,r=>Xa6 r x || Lt l r
def QS:O Nat->I
 | []=>true
 | x::l=>!Lt l x&&QS l
def ej (ob:O (C OB))(F:O Nat):I:=QS F&&F.all λr=>match ob[r]? with
 | some none=>true
 | _=>false
def OP:D->I
 | .val _=>true
 | .agg F=>F.all λ| .val _=>true|_=>false
 | _=>false
def Yb:AV->I
 | .d x=>OP x
 | .sH vs=>vs.all λ| .d x=>OP x|_=>false
 | _=>false
def eW (cx:Cx)(f:Xcx)(args:O AV)(ob:O (Option OB))(K:AV->W->Prop):Prop:=
 QK (cx.s9 f) ob args [] λM P w=>AS (KG.apartW w P) <| G8 ob P λgF=>
  ∃(J:AV) (F:O OB) (b:Option (O Nat)),cx.C f M gF J F/\(match b with
   | some H=>AS (ej ob H) <| Ln (P++H) 0 J λQ=>SQ (P++H) F λw'=>K Q (w++w')
   | none=>AS (P.isEmpty&&F.isEmpty&&Yb J) (K J []))
def UL (T:TT)(t r a n m:Nat)(ob:O (C OB))(K:AV->W->Prop):Prop:=match (T.get t).kind with
 | .slice e=>CC ob r λo=>(match o with
  | .row M sz F H=>AS (A2 T e&&Xa6 sz (T.get e).size&&H.free&&QP T e) <| m=F.length/\∃z,MM T e=z/\∃J,F.take a++Xb6 n z++F.drop (a+n)=J/\K (.sH []) [(r,.row M sz J .no)]
  | _=>False)
 | _=>False
def ol (T:TT)(e r a n m F:Nat)(ys:O D)(ob:O (C OB))(K:AV->W->Prop):Prop:=CC ob r λo=>(match o with
  | .row P sz H J=>AS (A2 T e&&Xa6 sz (T.get e).size&&Xa6 F sz&&J.free) <| m=H.length/\∃M,H.take a++ys.take n++H.drop (a+min ys.length n)=M/\∃k:Nat,min ys.length n=k/\K (.i k) [(r,.row P sz M .no)]
  | _=>False)
def e7 (T:TT)(t:Nat)(x y:AV)(ob:O (C OB))(K:AV->W->Prop):Prop:=False
def kV (args:O AV)(K:AV->Prop):Prop:=match args with
 | [.d (.val (.int k x)),.d (.val (.int _ y))]=>∃r,(if y>x then y else x)=r/\K (.d (.val (.int k r)))
 | _=>False
def jk (args:O AV)(K:AV->Prop):Prop:=match args with
 | [.d (.val (.int k x)),.d (.val (.int _ y))]=>∃r,(if y<x then y else x)=r/\K (.d (.val (.int k r)))
 | _=>False
def Gw (T:TT)(t:Nat)(a:AV):AV:=match isNil a with
 | true=>(match (T.get t).kind with
  | .slice e=>.d (.nil (T.get e).size)
  | _=>a)
 | false=>a
def F4 (T:TT)(av:Xaw->AV):O Xaw->O Nat->O AV
 | x::xs,t::F=>Gw T t (av x)::F4 T av xs F
 | xs,_=>xs.map av
def x0 (a:AV)(K:Xcx->O AV->Prop):Prop:=match a with
 | .fn f F=>K f F
 | .d (.val (.func (.func f) p q))=>(match p.toList,q.toList with
  | [],[]=>K f []
  | _,_=>False)
 | _=>False
def UX {a:AV}{K:Xcx->O AV->Prop}(h:x0 a K) :∃f F,K f F/\(a=.fn f F\/(a=.d (.val (.func (.func f) #[] #[]))/\F=[])):=by
 unfold x0 at h;split at h
 ·exact⟨_,_,h,.inl rfl⟩
 ·rename_i f p q;split at h
  ·rename_i hp H;have hp:p=#[]:=by cases p;simp_all
   have H:q=#[]:=by cases q;simp_all
   subst hp H;exact⟨_,_,h,.inr ⟨rfl,rfl⟩⟩
  exact h.elim
 exact h.elim
def sk (cx:Cx)(o:z)(av:Xaw->AV)(ob:O (C OB))(K:AV->W->Prop):Prop:=
 match o.op with
 | .move x|.assign x=>(match x with
  | .const v=>WP cx.T o.type (cx.np+o.dst.getD 0) (av (.const v)) ob K
  | x=>(av x).force λv=>K v [])
 | .pick c a b=>dn (av c) (av a) (av b) λv=>K v []
 | .alloc t=>AS (A2 cx.T t) <| uz ob (cx.np+o.dst.getD 0) <| K (.ref (cx.np+o.dst.getD 0) 0) [(cx.np+o.dst.getD 0,.box ((cx.T.get t).zero.map .d))]
 | .box t x=>uz ob (cx.np+o.dst.getD 0) <| LV (av x) λM=>AS (Xa6 M.length (cx.T.get t).size) <| K (.ref (cx.np+o.dst.getD 0) 0) [(cx.np+o.dst.getD 0,.box M)]
 | .build t H=>Jc cx.T t (H.toList.map λ(i,x)=>(i,av x)) λv=>K v []
 | .buildSlice t len H=>ID cx.T t len (cx.np+o.dst.getD 0) (H.toList.map λ(i,x)=>(i,av x)) ob K
 | .load t x=>ZE cx.T cx.G t (av x) ob λv=>K v []
 | .store t a x=>Nc cx.T t (av a) (Gw cx.T t (av x)) ob K
 | .nilCheck x=>(match av x with
  | .ref r J=>K (.ref r J) []
  | .sT M=>K (.sT M) []
  | .sh r n i k=>K (.sh r n i k) []
  | .fn f F=>K (.fn f F) []
  | .d (.val (.func (.func g) p q))=>K (.d (.val (.func (.func g) p q))) []
  | _=>False)
 | .binOp op t x y _=>mZ cx.T op t (av x) (av y) λv=>K v []
 | .unOp op _ x=>xM op (av x) λv=>K v []
 | .convert P dst x=>ZN cx.T P dst (av x) ob λv=>K v []
 | .fieldAddr t x i=>MJ cx.T t i λJ size _=>(match av x with
  | .ref r o=>K (.ref r (o+J)) []
  | .sT M=>OK M J λM=>M4 M size λM=>K (.sT M) []
  | .sh r n i k=>CC ob r λo=>(match o with
   | .row _ _ V _=>n=V.length/\K (.sh r n i (k+J)) []
   | _=>False)
  | _=>False)
 | .field t x i=>Tu cx.T t i (av x) λv=>K v []
 | .indexAddr t x y=>JC cx.T t (av x) (av y) ob λv=>K v []
 | .index t x y=>TR cx.T t (av x) (av y) λv=>K v []
 | .makeMap t none=>(match (cx.T.get t).kind with
  | .map k e=>uz ob (cx.np+o.dst.getD 0) <| K (.mp (cx.np+o.dst.getD 0)) [(cx.np+o.dst.getD 0,.map k e [])]
  | _=>False)
 | .lookup t x y ok=>Yr cx.T cx.G t (av x) (av y) ok ob λv=>K v []
 | .mapUpdate t m k v|.insert t m k v=>MA cx.T t (av m) (av k) (av v) ob K
 | .slice t x Q U none=>XG cx.T t (cx.np+o.dst.getD 0) (Gw cx.T t (av x)) (Q.map av) (U.map av) ob K
 | .slice t x Q U (some m)=>TW cx.T t (cx.np+o.dst.getD 0) (av x) (Q.map av) (U.map av) (some (av m)) ob K
 | .makeSlice t n c=>ZM cx.T t (cx.np+o.dst.getD 0) (av n) (av c) ob K
 | .extract x i=>(match av x with
  | .sH vs=>(match vs[i]? with
   | some a=>a.force λv=>K v []
   | none=>False)
  | _=>False)
 | .makeFunc (.func f) first F=>(match first.toList with
  | []=>K (.fn f (F.toList.map av)) []
  | _=>False)
 | .call c=>(match c.callee with
  | .value x=>x0 (av x) λf F=>Uz cx f (cx.np+o.dst.getD 0) (F4 cx.T av c.args.toList c.argTypes.toList++F) ob K
  | .builtin .len=>(match c.args.toList,c.argTypes.toList with
   | [x],[t]=>gG cx.T t (Gw cx.T t (av x)) λv=>K v []
   | _,_=>False)
  | .builtin .append=>(match c.args.toList,c.argTypes.toList with
   | [x,y],[t,u]=>(match Xa6 t u with
    | true=>O4 cx.T t (cx.np+o.dst.getD 0) (Gw cx.T t (av x)) (Gw cx.T t (av y)) ob K
    | false=>eS cx.T t u (cx.np+o.dst.getD 0) (Gw cx.T t (av x)) (av y) ob K)
   | _,_=>False)
  | .builtin .cap=>(match c.args.toList,c.argTypes.toList with
   | [x],[t]=>mP cx.T t (Gw cx.T t (av x)) λv=>K v []
   | _,_=>False)
  | .builtin .clear=>(match c.args.toList,c.argTypes.toList with
   | [x],[t]=>(match av x with
    | .th r a n m=>UL cx.T t r a n m ob K
    | _=>False)
   | _,_=>False)
  | .builtin .copy=>(match c.args.toList,c.argTypes.toList with
   | [x,y],[t,_]=>e7 cx.T t (av x) (av y) ob K
   | _,_=>False)
  | .builtin .max=>(match c.args.toList with
   | [x,y]=>kV [av x,av y] λv=>K v []
   | _=>False)
  | .builtin .min=>(match c.args.toList with
   | [x,y]=>jk [av x,av y] λv=>K v []
   | _=>False)
  | _=>False)
 | _=>False
def Kx (tm:O AV)(dst:C Nat)(v:AV)(K:O AV->Prop):Prop:=match dst with
 | some d=>KP tm d v K
 | none=>K tm
def vJ (ob:O (C OB)):W->(O (C OB)->Prop)->Prop
 | [],K=>K ob
 | (r,o)::w,K=>KP ob r (some o) λob=>vJ ob w K
def Iq (F:Array z)(o:z)(tm:O AV)(sQ no:O AV->Prop):Prop:=match o.guard with
 | none=>sQ tm
 | some (j,want)=>match (F[j]?).bind (·.dst) with
  | some t=>(match tm.getD t .dead with
   | .d (.val (.bool b))=>(match want with
    | true=>Hv b (KP tm t (.b true) sQ) (KP tm t (.b false) no)
    | false=>Hv b (KP tm t (.b true) no) (KP tm t (.b false) sQ))
   | .sH _=>no tm
   | _=>False)
  | none=>False
def TZ (T:TT)(t self:Nat)(F:O AV)(y:AV)(ob:O (C OB))(K:AV->W->Prop):Prop:=match (T.get t).kind with
 | .slice e=>uz ob self <| AS (vP T e&&Xa6 (T.get e).size F.length&&Xbr 0 (T.get e).size&&Xdi (T.get e).bytes 65536) <| WA ob y λsz ys=>AS (Xa6 sz (T.get e).size&&!ys.isEmpty) <| ys.length<=1000000/\
   cW ob (.agg F) λd w=>AS (w.all λq=>!Nat.beq q.1 self) <| K (.own self (ys.length+1)) (w++[(self,.row e (T.get e).size (d::ys) .no)])
 | _=>False
def x9 (cx:Cx)(o:z)(av:Xaw->AV)(ob:O (C OB))(K:AV->W->Prop):Prop:=match o.op with
 | .binOp op F x y Q=>(match av x,av y with
  | .d (.su sz es),.d (.val (.slice none 0 0))=>(match op,(cx.T.get F).kind with
   | .eql,.slice _=>K (.b false) []/\(es.length=0->K (.b true) [])
   | _,_=>False)
  | _,_=>sk cx o av ob K)
 | .store F a x=>(match av a,av x with
  | .sh r n i k,.own M P=>GO cx.T F r n i k (.own M P) ob K\/Ha cx.T F r n i k M P ob K
  | .sh r n i k,.agg J=>GO cx.T F r n i k (.agg J) ob K
  | _,_=>sk cx o av ob K)
 | .call c=>(match c.callee with
  | .builtin .append=>(match c.args.toList,c.argTypes.toList with
   | [x,y],[t,u]=>(match av x with
    | .own r _=>(match ob.getD r none with
     | some (.box J)=>AS (Xa6 t u) <| TZ cx.T t (cx.np+o.dst.getD 0) J (av y) ob K
     | _=>sk cx o av ob K)
    | _=>sk cx o av ob K)
   | _,_=>sk cx o av ob K)
  | .value x=>x0 (av x) λf H=>eW cx f (F4 cx.T av c.args.toList c.argTypes.toList++H) ob K
  | _=>sk cx o av ob K)
 | _=>sk cx o av ob K
def stepG (H:Array z)(o:z)(F:(Xaw->AV)->O (C OB)->(AV->W->Prop)->Prop)(st:r9)(K:r9->Prop):Prop:=
 match st with
 | ⟨tm,ob⟩=>Iq H o tm
  (λtm=>F (uc tm) ob λv w=>Kx tm o.dst v λtm=>vJ ob w λob=>K ⟨tm,ob⟩)
  (λtm=>Kx tm o.dst (.sH []) λtm=>K ⟨tm,ob⟩)
def LI (cx:Cx)(F:Array z)(o:z)(st:r9)(K:r9->Prop):Prop:=
 match st with
 | ⟨tm,ob⟩=>Iq F o tm
  (λtm=>sk cx o (uc tm) ob λv w=>Kx tm o.dst v λtm=>vJ ob w λob=>K ⟨tm,ob⟩)
  (λtm=>Kx tm o.dst (.sH []) λtm=>K ⟨tm,ob⟩)
inductive AE where
 | normal|exit (id:Nat)|ret
def AV.refs:AV->O Nat
 | .ref r _=>[r]
 | .own r _=>[r]
 | .mp r=>[r]
 | .it _ r=>[r]
 | .sh r _ _ _=>[r]
 | .th r _ _ _=>[r]
 | .agg F=>refsL F
 | .fn _ F=>refsL F
 | .sH F=>refsL F
 | _=>[] where
 refsL:O AV->O Nat
  | []=>[]
  | a::l=>a.refs++refsL l
def OB.refs:OB->O Nat
 | .box F=>AV.refs.refsL F
 | .row _ _ _ f=>f.refs
 | .map _ _ _=>[]
 | .rK _ _ _ _ r _=>[r]
 | .gone=>[]
def Bl (o:z):O Nat:=(o.after.toList.filter (Region.binds .any)).map (·.on)
def Hw:O z->O (O Nat)->O (O Nat)
 | [],acc=>acc
 | o::l,acc=>Hw l (((Bl o).flatMap λj=>j::acc.getD (acc.length-1-j) [])::acc)
def F7 (F:Array z)(i:Nat):O Nat:=(Hw F.toList []).getD (F.size-1-i) []
def Ef (F:Array z):I:=
 (Xb4 F.size).all λi=>match F[i]? with
  | none=>false
  | some o=>(Bl o).all (λj=>Xbr j i)&&(match o.op with|.select _ _=>false|_=>true) &&
   (Xb4 i).all λj=>(F7 F i).contains j || (match F[j]? with
    | none=>false
    | some q=>q.apart F o)
def VI:Op->I
 | .move (.const _)|.assign (.const _)|.store ..|.alloc _|.box ..|.buildSlice ..|.slice ..|.makeSlice ..|.makeMap ..|.mapUpdate ..|.insert ..=>true
 | .call c=>match c.callee with
  | .builtin .append=>true
  | .builtin .clear=>true
  | .builtin .copy=>true
  | .value _=>true
  | _=>false
 | _=>false
def AV.uw:AV->I
 | .th _ _ _ _=>true
 | _=>false
def jT:Op->I
 | .slice ..=>true
 | _=>false
def xC:Op->C Xaw
 | .call c=>(match c.callee,c.args.toList with
  | .builtin .append,[x,_]=>some x
  | _,_=>none)
 | _=>none
def Pj (o:Op):O Xaw:=match o with
 | .move (.tmp _)|.assign (.tmp _)|.pick ..|.extract ..=>[]
 | o=>o.operands.toList
def P4 (np:Nat)(o:z)(tm:O AV):O Nat:=
 (match VI o.op with
  | true=>[np+o.dst.getD 0]
  | false=>[])++(Pj o.op).flatMap λx=>(uc tm x).refs
def eU (np:Nat)(o:z)(tm tm':O AV):O Nat:=match jT o.op with
 | true=>(match o.dst with
  | some d=>(match (tm'.getD d .dead).uw with
   | true=>[]
   | false=>P4 np o tm)
  | none=>P4 np o tm)
 | false=>(match VI o.op with
  | true=>(match xC o.op with
   | some x=>(np+o.dst.getD 0)::(uc tm x).refs
   | none=>P4 np o tm)
  | false=>[])
def EF (F:Array z):Nat->O (O Nat×O Nat)->I
 | _,[]=>true
 | i,(H,wr)::l=>tH F i H wr (i+1) l&&EF F (i+1) l where
 tH (F:Array z) (i:Nat) (H wr:O Nat):Nat->O (O Nat×O Nat)->I
  | _,[]=>true
  | j,(J,K)::l=>((F7 F j).contains i || ((wr.all λr=>!J.contains r)&&H.all λr=>!K.contains r))&&tH F i H wr (j+1) l
def RJ (cx:Cx)(H:Array z):O z->O (O Nat×O Nat)->r9->(O (O Nat×O Nat)->r9->Prop)->Prop
 | [],F,st,K=>K F.reverse st
 | o::rest,F,⟨tm,ob⟩,K=>LI cx H o ⟨tm,ob⟩ λJ=>RJ cx H rest ((P4 cx.np o tm,eU cx.np o tm J.tm)::F) J K
def AV.one:AV->I
 | .d x=>!x.isAgg
 | .agg _|.sH _|.dead|.gl _|.gv _=>false
 | _=>true
def yM (es:O D)(f frz:FZ):Prop:=(f.frozen=true->frz.frozen=true)/\match frz with
 | .lk i j q n=>es.length<=i \/∃F H,f=.lk F j q H/\F=i/\H=n
 | _=>True
inductive sJ (s s':r9):AV->AV->Prop where
 | refl (a:AV):sJ s s' a a
 | dead (a:AV):sJ s s' a .dead
 | norm (x:D):sJ s s' (.d x) (.d x.norm)
 | su (r n e sz:Nat) (es:List D) (frz:FZ) (h:s.ob.getD r none=some (.row e sz es frz)) (hn:n=es.length)
   (h':s'.ob.getD r none=none\/s'.ob.getD r none=some (.row e sz es .sQ)):sJ s s' (.own r n) (.d (.su sz es))
 | wA (r n n':Nat) (h:n=n'):sJ s s' (.own r n) (.own r n')
 | th (r a n m m':Nat) (h:m=m'):sJ s s' (.th r a n m) (.th r a n m')
 | wC (r a n m e sz:Nat) (es zs:List D) (frz:FZ) (h:s.ob.getD r none=some (.row e sz es frz)) (hm:m=es.length) (hz:(es.drop a).take n=zs)
   (h':s'.ob.getD r none=none\/s'.ob.getD r none=some (.row e sz es .sQ)):sJ s s' (.th r a n m) (.d (.su sz zs))
 | fresh (r e sz:Nat) (h:s.ob.getD r none=none) (h':s'.ob.getD r none=some (.row e sz [] .no)):sJ s s' (.d (.nil sz)) (.own r 0)
 | xH (r:Nat) (cs:List AV) (ys:List D) (sz:Nat) (h:s.ob.getD r none=some (.box cs)) (h':s'.ob.getD r none=none) (s7:sz=cs.length) (hl:ys.length=cs.length) (hp:0<cs.length)
   (hc :∀i (hi:i<cs.length) (hi':i<ys.length),sJ s s' cs[i] (.d ys[i])) (hn :∀i (hi:i<ys.length),ys[i].isAgg=false):sJ s s' (.own r 1) (.d (.su sz [.agg ys]))
 | sH (cs cs':List AV) (hl:cs.length=cs'.length) (hc :∀i (hi:i<cs.length) (hi':i<cs'.length),sJ s s' cs[i] cs'[i]):sJ s s' (.sH cs) (.sH cs')
 | agg (cs cs':List AV) (hl:cs.length=cs'.length) (hc :∀i (hi:i<cs.length) (hi':i<cs'.length),sJ s s' cs[i] cs'[i]) (hn :∀i (hi:i<cs'.length),cs'[i].one=true):sJ s s' (.agg cs) (.agg cs')
 | xz (cs:List AV) (ys:List D) (hl:cs.length=ys.length) (hc :∀i (hi:i<cs.length) (hi':i<ys.length),sJ s s' cs[i] (.d ys[i])) (hn :∀i (hi:i<ys.length),ys[i].isAgg=false):sJ s s' (.agg cs) (.d (.agg ys))
 | xE (ds:List D) (cs':List AV) (hl:ds.length=cs'.length) (hc :∀i (hi:i<ds.length) (hi':i<cs'.length),sJ s s' (.d ds[i]) cs'[i]) (hn :∀i (hi:i<cs'.length),cs'[i].one=true):sJ s s' (.d (.agg ds)) (.agg cs')
def vN (s F:r9):O AV->O AV->Prop
 | [],[]=>True
 | a::l,H::J=>(match H with
  | .dead=>vN s F l J
  | H=>sJ s F a H/\vN s F l J)
 | _,_=>False
def LN (s F:r9):O AV->O AV->Prop
 | [],[]=>True
 | a::l,H::J=>(H.one=true/\sJ s F a H)/\LN s F l J
 | _,_=>False
def uF (s F:r9):O (C OB)->O (C OB)->Prop
 | [],[]=>True
 | o::l,U::H=>(match U with
  | none=>uF s F l H
  | some (.box K)=>(∃P,o=some (.box P)/\LN s F P K)/\uF s F l H
  | some (.row e sz es M)=>((∃f,o=some (.row e sz es f)/\yM es f M)\/(o=none/\es=[]/\0<sz))/\uF s F l H
  | some (.map k e es)=>(o=some (.map k e es) \/∃J r n,o=some (.rK k e es J r n))/\uF s F l H
  | some (.rK k e es J r n)=>((∃Q,o=some (.rK k e es J r Q)/\Q=n)\/((o=some (.map k e es) \/∃J r n,o=some (.rK k e es J r n))/\(∃tk,BU tk (.val J) es=some none)/\n=0/\s.ob.getD r none=none/\∃V sz f,F.ob.getD r none=some (.row V sz [] f)))/\uF s F l H
  | some .gone=>o=some .gone/\uF s F l H)
 | _,_=>False
def M8 (s:r9):I:=
 (AV.refs.refsL s.tm).all (λr=>(s.ob.getD r none).isSome)&&s.ob.all λ
  | none=>true
  | some o=>o.refs.all λr=>(s.ob.getD r none).isSome
structure xv (np:Nat)(s s':r9):Prop where
 wS:((List.range np).all λr=>!(s.ob.getD r none).isSome || (s'.ob.getD r none).isSome)=true
 tm:vN s s' s.tm s'.tm
 ob:uF s s' s.ob s'.ob
 closed:M8 s'=true
def sw (i j r:Nat):Nat:=match Xa6 r i with
 | true=>j
 | false=>match Xa6 r j with
  | true=>i
  | false=>r
def AV.sw (i j:Nat):AV->AV
 | .d x=>.d x
 | .agg F=>.agg (vg i j F)
 | .ref r H=>.ref (Go.AX.sw i j r) H
 | .sT F=>.sT F
 | .own r n=>.own (Go.AX.sw i j r) n
 | .sh r n a k=>.sh (Go.AX.sw i j r) n a k
 | .fn f F=>.fn f (vg i j F)
 | .sH F=>.sH (vg i j F)
 | .mp r=>.mp (Go.AX.sw i j r)
 | .it f r=>.it f (Go.AX.sw i j r)
 | .gl g=>.gl g
 | .gv g=>.gv g
 | .th r a n m=>.th (Go.AX.sw i j r) a n m
 | .dead=>.dead where
 vg (i j:Nat):O AV->O AV
  | []=>[]
  | a::l=>a.sw i j::vg i j l
def FZ.sw (i j:Nat):FZ->FZ
 | .lk a b q n=>.lk a b (Go.AX.sw i j q) n
 | f=>f
def OB.sw (i j:Nat):OB->OB
 | .box J=>.box (AV.sw.vg i j J)
 | .row e sz F H=>.row e sz F (H.sw i j)
 | .map k e F=>.map k e F
 | .rK k e F K r n=>.rK k e F K (Go.AX.sw i j r) n
 | .gone=>.gone
def NJ (i j:Nat):O (C OB)->O (C OB)
 | []=>[]
 | none::l=>none::NJ i j l
 | some o::l=>some (o.sw i j)::NJ i j l
def GN (i j:Nat)(s:r9):r9:=⟨AV.sw.vg i j s.tm,((NJ i j s.ob).set i ((NJ i j s.ob).getD j none)).set j ((NJ i j s.ob).getD i none)⟩
inductive s5 (np:Nat):r9->r9->Prop where
 | mk {s s':r9} (wS:((List.range np).all λr=>!(s.ob.getD r none).isSome || (s'.ob.getD r none).isSome)=true) (tm:vN s s' s.tm s'.tm) (ob:uF s s' s.ob s'.ob) (closed:M8 s'=true):s5 np s s'
 | swap {s s':r9} (i j:Nat) (hi:Nat.ble np i=true) (hj:Nat.ble np j=true) (hl:(Nat.blt i s.ob.length&&Nat.blt j s.ob.length)=true) (h:s5 np (GN i j s) s'):s5 np s s'
def vu (K:AE->r9->Prop)(F:r9->Prop)(e:AE)(st:r9):Prop:=match e with
 | .normal=>F st
 | .exit i=>K (.exit i) st
 | .ret=>K .ret st
inductive tP (np:Nat)(body:(AE->r9->Prop)->r9->Prop)(K:AE->r9->Prop)(st:r9):Prop where
 | mk (h:(∀t sz es,st.tm.getD t .dead=.d (.su sz es)->es.length<=9223372036854775807)->(∀r e sz es f,st.ob.getD r none=some (.row e sz es f)->es.length<=9223372036854775807)->∃I:r9->Nat->Prop,(∃s n,s5 np st s/\I s n)/\
  ∀s n,I s n->body (vu K λt=>∃s' m,m<n/\s5 np t s'/\I s' m) s)
inductive tL (np:Nat)(X:(r9->Prop)->Prop)(K:r9->Prop):Prop where
 | go (h:X K)
 | cut (J:r9->Prop) (h1:X λt=>∃s,s5 np t s/\J s) (h2 :∀s,J s->K s)
def mr (cx:Cx)(o:z)(tm:O AV)(ob:O (C OB))(K:r9->Prop):Prop:=match o.op with
 | .call c=>(match c.callee with
  | .value x=>x0 (uc tm x) λf F=>(match cx.inl f with
   | true=>tL cx.np (λJ=>cx.I f (F4 cx.T (uc tm) c.args.toList c.argTypes.toList++F) ob λr H=>Kx tm o.dst r λtm=>J ⟨tm,H⟩) K
   | false=>x9 cx o (uc tm) ob λv w=>Kx tm o.dst v λtm=>vJ ob w λob=>K ⟨tm,ob⟩)
  | _=>x9 cx o (uc tm) ob λv w=>Kx tm o.dst v λtm=>vJ ob w λob=>K ⟨tm,ob⟩)
 | _=>x9 cx o (uc tm) ob λv w=>Kx tm o.dst v λtm=>vJ ob w λob=>K ⟨tm,ob⟩
def YQ (cx:Cx)(F:Array z)(o:z)(st:r9)(K:r9->Prop):Prop:=match st with
 | ⟨tm,ob⟩=>Iq F o tm (λtm=>mr cx o tm ob K) (λtm=>Kx tm o.dst (.sH []) λtm=>K ⟨tm,ob⟩)
def dM (cx:Cx)(F:Array z):O z->r9->(r9->Prop)->Prop
 | [],st,K=>K st
 | o::rest,st,K=>YQ cx F o st λst=>dM cx F rest st K
def guarded:O z->I
 | []=>false
 | o::l=>match o.guard with
  | none=>guarded l
  | some _=>true
def xY (K:AE->r9->Prop)(F:r9->Prop)(e:AE)(st:r9):Prop:=match e with
 | .normal=>F st
 | .exit i=>K (.exit i) st
 | .ret=>K .ret st
def yN (id:Nat)(K:AE->r9->Prop)(F:r9->Prop)(e:AE)(st:r9):Prop:=match e with
 | .normal=>F st
 | .exit i=>(match Xa6 i id with
  | true=>F st
  | false=>K (.exit i) st)
 | .ret=>K .ret st
def lu (cx:Cx)(F:Array z)(st:r9)(K:r9->Prop):Prop:=match guarded F.toList with
 | true=>tL cx.np (dM cx F F.toList st) K
 | false=>dM cx F F.toList st K
def cV (cx:Cx)(F:Array z)(st:r9)(K:r9->Prop):Prop:=Ef F=true/\RJ cx F F.toList [] st λH J=>EF F 0 H=true/\K J
def Na (F:Array z):I:=Xbr 0 F.size&&(Xb4 (F.size-1)).all λj=>(F7 F (F.size-1)).contains j
def fx (cx:Cx)(F:Array z)(st:r9)(K:r9->Prop):O z->Prop
 | []=>False
 | [o]=>YQ cx F o st K
 | _::l=>fx cx F st K l
def Ji:O z->O z
 | []=>[]
 | [_]=>[]
 | o::l=>o::Ji l
def Xm (cx:Cx)(F:Array z)(st:r9)(K:r9->Prop):Prop:=(Ef F=true/\Na F=true)/\RJ cx F (Ji F.toList) [] st λH J=>EF F 0 H=true/\fx cx F J K F.toList
def F9 (cx:Cx):Code->(AE->r9->Prop)->r9->Prop
 | .skip,K,st=>K .normal st
 | .region _ ops false,K,st=>lu cx ops st (K .normal)
 | .region _ ops true,K,st=>(match guarded ops.toList with
  | true=>tL cx.np (λF=>cV cx ops st F\/Xm cx ops st F) (K .normal)
  | false=>cV cx ops st (K .normal)\/Xm cx ops st (K .normal))
 | .seq a b,K,st=>F9 cx a (xY K (F9 cx b K)) st
 | .cond c x y,K,st=>(match uc st.tm c with
  | .d (.val (.bool b))=>tL cx.np (λF=>Hv b (F9 cx x (xY K F) st) (F9 cx y (xY K F) st)) (K .normal)
  | _=>False)
 | .block id b,K,st=>tL cx.np (λF=>F9 cx b (yN id K F) st) (K .normal)
 | .loop b,K,st=>tP cx.np (F9 cx b) K st
 | .exit id,K,st=>K (.exit id) st
 | .ret,K,st=>K .ret st
 | _,_,_=>False
def Tc (cx:Cx)(st:r9):O ResultVar->(O AV->Prop)->Prop
 | [],K=>K []
 | .tmp t::rs,K=>(st.tm.getD t .dead).force λa=>Tc cx st rs λl=>K (a::l)
 | .cell a H::rs,K=>(match st.tm.getD a .dead with
  | .ref r F=>U5 cx.T H (.ref r F) st.ob λv=>Tc cx st rs λl=>K (v::l)
  | _=>False)
def Ui:O Nat->Nat->C Nat
 | [],_=>none
 | x::l,r=>match Xa6 r x with
  | true=>some 0
  | false=>match Ui l r with
   | some k=>some (k+1)
   | none=>none
def Nr (rs:O Nat):O AV->O AV
 | []=>[]
 | .own r n::F=>(match Lt rs r with
  | true=>.d (.nil 1)
  | false=>.own r n)::Nr rs F
 | a::F=>a::Nr rs F
def X4 (np:Nat)(rs:O Nat):O AV->O D->O AV
 | .own r n::F,d::H=>(match Ui rs r with
  | some k=>.own (np+k) n
  | none=>.d d)::X4 np rs F H
 | _::F,d::H=>.d d::X4 np rs F H
 | _,_=>[]
def R7 (ob:O (C OB)):O Nat->(O OB->Prop)->Prop
 | [],K=>K []
 | r::rs,K=>CC ob r λo=>match o with
  | .row e sz F f=>AS (!f.linked) <| R7 ob rs λl=>K (.row e sz F f::l)
  | _=>False
def UC (np:Nat)(ob:O (C OB))(rs:O Nat)(F:O AV)(K:AV->Prop):Prop:=
 AS (QS rs&&rs.all λr=>Xdi np r) <| cW ob (.agg (Nr rs F)) λx w=>match x with
  | .agg H=>AS (w.all λq=>Xdi np q.1&&!Lt rs q.1) <| K (.agg (X4 np rs F H))
  | _=>False
def Xt (np:Nat)(ob:O (C OB))(a:AV)(K:AV->C Nat->Prop):Prop:=match a with
 | .d x=>OO x λx=>K (.d x) none
 | .own r n=>(match Xbr r np with
  | true=>K (.own r n) none
  | false=>cW ob (.own r n) (λx _=>K (.d x) none)\/K (.own np n) (some r))
 | .agg H=>cW ob (.agg H) (λx w=>AS (w.all λq=>Xdi np q.1) <| K (.d x) none)
 | .ref r F=>(match Xbr r np with
  | true=>K (.ref r F) none
  | false=>K (.ref np F) (some r))
 | .mp r=>(match Xbr r np with
  | true=>K (.mp r) none
  | false=>K (.mp np) (some r))
 | _=>False
def Uc (np:Nat)(ob:O (C OB)):O AV->(O AV->Prop)->Prop
 | [],K=>K []
 | a::l,K=>Xt np ob a λF H=>match H with
  | none=>Uc np ob l λJ=>K (F::J)
  | some _=>False
def Ir (ob:O (C OB)):Nat->Nat->(O OB->Prop)->Prop
 | 0,_,K=>K []
 | n+1,i,K=>CC ob i λo=>match o with
  | .box H=>G8.cellsD H λH=>Ir ob n (i+1) λl=>K (.box H::l)
  | .row e sz J F=>AS (!F.linked) <| Ir ob n (i+1) λl=>K (.row e sz J F::l)
  | .map k e J=>Ir ob n (i+1) λl=>K (.map k e J::l)
  | .rK ..=>False
  | .gone=>Ir ob n (i+1) λl=>K (.gone::l)
def uH (np:Nat)(ob:O (C OB))(R:AV->O OB->Prop)(a:AV)(gF:O OB):Prop:=match a with
 | .d (.nil sz)=>R (.d (.su sz [])) gF\/(0<sz/\∃e,R (.own np 0) (gF++[.row e sz [] .no]))
 | .agg H=>cW ob (.agg H) (λx w=>AS (w.all λq=>Xdi np q.1) <| R (.d x) gF) \/∃rs,UC np ob rs H λx=>R7 ob rs λos=>R x (gF++os)
 | .own r n=>(Xt np ob (.own r n) λJ M=>(match M with
   | none=>R J gF
   | some r=>CC ob r λo=>match o with
    | .box H=>G8.cellsD H λH=>R J (gF++[.box H])
    | .row e sz K F=>AS (!F.linked) <| R J (gF++[.row e sz K F])
    | .map k e K=>R J (gF++[.map k e K])
    | .rK ..=>False
    | .gone=>False))\/(AS (Xbr r np) <| match gF[r]? with
     | some (.row e sz K .no)=>R (.own np n) (gF.set r .gone++[.row e sz K .no])
     | _=>False)
 | a=>Xt np ob a λJ M=>(match M with
   | none=>R J gF
   | some r=>CC ob r λo=>match o with
    | .box H=>G8.cellsD H λH=>R J (gF++[.box H])
    | .row e sz K F=>AS (!F.linked) <| R J (gF++[.row e sz K F])
    | .map k e K=>R J (gF++[.map k e K])
    | .rK ..=>False
    | .gone=>False)
def lw (cx:Cx)(fn:Func)(R:AV->O OB->Prop)(e:AE)(st:r9):Prop:=
 match e with
 | .exit _=>False
 | _=>Tc cx st fn.results.toList λF=>Ir st.ob cx.np 0 λgF=>(match F with
  | [a]=>uH cx.np st.ob R a gF
  | F=>Uc cx.np st.ob F λH=>R (.sH H) gF)
def QF (ex:Nat)(fn:Func)(args:O AV)(gF:O OB):r9:=
 { tm:=args++Xb6 (fn.ntmps-args.length) .dead,ob:=gF.map some++Xb6 (fn.ntmps+ex) none }
def XC (cx:Cx)(fn:Func)(args:O AV)(gF:O OB)(R:AV->O OB->Prop):Prop:=
 cx.np=gF.length/\match fn.body with
  | some c=>F9 cx c (lw cx fn R) (QF cx.ex fn args gF)
  | none=>False
def Hr:O (C OB)->Nat->I
 | [],_=>true
 | _::l,n+1=>Hr l n
 | none::l,0=>Hr l 0
 | some _::_,0=>false
def mn (cx:Cx)(fn:Func)(K:AV->O (C OB)->Prop)(e:AE)(st:r9):Prop:=
 match e with
 | .exit _=>False
 | _=>Tc cx st fn.results.toList λF=>(match F with
  | [a]=>K a st.ob
  | F=>K (.sH F) st.ob)
def ip (cx:Cx)(fn:Func)(args:O AV)(ob:O (C OB))(K:AV->O (C OB)->Prop):Prop:=
 Hr ob cx.np=true/\match fn.body with
  | some c=>F9 cx c (mn cx fn K) ⟨args++Xb6 (fn.ntmps-args.length) .dead,ob⟩
  | none=>False
end Go.AX
end
