/-
  Texts of one proof, packed.
-/
import Derived.KernelRfl
import Derived.Laws.Sem
import Derived.Orders
set_option linter.all false
set_option maxRecDepth 100000
set_option maxHeartbeats 4000000
open List renaming length_map→X10,length_append→X11,length_drop→X17,length_take→X18,length_replicate→X20,length_set→X21
open Option renaming none→Xba
open List renaming replicate→Xav,range→Xbv
open BitVec renaming ofInt→Xa2
open Go renaming Operand→Xbq,FuncId→Xdm
open Nat renaming beq→Xab,blt→Xcf,ble→Xee
namespace Go
abbrev I:=@List
abbrev O:=@Option
abbrev C:=Bool
abbrev A:=Value
abbrev S:=UInt8
abbrev T:=ByteArray
abbrev j:=UInt64
abbrev B:=World
abbrev z:=Oper
def Wd:=@decide_eq_true_eq
def Wm:=@if_neg
def Wr:=@if_pos
def Wz:=@decide_eq_true
def Xa0:=@List.all_eq_true
def Xa3:=@List.mem_cons
def Xa6:=@List.getD_eq_getElem?_getD
def Xa4:=@congrArg
def Xa5:=@decide_eq_false
def Xae:=@List.getElem_mem
def Xaa:=@Int.toNat_natCast
def Xam:=@Nat.le_refl
def Xad:=@List.getElem_of_mem
def Xaf:=@List.mem_map
def Xaj:=@List.append_nil
def Xar:=@List.eq_nil_of_length_eq_zero
def Xan:=@Array.length_toList
def Xag:=@UInt64.toNat_ofNat'
def Xal:=@Nat.add_assoc
def Xb4:=@List.pairwise_cons
def Xai:=@List.getElem?_append_left
def Xbk:=@Nat.zero_add
def Xak:=@List.append_assoc
def Xax:=@List.getElem_append_left
def Xap:=@List.getElem?_append_right
def Xaz:=@List.getElem_cons_zero
def Xb2:=@List.getElem_map
def Xaw:=@List.flatMap_cons
def Xay:=@List.nil_append
def Xb1:=@Nat.le_trans
def Xbd:=@Nat.lt_of_lt_of_le
def Xb0:=@decide_eq_false_iff_not
def Xbm:=@List.pairwise_append
def Xb7:=@Option.getD_some
def Xb9:=@Nat.mod_eq_of_lt
def Xbo:=@List.getElem_append_right
def Xbf:=@Option.map_some
def Xb8:=@Array.toArray_toList
def Xco:=@Array.getElem?_append_left
def Xbh:=@List.foldl_cons
def Xbe:=@List.getElem_take
def Xbi:=@List.getElem_drop
def Xet:=@List.takeWhile_append_dropWhile
def Xby:=@Nat.lt_of_not_le
def Xbl:=@List.mem_filter
def Xbj:=@Bool.not_eq_true'
def Xcb:=@List.mem_of_getElem?
def Xbn:=@BitVec.ofInt_natCast
def Xbu:=@List.map_cons
def Xbp:=@List.drop_eq_getElem_cons
def Xbr:=@beq_iff_eq
def Xbs:=@List.not_mem_nil
def Xbt:=@List.filter_append
def Xdk:=@List.getElem_append
def Xbz:=@List.take_add_one
def Xct:=@Nat.mul_comm
def Xc1:=@List.getElem?_eq_none
def Xch:=@List.length_pos_iff
def Xc3:=@List.all_cons
def Xc4:=@Int.natCast_nonneg
def Xcd:=@List.mem_cons_self
def Xce:=@Bool.true_and
def Xcw:=@Nat.min_eq_left
def Xdv:=@Option.bind_some
def Xcj:=@List.take_length
def Xcl:=@List.length_range
def Xcm:=@List.length_eq_zero_iff
def Xcn:=@cond_false
def Xcp:=@Int.fdiv_eq_ediv_of_nonneg
def Xcq:=@cond_true
def Xcr:=@List.mem_append_left
def Xd4:=@Nat.add_zero
def Xcu:=@Option.map_eq_some_iff
def Xdj:=@List.filter_eq_nil_iff
def Xcx:=@Bool.or_eq_true
def Xcy:=@List.pairwise_iff_getElem
def Xd0:=@beq_self_eq_true
def Xd1:=@List.filter_eq_self
def Xd2:=@List.nodup_append
def Xd3:=@List.getElem?_map
def Xe1:=@Nat.succ_mul
def Xd5:=@bne_self_eq_false
def Xeu:=@List.getElem?_drop
def Xd7:=@Nat.zero_le
def Xd8:=@UInt8.toNat_ofNat'
def Xda:=@BitVec.toNat_ofNat
def Xdb:=@Bool.and_true
def Xdc:=@List.filter_cons_of_neg
def Xdd:=@List.mem_of_mem_drop
def Xde:=@List.getElem?_set_ne
def Xe0:=@Nat.add_comm
def Xdg:=@UInt64.toNat_inj
def Xdn:=@List.mem_range
def Xdp:=@List.mem_append_right
def Xdr:=@List.getElem_range
def Xds:=@Bool.false_eq_true
def Xdw:=@List.mem_flatMap
def Xe7:=@if_false
def Xdz:=@List.any_cons
def Xe8:=@Nat.beq_refl
def Xe3:=@List.cons.injEq
def Xe4:=@Nat.two_pow_pos
def Xea:=@List.Pairwise.sublist
def Xev:=@Eq.trans
def Xek:=@decide_eq_decide
def Xel:=@or_false
def Xen:=@of_decide_eq_true
def Xeq:=@if_true
def Xeo:=@bne_iff_ne
def Xep:=@beq_eq_false_iff_ne
def Xes:=@and_assoc
end Go
section
namespace Go.AX
inductive D where
 | val (v:Value)
 | agg (cs:List D)
 | nil (sz:Nat)
 | wE (sz:Nat) (es:List D)
 deriving Inhabited
abbrev D.i (n:Int):D:=.val (.int .i64 n)
abbrev D.u (n:Int):D:=.val (.int .u8 n)
abbrev D.b (b:C):D:=.val (.bool b)
abbrev D.s (s:T):D:=.val (.string s)
def D.cells:D->I D
 | .agg F=>F
 | x=>[x]
def D.isAgg:D->C
 | .agg _=>true
 | _=>false
def D.norm:D->D
 | .nil sz=>.wE sz []
 | .agg F=>.agg (F.map λ
   | .nil sz=>.wE sz []
   | x=>x)
 | x=>x
inductive AV where
 | d (x:D)
 | agg (cs:List AV)
 | ref (r off:Nat)
 | wU (cs:List D)
 | own (r n:Nat)
 | wu (r n i k:Nat)
 | fn (f:FuncId) (caps:List AV)
 | wx (vs:List AV)
 | mp (r:Nat)
 | xn (r a n m:Nat)
 | it (f:FuncId) (r:Nat)
 | gl (g:Nat)
 | gv (g:Nat)
 | dead
 deriving Inhabited
abbrev AV.i (n:Int):AV:=.d (.val (.int .i64 n))
abbrev AV.u (n:Int):AV:=.d (.val (.int .u8 n))
abbrev AV.b (b:C):AV:=.d (.val (.bool b))
abbrev AV.s (s:T):AV:=.d (.val (.string s))
abbrev AV.l (sz:Nat)(es:I D):AV:=.d (.wE sz es)
inductive FZ where
 | no|wS
 | lk (i j q n:Nat)
 deriving Inhabited
def FZ.frozen:FZ->C
 | .wS=>true
 | _=>false
def FZ.free:FZ->C
 | .no=>true
 | _=>false
def FZ.xW {f:FZ}(h:f.free=true):f=.no:=by cases f<;>simp[FZ.free] at h;rfl
def FZ.linked:FZ->C
 | .lk _ _ _ _=>true
 | _=>false
def FZ.refs:FZ->I Nat
 | .lk _ _ q _=>[q]
 | _=>[]
@[simp] theorem FZ.Fl:FZ.no.frozen=false:=rfl
@[simp] theorem FZ.xQ:FZ.wS.frozen=true:=rfl
@[simp] theorem FZ.F1 (i j q n:Nat):(FZ.lk i j q n).frozen=false:=rfl
@[simp] theorem FZ.Fm:FZ.no.linked=false:=rfl
@[simp] theorem FZ.De:FZ.wS.linked=false:=rfl
@[simp] theorem FZ.F0 (i j q n:Nat):(FZ.lk i j q n).linked=true:=rfl
@[simp] theorem FZ.JN:FZ.no.refs=[]:=rfl
@[simp] theorem FZ.Fx:FZ.wS.refs=[]:=rfl
@[simp] theorem FZ.yh (i j q n:Nat):(FZ.lk i j q n).refs=[q]:=rfl
def FZ.FL {f:FZ}(h:f.linked=false){i j q n:Nat}(e:f=.lk i j q n):False:=by subst e;simp at h
inductive OB where
 | box (cs:List AV)
 | row (e sz:Nat) (es:List D) (frz:FZ)
 | map (k e:Nat) (es:List (D×D))
 | vz (k e:Nat) (es:List (D×D)) (kv:Value) (r n:Nat)
 | gone
 deriving Inhabited
inductive TK where
 | bool|int (k:IntKind)|str|ptr|fn|other
 | slice (elem:Nat)
 | arr (n elem:Nat)
 | struct (fs:List (Nat×Nat×Nat))
 | map (k e:Nat)
 deriving Inhabited
structure TI where
 kind:TK
 size:Nat
 bytes:Nat
 zero:List D
 deriving Inhabited
inductive TT where
 | wi
 | node (k:Nat) (v:TI) (l r:TT)
def TI.none:TI:=⟨.other,0,0,[]⟩
def TT.get:TT->Nat->TI
 | .wi,_=>TI.none
 | .node k v l r,n=>match Xab n k with
  | true=>v
  | false=>match Xcf n k with
   | true=>l.get n
   | false=>r.get n
def TK.wL:TK->O C
 | .struct _|.arr _ _=>some true
 | .other=>none
 | _=>some false
def Bc (T:TT)(t:Nat):C:=(T.get t).kind.wL.isSome
structure sI where
 tm:List AV
 ob:List (Option OB)
structure Cx where
 T:TT
 np:Nat
 C:FuncId->List AV->List OB->AV->List OB->Prop
 wc:FuncId->List Bool
 G:Nat->Option (List (D×D))
 inl:FuncId->Bool
 I:FuncId->List AV->List (Option OB)->(AV->List (Option OB)->Prop)->Prop
 ex:Nat
def AV.force (a:AV)(K:AV->Prop):Prop:=match a with
 | .d x=>K (.d x)
 | .agg F=>K (.agg F)
 | .ref r o=>K (.ref r o)
 | .wU F=>K (.wU F)
 | .own r n=>K (.own r n)
 | .wu r n i k=>K (.wu r n i k)
 | .fn f c=>K (.fn f c)
 | .wx H=>K (.wx H)
 | .mp r=>K (.mp r)
 | .it f r=>K (.it f r)
 | .gl g=>K (.gl g)
 | .gv g=>K (.gv g)
 | .xn r a n m=>K (.xn r a n m)
 | .dead=>K .dead
def AZ (b:C)(P:Prop):Prop:=match b with
 | true=>P
 | false=>False
def yp (tm:I AV):Xbq->AV
 | .tmp t=>tm.getD t .dead
 | .const v=>(match v.oneCell' with
  | true=>.d (.val v)
  | false=>.dead)
 | .func f=>.fn f []
 | .global g=>.gl g
def OI {α:Type}:I α->Nat->α->(I α->Prop)->Prop
 | [],_,_,K=>K []
 | _::l,0,v,K=>K (v::l)
 | x::l,n+1,v,K=>OI l n v λF=>K (x::F)
def UC {α F:Type}(f:α->(F->Prop)->Prop):I α->(I F->Prop)->Prop
 | [],K=>K []
 | x::l,K=>f x λy=>UC f l λH=>K (y::H)
def S4 {α:Type}:I α->Nat->(I α->Prop)->Prop
 | l,0,K=>K l
 | [],_+1,K=>K []
 | _::l,n+1,K=>S4 l n K
def Qn {α:Type}:I α->Nat->(I α->Prop)->Prop
 | _,0,K=>K []
 | [],_+1,K=>K []
 | x::l,n+1,K=>Qn l n λF=>K (x::F)
def QE {α:Type}:I α->Nat->I α->(I α->Prop)->Prop
 | F,0,[],K=>K F
 | _::F,0,v::H,K=>QE F 0 H λl=>K (v::l)
 | c::F,n+1,H,K=>QE F n H λl=>K (c::l)
 | [],_,_,_=>False
def WP:I AV->O (I D)
 | []=>some []
 | .d x::r=>match WP r with
  | some l=>some (x::l)
  | none=>none
 | _::_=>none
def W9 (F:I AV)(K:AV->Prop):Prop:=match WP F with
 | some l=>K (.d (.agg l))
 | none=>K (.agg F)
def PQ (a:AV)(K:I AV->Prop):Prop:=match a with
 | .d (.val v)=>K [.d (.val v)]
 | .d (.nil sz)=>K [.d (.nil sz)]
 | .d (.wE sz F)=>K [.d (.wE sz F)]
 | .d (.agg H)=>UC (λc K=>match c with
   | .val v=>K (.d (.val v))
   | .nil sz=>K (.d (.nil sz))
   | .wE sz F=>K (.d (.wE sz F))
   | .agg _=>False) H K
 | .agg H=>K H
 | .ref r o=>K [.ref r o]
 | .own r n=>K [.own r n]
 | .mp r=>K [.mp r]
 | .fn f c=>K [.fn f c]
 | _=>False
def S9 (x:D)(K:D->Prop):Prop:=match x with
 | .val v=>K (.val v)
 | .nil sz=>K (.wE sz [])
 | .wE sz H=>K (.wE sz H)
 | .agg F=>UC (λc K=>match c with
   | .val v=>K (.val v)
   | .nil sz=>K (.wE sz [])
   | .wE sz H=>K (.wE sz H)
   | .agg F=>K (.agg F)) F λF=>K (.agg F)
abbrev W:=I (Nat×OB)
def DY (ob:I (O OB))(r:Nat)(K:OB->Prop):Prop:=match ob.getD r none with
 | some (.box H)=>K (.box H)
 | some (.row e sz es F)=>K (.row e sz es F)
 | some (.map k e es)=>K (.map k e es)
 | some (.vz k e es J r n)=>K (.vz k e es J r n)
 | some .gone=>K .gone
 | none=>False
def z6 (ob:I (O OB))(r:Nat)(K:Prop):Prop:=match ob[r]? with
 | some none=>K
 | _=>False
def yo (T:TT):Nat->Nat->D->D->O C
 | 0,_,_,_=>none
 | n+1,t,x,y=>match (T.get t).kind,x,y with
  | .bool,.val (.bool a),.val (.bool b)=>some (a==b)
  | .int _,.val (.int k a),.val (.int F b)=>if k=F then some (a==b) else none
  | .str,.val (.string a),.val (.string b)=>some (a.toList==b.toList)
  | .struct fs,.agg xs,.agg ys=>eqFs (yo T n) T fs xs ys
  | _,_,_=>none where
 eqFs (rec:Nat->D->D->O C) (T:TT):I (Nat×Nat×Nat)->I D->I D->O C
  | [],_,_=>some true
  | (o,s,t)::fs,xs,ys=>
   match (match (T.get t).kind.wL with
    | some true=>rec t (.agg ((xs.drop o).take s)) (.agg ((ys.drop o).take s))
    | some false=>(match xs[o]?,ys[o]? with
     | some x,some y=>rec t x y
     | _,_=>none)
    | none=>none) with
   | some b=>match eqFs rec T fs xs ys with
    | some c=>some (b&&c)
    | none=>none
   | none=>none
def ep (T:TT)(op:BinOp)(t:Nat)(x y:AV)(K:AV->Prop):Prop:=
 match op,x,y with
 | .shl,.d (.val (.int k a)),.d (.val (.int _ b))=>0<=b/\∃r,k.wrap (a*2^(min b.toNat k.bits))=r/\K (.d (.val (.int k r)))
 | .shr,.d (.val (.int k a)),.d (.val (.int _ b))=>0<=b/\∃r,a.fdiv (2^(min b.toNat k.bits))=r/\K (.d (.val (.int k r)))
 | .eql,.d (.val (.string a)),.d (.val (.string b))=>K (.b (a.toList==b.toList))
 | .neq,.d (.val (.string a)),.d (.val (.string b))=>K (.b (!(a.toList==b.toList)))
 | .add,.d (.val (.string a)),.d (.val (.string b))=>(a.size+b.size<=2^62)/\K (.s (a++b))
 | .lss,.d (.val (.string a)),.d (.val (.string b))=>K (.b (Op.bytesLess a.toList b.toList))
 | .gtr,.d (.val (.string a)),.d (.val (.string b))=>K (.b (!(Op.bytesLess a.toList b.toList || a.toList==b.toList)))
 | op,.d (.val (.int k a)),.d (.val (.int F b))=>AZ (decide (k=F)) (match op with
  | .add=>∃r,k.wrap (a+b)=r/\K (.d (.val (.int k r)))
  | .sub=>∃r,k.wrap (a-b)=r/\K (.d (.val (.int k r)))
  | .mul=>∃r,k.wrap (a*b)=r/\K (.d (.val (.int k r)))
  | .quo=>b≠0/\∃r,k.wrap (a.tdiv b)=r/\K (.d (.val (.int k r)))
  | .rem=>b≠0/\∃r,a.tmod b=r/\K (.d (.val (.int k r)))
  | .and=>∃r,k.wrap (Xa2 k.bits a &&& Xa2 k.bits b).toNat=r/\K (.d (.val (.int k r)))
  | .or=>∃r,k.wrap (Xa2 k.bits a ||| Xa2 k.bits b).toNat=r/\K (.d (.val (.int k r)))
  | .xor=>∃r,k.wrap (Xa2 k.bits a ^^^ Xa2 k.bits b).toNat=r/\K (.d (.val (.int k r)))
  | .andNot=>∃r,k.wrap (Xa2 k.bits a &&& ~~~Xa2 k.bits b).toNat=r/\K (.d (.val (.int k r)))
  | .eql=>K (.b (a==b))
  | .neq=>K (.b (a !=b))
  | .lss=>K (.b (decide (a<b)))
  | .leq=>K (.b (decide (a<=b)))
  | .gtr=>K (.b (decide (a>b)))
  | .geq=>K (.b (decide (a≥b)))
  | _=>False)
 | .eql,.d x,.d y=>(match yo T 9 t x y with
  | some b=>K (.b b)
  | none=>False)
 | .neq,.d x,.d y=>(match yo T 9 t x y with
  | some b=>K (.b (!b))
  | none=>False)
 | _,_,_=>False
def KD (b:C)(A B:Prop):Prop:=match b with
 | true=>A
 | false=>B
def rJ (T:TT)(op:BinOp)(t:Nat)(x y:AV)(K:AV->Prop):Prop:=ep T op t x y K
def eh (T:TT)(op:BinOp)(t:Nat)(x y:AV)(K:AV->Prop):rJ T op t x y K=ep T op t x y K:=rfl
def JT (op:UnOp)(x:AV)(K:AV->Prop):Prop:=
 match op,x with
 | .not,.d (.val (.bool b))=>K (.b (!b))
 | .neg,.d (.val (.int k a))=>∃r,k.wrap (0-a)=r/\K (.d (.val (.int k r)))
 | _,_=>False
def ke (c a b:AV)(K:AV->Prop):Prop:=
 match c with
 | .d (.val (.bool t))=>(match a,b with
  | .d (.val (.bool x)),.d (.val (.bool y))=>K (.b (cond t x y))
  | a,b=>KD t (a.force K) (b.force K))
 | _=>False
def QK (T:TT)(t i:Nat)(K:Nat->Nat->Nat->Prop):Prop:=match (T.get t).kind with
 | .struct fs=>(match fs[i]? with
  | some (o,s,F)=>match s with
   | 0=>False
   | s+1=>K o (s+1) F
  | none=>False)
 | _=>False
def Py (T:TT)(t n i k:Nat)(es:I D)(K:AV->Prop):Prop:=n=es.length/\∃x,es.getD i default=x/\S4 x.cells k λF=>(match (T.get t).kind.wL with
   | some true=>AZ (Xee (T.get t).size F.length) <| Qn F (T.get t).size λl=>K (.d (.agg l))
   | some false=>(match F[0]? with
    | some a=>K (.d a)
    | none=>False)
   | none=>False)
def ZD (T:TT)(t:Nat)(a:AV)(ob:I (O OB))(K:AV->Prop):Prop:=
 match a with
 | .ref r H=>DY ob r λo=>(match o with
  | .box F=>(match (T.get t).kind.wL with
   | some true=>S4 F H λF=>AZ (Xee (T.get t).size F.length) <| Qn F (T.get t).size λl=>W9 l K
   | some false=>(match F[H]? with
    | some a=>a.force K
    | none=>False)
   | none=>False)
  | _=>False)
 | .wU F=>(match (T.get t).kind.wL with
   | some true=>AZ (Xee (T.get t).size F.length) <| Qn F (T.get t).size λl=>K (.d (.agg l))
   | some false=>(match F[0]? with
    | some a=>K (.d a)
    | none=>False)
   | none=>False)
 | .wu r n i k=>DY ob r λo=>(match o with
  | .row _ sz J fz=>(match fz with
   | .lk M j q m=>Py T t n i k J K\/(n=J.length/\i=M/\k=j/\i<J.length/\j<sz/\(T.get t).kind.wL=some false/\K (.own q m))
   | _=>Py T t n i k J K)
  | .box F=>(match (T.get t).kind.wL with
   | some false=>∃a,F[k+i]?=some a/\a.force K
   | _=>False)
  | _=>False)
 | _=>False
def fv (ob:I (O OB))(a:AV)(K:D->W->Prop):Prop:=match a with
 | .d x=>S9 x λx=>K x []
 | .own r n=>DY ob r λo=>(match o with
  | .row e sz F _=>n=F.length/\K (.wE sz F) [(r,.row e sz F .wS)]
  | _=>False)
 | .agg H=>toDs H λl w=>K (.agg l) w
 | _=>False where
 toDs:I AV->(I D->W->Prop)->Prop
  | [],K=>K [] []
  | .d x::H,K=>(match x with
   | .agg _=>False
   | .val v=>toDs H λl w=>K (.val v::l) w
   | .nil sz=>toDs H λl w=>K (.wE sz []::l) w
   | .wE sz F=>toDs H λl w=>K (.wE sz F::l) w)
  | .own r n::H,K=>DY ob r λo=>(match o with
   | .row e sz F _=>n=F.length/\toDs H λl w=>K (.wE sz F::l) ((r,.row e sz F .wS)::w)
   | _=>False)
  | .fn f J::H,K=>(match J with
   | []=>toDs H λl w=>K (.val (.func (.func f) #[] #[])::l) w
   | _=>False)
  | _::_,_=>False
def LE (y:D)(k:Nat)(x:D)(K:D->Prop):Prop:=S9 x λx=>QE y.cells k x.cells λF=>match y with
 | .agg _=>K (.agg F)
 | _=>match F with
  | [z]=>AZ (!z.isAgg) (K z)
  | _=>False
def Vt (T:TT)(t:Nat)(a x:AV)(ob:I (O OB))(K:AV->W->Prop):Prop:=
 AZ (Bc T t) <| match a with
 | .ref r F=>DY ob r λo=>(match o with
  | .box U=>PQ x λP=>AZ (Xab P.length (T.get t).size) <| QE U F P λH=>K .dead [(r,.box H)]
  | _=>False)
 | .wu r n i k=>DY ob r λo=>(match o with
  | .row e sz J M=>n=J.length/\M.free=true/\(match x with
   | .d x=>AZ (Xab x.cells.length (T.get t).size) <|∃y,J.getD i default=y/\LE y k x λz=>∃Q,J.set i z=Q/\K .dead [(r,.row e sz Q .no)]
   | _=>False)
  | _=>False)
 | _=>False
def Ju (T:TT)(t r n i k q m:Nat)(ob:I (O OB))(K:AV->W->Prop):Prop:=False
def IM (T:TT)(t r n i k:Nat)(x:AV)(ob:I (O OB))(K:AV->W->Prop):Prop:=
 AZ (Bc T t) <| fv ob x λd w=>AZ (w.all λq=>!Nat.beq q.1 r) <| DY ob r λo=>(match o with
  | .row e sz F H=>n=F.length/\H.free=true/\(AZ (Xab d.cells.length (T.get t).size) <|∃y,F.getD i default=y/\LE y k d λz=>∃J,F.set i z=J/\K .dead (w++[(r,.row e sz J .no)]))
  | _=>False)
def Rq (T:TT)(t:Nat)(a x:AV)(ob:I (O OB))(K:AV->W->Prop):Prop:=match a,x with
 | .wu r n i k,.own q m=>Ju T t r n i k q m ob K
 | .wu r n i k,.agg F=>IM T t r n i k (.agg F) ob K
 | a,x=>Vt T t a x ob K
def Xy {T:TT}{t:Nat}{a x:AV}{ob:I (O OB)}{K:AV->W->Prop}(h:Rq T t a x ob K) : (∃r n i k q m,a=.wu r n i k/\x=.own q m/\Ju T t r n i k q m ob K)\/(∃r n i k M,a=.wu r n i k/\x=.agg M/\IM T t r n i k (.agg M) ob K) \/ (Vt T t a x ob K/\∀ob' (F:AV->W->Prop),Vt T t a x ob' F->Rq T t a x ob' F):=by
 unfold Rq at h;split at h
 ·exact .inl ⟨_,_,_,_,_,_,rfl,rfl,h⟩
 ·exact .inr (.inl ⟨_,_,_,_,_,rfl,rfl,h⟩)
 rename_i H J;refine .inr (.inr ⟨h,λob' F P=>?_⟩);unfold Rq;split
 ·exact absurd rfl (H _ _ _ _ _ _ rfl)
 ·exact absurd rfl (J _ _ _ _ _ rfl)
 exact P
def Rh (T:TT)(t:Nat)(F:I (Nat×AV))(K:AV->Prop):Prop:=
 match (T.get t).kind with
 | .struct fs=>go (λi=>match fs[i]? with
  | some (o,s,_)=>some (o,s)
  | none=>none) F ((T.get t).zero.map .d) λJ=>W9 J K
 | .arr n e=>AZ (Bc T e) <| go (λi=>match Xcf i n with
  | true=>some (i*(T.get e).size,(T.get e).size)
  | false=>none) F ((T.get t).zero.map .d) λJ=>W9 J K
 | _=>False where
 go (H:Nat->O (Nat×Nat)):I (Nat×AV)->I AV->(I AV->Prop)->Prop
  | [],J,K=>K J
  | (i,v)::rest,J,K=>match H i with
   | some (off,size)=>PQ v λP=>AZ (Xab P.length size) <| QE J off P λM=>go H rest M K
   | none=>False
def E9 (o:O AV)(F:Int)(K:Int->Prop):Prop:=match o with
 | none=>K F
 | some (.d (.val (.int _ i)))=>K i
 | _=>False
def Vw (sz:Nat)(d:D)(lo J:O AV)(K:AV->Prop):Prop:=match d with
 | .wE F H=>AZ (Xab F sz) <| E9 lo 0 λl=>E9 J H.length λh=>(0<=l/\l<=h/\h<=H.length)/\∃ys,(H.drop l.toNat).take (h.toNat-l.toNat)=ys/\K (.d (.wE F ys))
 | _=>False
def Ri (T:TT)(e:Nat)(x:AV)(lo F:O AV)(ob:I (O OB))(K:AV->W->Prop):Prop:=
 AZ (Bc T e) <| fv ob x λd w=>Vw (T.get e).size d lo F λv=>K v w
def cZ (T:TT)(e r n:Nat)(lo H:O AV)(ob:I (O OB))(K:AV->W->Prop):Prop:=
 AZ (Bc T e) <| DY ob r λo=>match o with
  | .row _ sz F _=>AZ (Xab sz (T.get e).size) <| E9 lo 0 λl=>E9 H F.length λh=>(0<=l/\l<=h/\h<=F.length)/\n=F.length/\∃a k,l.toNat=a/\h.toNat-l.toNat=k/\K (.xn r a k n) []
  | _=>False
def VV (T:TT)(e self r n:Nat)(lo M mx:O AV)(ob:I (O OB))(K:AV->W->Prop):Prop:=
 z6 ob self <| AZ (Bc T e) <| DY ob r λo=>match o with
  | .row P sz F H=>AZ (Xab sz (T.get e).size&&H.free) <| E9 lo 0 λl=>E9 M F.length λh=>E9 mx h λm=>(0<=l/\l<=h/\h<=m/\m<=F.length)/\n=F.length/\
    ∃J,(F.drop l.toNat).take (h.toNat-l.toNat)=J/\K (.own self J.length) [(r,.gone),(self,.row P sz J .no)]
  | _=>False
def Xr (T:TT)(t self:Nat)(x:AV)(lo F mx:O AV)(ob:I (O OB))(K:AV->W->Prop):Prop:=match (T.get t).kind with
 | .slice e=>(match x with
  | .own r n=>(match F with
   | some h=>VV T e self r n lo (some h) mx ob K
   | none=>False)
  | _=>False)
 | _=>False
def bR (T:TT)(t self:Nat)(x:AV)(lo F:O AV)(ob:I (O OB))(K:AV->W->Prop):Prop:=match (T.get t).kind with
 | .slice e=>(match x with
  | .own r n=>Ri T e (.own r n) lo F ob K\/cZ T e r n lo F ob K\/VV T e self r n lo F none ob K
  | .d (.nil sz)=>Ri T e (.d (.nil sz)) lo F ob K\/(AZ (Bc T e) <| E9 lo 0 λl=>E9 F 0 λh=>(l=0/\h=0)/\K (.d (.nil sz)) [])
  | x=>Ri T e x lo F ob K)
 | .str=>(match x with
  | .d (.val (.string s))=>E9 lo 0 λl=>E9 F s.size λh=>(0<=l/\l<=h/\h<=s.size)/\K (.s (s.extract l.toNat h.toNat)) []
  | _=>False)
 | _=>False
def fk (T:TT)(t self:Nat)(n c:AV)(ob:I (O OB))(K:AV->W->Prop):Prop:=match (T.get t).kind,n,c with
 | .slice e,.d (.val (.int .i64 n)),.d (.val (.int .i64 c))=>z6 ob self <| AZ (Bc T e&&Xcf 0 (T.get e).size&&(match (T.get e).kind.wL with|some true=>true|_=>Xab (T.get e).size 1)) <| (0<=n/\n<=c/\c<=1048576/\(T.get e).bytes<=65536)/\
   ∃z,(match (T.get e).kind.wL with
    | some true=>D.agg (T.get e).zero
    | _=>(T.get e).zero.headD default).norm=z/\∃F,Xav n.toNat z=F/\K (.own self F.length) [(self,.row e (T.get e).size F .no)]
 | _,_,_=>False
def s8 (T:TT)(t u self:Nat)(x n:AV)(ob:I (O OB))(K:AV->W->Prop):Prop:=match (T.get t).kind,(T.get u).kind,x,n with
 | .slice e,.int .i64,.d (.nil _),.d (.val (.int .i64 n))=>z6 ob self <| AZ (Bc T u&&Bc T e&&Xcf 0 (T.get e).size&&(match (T.get e).kind.wL with|some true=>true|_=>Xab (T.get e).size 1)) <| (0<n/\n<=1048576/\(T.get e).bytes<=65536)/\
   ∃z,(match (T.get e).kind.wL with
    | some true=>D.agg (T.get e).zero
    | _=>(T.get e).zero.headD default).norm=z/\∃F,Xav n.toNat z=F/\K (.own self F.length) [(self,.row e (T.get e).size F .no)]
 | _,_,_,_=>False
def qy (T:TT)(t:Nat)(x:AV)(K:AV->Prop):Prop:=False
def EO:TK->D->D->O C
 | .int _,.val (.int k a),.val (.int F b)=>if k=F then some (a==b) else none
 | .str,.val (.string a),.val (.string b)=>some (a==b)
 | .bool,.val (.bool a),.val (.bool b)=>some (a==b)
 | _,_,_=>none
def CM (tk:TK)(x:D):I (D×D)->O (O D)
 | []=>some none
 | p::l=>match EO tk x p.1 with
  | some true=>some (some p.2)
  | some false=>CM tk x l
  | none=>none
def GE (tk:TK)(x v:D):I (D×D)->O (I (D×D))
 | []=>some [(x,v)]
 | p::l=>match EO tk x p.1 with
  | some true=>some ((x,v)::l)
  | some false=>(GE tk x v l).map (p::·)
  | none=>none
def QR (T:TT)(e:Nat):D:=(match (T.get e).kind.wL with
 | some true=>D.agg (T.get e).zero
 | _=>(T.get e).zero.headD default).norm
def Kq:TK->A->C
 | .int k,.int F _=>decide (F=k)
 | .str,.string _=>true
 | .bool,.bool _=>true
 | _,_=>false
def KW:TK->C
 | .int _|.str|.bool=>true
 | _=>false
def VM (T:TT)(e:Nat):C:=match (T.get e).kind.wL with
 | some true=>true
 | _=>Xab (T.get e).size 1
def sB (T:TT)(t u r k:Nat)(n:AV)(ob:I (O OB))(K:AV->W->Prop):Prop:=match (T.get t).kind,(T.get u).kind,n with
 | .slice e,.int .i64,.d (.val (.int .i64 n))=>DY ob r λo=>(match o with
  | .row M sz F H=>AZ (Xab M e&&Xab sz (T.get e).size&&H.free&&Bc T u&&Bc T e&&VM T e) <|
    (k=F.length/\0<=n/\n<=1048576/\(T.get e).bytes<=65536/\(F.length+n.toNat)*(T.get e).bytes<=2^47/\F.length+n.toNat<=2^47)/\
     ∃z,QR T e=z/\∃J,F++Xav n.toNat z=J/\K (.own r J.length) [(r,.row M sz J .no)]
  | _=>False)
 | _,_,_=>False
def lO (T:TT)(t u self:Nat)(x n:AV)(ob:I (O OB))(K:AV->W->Prop):Prop:=False
def Vp (T:TT)(e:Nat):C:=match (T.get e).kind,(T.get e).zero with
 | .slice _,[.nil _]=>true
 | _,_=>false
def eK (T:TT)(t:Nat)(x key:AV)(ok:C)(ob:I (O OB))(K:AV->Prop):Prop:=match (T.get t).kind,x,key with
 | .map k e,.mp r,.d (.val F)=>AZ (Kq (T.get k).kind F&&KW (T.get k).kind&&Bc T k&&Bc T e&&Xcf 0 (T.get e).size&&VM T e) <| DY ob r λo=>(match o with
  | .map _ _ H=>∃q,CM (T.get k).kind (.val F) H=some q/\∃v,q.getD (QR T e)=v/\∃b,q.isSome=b/\K (match ok with
   | true=>.wx [.d v,.b b]
   | false=>.d v)
  | .vz _ _ H J M P=>(∃q,CM (T.get k).kind (.val F) H=some q/\∃v,q.getD (QR T e)=v/\∃b,q.isSome=b/\K (match ok with
   | true=>.wx [.d v,.b b]
   | false=>.d v))\/(F=J/\ok=false/\(∃q,CM (T.get k).kind (.val F) H=some q)/\Vp T e=true/\K (.own M P))
  | _=>False)
 | _,_,_=>False
def fX (T:TT)(G:Nat->O (I (D×D)))(t:Nat)(a:AV)(ob:I (O OB))(K:AV->Prop):Prop:=match a with
 | .gl g=>(match (T.get t).kind,G g with
  | .map _ _,some _=>K (.gv g)
  | _,_=>False)
 | a=>ZD T t a ob K
def nH (T:TT)(G:Nat->O (I (D×D)))(t g:Nat)(key:AV)(ok:C)(K:AV->Prop):Prop:=match (T.get t).kind,G g,key with
 | .map k e,some es,.d (.val F)=>AZ (Kq (T.get k).kind F&&KW (T.get k).kind&&Bc T k&&Bc T e&&Xcf 0 (T.get e).size&&VM T e) <|
   ∃q,CM (T.get k).kind (.val F) es=some q/\∃v,q.getD (QR T e)=v/\∃b,q.isSome=b/\K (match ok with
   | true=>.wx [.d v,.b b]
   | false=>.d v)
 | _,_,_=>False
def eu (T:TT)(G:Nat->O (I (D×D)))(t:Nat)(x key:AV)(ok:C)(ob:I (O OB))(K:AV->Prop):Prop:=match x with
 | .gv g=>nH T G t g key ok K
 | x=>eK T t x key ok ob K
def OW (T:TT)(t:Nat)(x key v:AV)(ob:I (O OB))(K:AV->W->Prop):Prop:=match (T.get t).kind,x,key with
 | .map k _,.mp r,.d (.val H)=>AZ (Kq (T.get k).kind H&&KW (T.get k).kind&&Bc T k) <| fv ob v λd w=>AZ (w.all λq=>!Nat.beq q.1 r) <| DY ob r λo=>(match o with
  | .map J M P=>∃F,GE (T.get k).kind (.val H) d P=some F/\K .dead (w++[(r,.map J M F)])
  | .vz J M P _ _ _=>∃F,GE (T.get k).kind (.val H) d P=some F/\K .dead (w++[(r,.map J M F)])
  | _=>False)
 | _,_,_=>False
def RE (T:TT)(t:Nat)(x key:AV)(J n:Nat)(ob:I (O OB))(K:AV->W->Prop):Prop:=match (T.get t).kind,x,key with
 | .map k _,.mp r,.d (.val F)=>AZ (Kq (T.get k).kind F&&KW (T.get k).kind&&Bc T k) <| fv ob (.own J n) λd w=>AZ (w.all λq=>!Nat.beq q.1 r) <| DY ob r λo=>(match o with
  | .map M P Q=>∃H,GE (T.get k).kind (.val F) d Q=some H/\K .dead (w++[(r,.vz M P H F J n)])
  | .vz M P Q _ _ _=>∃H,GE (T.get k).kind (.val F) d Q=some H/\K .dead (w++[(r,.vz M P H F J n)])
  | _=>False)
 | _,_,_=>False
def QF (T:TT)(t:Nat)(x key v:AV)(ob:I (O OB))(K:AV->W->Prop):Prop:=match v with
 | .own r n=>OW T t x key (.own r n) ob K\/RE T t x key r n ob K
 | v=>OW T t x key v ob K
def II (T:TT)(t len self:Nat)(F:I (Nat×AV))(ob:I (O OB))(K:AV->W->Prop):Prop:=
 match (T.get t).kind with
 | .slice e=>z6 ob self <| AZ (Xcf 0 (T.get e).size&&Xee (len*(T.get e).size) 16777216) <| AZ (Bc T e) <|
  elems (T.get e).size 0 F λH w=>AZ (Xab H.length len) <| K (.own self len) (w++[(self,.row e (T.get e).size H .no)])
 | _=>False where
 elems (sz:Nat):Nat->I (Nat×AV)->(I D->W->Prop)->Prop
  | _,[],K=>K [] []
  | i,(j,v)::rest,K=>match Xab i j with
   | true=>fv ob v λx w=>AZ (Xab x.cells.length sz) <| elems sz (i+1) rest λl w'=>K (x::l) (w++w')
   | false=>False
def Ck (T:TT)(t:Nat):C:=match (T.get t).kind.wL with
 | some true=>true
 | _=>false
def OT (T:TT)(t len self:Nat)(F:I AV)(ob:I (O OB))(K:AV->W->Prop):Prop:=
 match (T.get t).kind with
 | .slice e=>z6 ob self <| AZ (Xab len 1&&Ck T e&&Xab (T.get e).size F.length&&Xcf 0 (T.get e).size&&Xee (T.get e).size 65536) <| K (.own self 1) [(self,.box F)]
 | _=>False
def PD (T:TT)(t len self:Nat)(F:I AV)(ob:I (O OB))(K:AV->W->Prop):Prop:=False
def KY (T:TT)(t len self:Nat)(F:I (Nat×AV))(ob:I (O OB))(K:AV->W->Prop):Prop:=match F with
 | [(0,.agg H)]=>II T t len self [(0,.agg H)] ob K\/OT T t len self H ob K\/PD T t len self H ob K
 | F=>II T t len self F ob K
def lB (ob:I (O OB))(y:AV)(K:Nat->I D->Prop):Prop:=match y with
 | .d (.wE sz F)=>K sz F
 | .d (.nil sz)=>K sz []
 | .own r n=>DY ob r λo=>(match o with
  | .row _ sz F _=>n=F.length/\K sz F
  | _=>False)
 | _=>False
def mW (ob:I (O OB))(y:AV)(K:Nat->I D->Prop):Prop:=match y with
 | .xn r a n m=>DY ob r λo=>(match o with
  | .row _ sz F _=>m=F.length/\∃H,(F.drop a).take n=H/\K sz H
  | _=>False)
 | y=>lB ob y K
def qI (ob:I (O OB))(y:AV)(k sz:Nat)(frz:FZ)(K:FZ->Prop):Prop:=match frz with
 | .wS=>K .wS
 | _=>(match y with
  | .own q n=>(match ob.getD q none with
   | some (.row _ F ys (.lk i j H m))=>(match Xab F sz with
    | true=>n=ys.length/\K (.lk (k+i) j H m)
    | false=>K .no)
   | _=>K .no)
  | _=>K .no)
def UD (T:TT)(st:Nat)(self:Nat)(x y:AV)(ob:I (O OB))(K:AV->W->Prop):Prop:=
 match (T.get st).kind with
 | .slice e=>mW ob y λH ys=>(match x with
  | .d (.nil _)=>z6 ob self <| AZ (Xab H (T.get e).size&&Xcf 0 (T.get e).size) <| AZ (Bc T e) <| (ys.length*(T.get e).bytes<=2^47/\ys.length<=2^47)/\
    K (.own self ys.length) [(self,.row e (T.get e).size ys .no)]
  | .own r n=>DY ob r λo=>(match o with
   | .row P sz F J=>AZ (Xab P e&&Xab H sz&&Xab sz (T.get e).size&&Xcf 0 sz) <| AZ (Bc T e) <| n=F.length/\((F.length+ys.length)*(T.get e).bytes<=2^47/\F.length+ys.length<=2^47)/\
     ∃M,F++ys=M/\qI ob y F.length sz J λf=>K (.own r M.length) [(r,.row P sz M f)]
   | _=>False)
  | .xn r a n m=>DY ob r λo=>(match o with
   | .row P sz F J=>AZ (Xab P e&&Xab H sz&&Xab sz (T.get e).size&&Xcf 0 sz&&J.free) <| AZ (Bc T e) <| z6 ob self <| a=0/\m=F.length/\n<=F.length/\((n+ys.length)*(T.get e).bytes<=2^47/\n+ys.length<=2^47)/\
     ∃M,F.take n++ys=M/\K (.own self M.length) [(r,.gone),(self,.row P sz M .no)]
   | _=>False)
  | _=>False)
 | _=>False
def mb (T:TT)(t:Nat)(x:AV)(K:AV->Prop):Prop:=
 match (T.get t).kind,x with
 | .slice _,.d (.wE _ es)=>∃n:Nat,es.length=n/\K (.i n)
 | .slice _,.d (.nil _)=>K (.i 0)
 | .slice _,.own _ n=>∃m:Nat,n=m/\K (.i m)
 | .slice _,.xn _ _ n _=>∃m:Nat,n=m/\K (.i m)
 | .str,.d (.val (.string s))=>K (.i s.size)
 | .arr n _,_=>K (.i n)
 | _,_=>False
def KU (T:TT)(t:Nat)(x y:AV)(ob:I (O OB))(K:AV->Prop):Prop:=
 match y with
 | .d (.val (.int _ i))=>(match (T.get t).kind,x with
  | .slice e,.d (.wE sz F)=>AZ (Bc T e) <| AZ (Xab sz (T.get e).size) <| (0<=i/\i<F.length)/\∃v,F.getD i.toNat default=v/\v.cells.length=sz/\K (.wU v.cells)
  | .slice e,.own r n=>DY ob r λo=>(match o with
   | .row _ sz F _=>AZ (Bc T e) <| AZ (Xab sz (T.get e).size) <| n=F.length/\(0<=i/\i<F.length)/\K (.wu r n i.toNat 0)
   | .box H=>AZ (Bc T e) <| AZ (Xab H.length (T.get e).size) <| i=0/\K (.ref r 0)
   | _=>False)
  | .arr n e,.ref r off=>AZ (Bc T e) <| AZ (Xee 2 n) <| ((0<=i/\i<n)/\K (.ref r (off+i.toNat*(T.get e).size))) \/
    AZ (Xab (T.get e).size 1) ((0<=i/\i<n)/\∃j,i.toNat=j/\K (.wu r n j off))
  | _,_=>False)
 | _=>False
def MR (T:TT)(t r a n m:Nat)(y:AV)(ob:I (O OB))(K:AV->Prop):Prop:=
 match y with
 | .d (.val (.int _ i))=>(match (T.get t).kind with
  | .slice e=>DY ob r λo=>(match o with
   | .row _ sz F _=>AZ (Bc T e) <| AZ (Xab sz (T.get e).size) <| m=F.length/\(0<=i/\i<n)/\∃j,a+i.toNat=j/\K (.wu r m j 0)
   | _=>False)
  | _=>False)
 | _=>False
def MX (T:TT)(t:Nat)(x y:AV)(ob:I (O OB))(K:AV->Prop):Prop:=match x with
 | .xn r a n m=>MR T t r a n m y ob K
 | x=>KU T t x y ob K
def eU (T:TT)(t:Nat)(F:I AV)(off:Nat)(K:AV->Prop):Prop:=
 match (T.get t).kind.wL with
 | some true=>S4 F off λF=>AZ (Xee (T.get t).size F.length) <| Qn F (T.get t).size λl=>W9 l K
 | some false=>(match F[off]? with
  | some a=>a.force K
  | none=>False)
 | none=>False
def Lm (x:AV)(K:I AV->Prop):Prop:=match x with
 | .d (.agg F)=>UC (λc K=>K (.d c)) F K
 | .agg F=>K F
 | _=>False
def Xo (T:TT)(t:Nat)(x y:AV)(K:AV->Prop):Prop:=
 match y with
 | .d (.val (.int _ i))=>(match (T.get t).kind,x with
  | .str,.d (.val (.string s))=>(0<=i/\i<s.size)/\∃c,s.toList.getD i.toNat 0=c/\K (.u c.toNat)
  | .arr n e,x=>Lm x λF=>(0<=i/\i<n)/\(match (T.get e).kind.wL with
   | some false=>∃a,F[i.toNat*(T.get e).size]?=some a/\a.force K
   | _=>False)
  | _,_=>False)
 | _=>False
def X4 (T:TT)(t i:Nat)(x:AV)(K:AV->Prop):Prop:=
 match (T.get t).kind with
 | .struct fs=>(match fs[i]? with
  | some (o,_,F)=>Lm x λH=>eU T F H o K
  | none=>False)
 | _=>False
def fo (T:TT)(F dst:Nat)(x:AV)(ob:I (O OB))(K:AV->Prop):Prop:=
 AZ (T.get F).kind.wL.isSome <| match (T.get dst).kind,x with
 | .int k,.d (.val (.int _ n))=>∃r,k.wrap n=r/\K (.d (.val (.int k r)))
 | .str,.d (.val (.string s))=>K (.s s)
 | .str,x=>(match (T.get F).kind with
  | .slice e=>(match (T.get e).kind with
   | .int .u8=>AZ (Xab (T.get e).size 1) <| mW ob x λsz H=>AZ (Xab sz 1) <|∃l:I S,H=l.map (λc=>.u c.toNat)/\K (.s ⟨l.toArray⟩)
   | _=>False)
  | _=>False)
 | _,_=>False
def isNil:AV->C
 | .d (.val (.slice Xba 0 0))=>true
 | _=>false
def aH (T:TT)(ty self:Nat)(x:AV)(ob:I (O OB))(K:AV->W->Prop):Prop:=
 match isNil x with
 | true=>(match (T.get ty).kind with
  | .slice e=>(match ob[self]? with
   | some none=>AZ (Xcf 0 (T.get e).size) <| K (.own self 0) [(self,.row e (T.get e).size [] .no)]
   | _=>K (.d (.nil (T.get e).size)) [])
  | _=>False)
 | false=>x.force λx=>K x []
def Nv (wc:C)(ob:I (O OB))(a:AV)(ρ:I Nat)(K:AV->I Nat->W->Prop):Prop:=match a with
 | .d x=>(match wc,x with
  | true,.nil sz=>K (.d (.nil sz)) ρ []
  | _,x=>S9 x λx=>K (.d x) ρ [])
 | .own r n=>(match wc with
  | true=>refK r ρ λi ρ=>K (.own i n) ρ []
  | false=>fv ob (.own r n) λx w=>K (.d x) ρ w)
 | .agg J=>fv ob (.agg J) λx w=>K (.d x) ρ w
 | .ref r M=>refK r ρ λi ρ=>K (.ref i M) ρ []
 | .mp r=>refK r ρ λi ρ=>K (.mp i) ρ []
 | .it f r=>refK r ρ λi ρ=>K (.it f i) ρ []
 | .wU J=>K (.wU J) ρ []
 | .fn f H=>capsK H ρ λH ρ=>K (.fn f H) ρ []
 | _=>False where
 refK (r:Nat) (ρ:I Nat) (K:Nat->I Nat->Prop):Prop:=go r ρ 0 (λi=>K i ρ) (λn=>K n (ρ++[r]))
 go (r:Nat):I Nat->Nat->(Nat->Prop)->(Nat->Prop)->Prop
  | [],n,_,N=>N n
  | x::ρ,n,F,N=>match Xab x r with
   | true=>F n
   | false=>go r ρ (n+1) F N
 capsK:I AV->I Nat->(I AV->I Nat->Prop)->Prop
  | [],ρ,K=>K [] ρ
  | .ref r M::J,ρ,K=>refK r ρ λi ρ=>capsK J ρ λJ ρ=>K (.ref i M::J) ρ
  | _::_,_,_=>False
def VJ (wc:I C)(ob:I (O OB)):I AV->I Nat->(I AV->I Nat->W->Prop)->Prop
 | [],F,K=>K [] F []
 | a::J,F,K=>Nv (wc.headD false) ob a F λM F w=>VJ wc.tail ob J F λH F w'=>K (M::H) F (w++w')
def JO (ob:I (O OB)):I Nat->(I OB->Prop)->Prop
 | [],K=>K []
 | r::H,K=>DY ob r λo=>match o with
  | .box J=>cellsD J λM=>JO ob H λl=>K (.box M::l)
  | .row e sz P F=>AZ (!F.linked) <| JO ob H λl=>K (.row e sz P F::l)
  | .map k e P=>JO ob H λl=>K (.map k e P::l)
  | .vz ..=>False
  | .gone=>False where
 cellsD:I AV->(I AV->Prop)->Prop
  | [],K=>K []
  | .d x::J,K=>cellsD J λl=>K (.d x::l)
  | _::_,_=>False
def Pq (ρ:I Nat)(self:Nat)(a:AV)(K:AV->Prop):Prop:=match a with
 | .d x=>K (.d x)
 | .ref i F=>K (.ref (ρ.getD i self) F)
 | .own i n=>K (.own (ρ.getD i self) n)
 | .mp i=>K (.mp (ρ.getD i self))
 | .it f i=>K (.it f (ρ.getD i self))
 | .wx J=>renTup ρ self J λl=>K (.wx l)
 | .agg J=>renTup ρ self J λl=>K (.agg l)
 | _=>False where
 renTup (ρ:I Nat) (self:Nat):I AV->(I AV->Prop)->Prop
  | [],K=>K []
  | .d x::l,K=>renTup ρ self l λH=>K (.d x::H)
  | .ref i F::l,K=>renTup ρ self l λH=>K (.ref (ρ.getD i self) F::H)
  | .own i n::l,K=>renTup ρ self l λH=>K (.own (ρ.getD i self) n::H)
  | _::_,_=>False
def Be:OB->C
 | .box F=>F.all λ| .d _=>true|_=>false
 | .row _ _ _ f=>!f.linked
 | .map _ _ _=>true
 | .vz ..=>false
 | .gone=>true
def NG (ρ:I Nat)(self:Nat)(gL:I OB)(K:W->Prop):Prop:=match ρ,gL with
 | [],[]=>K []
 | [],[o]=>match Be o with
  | true=>K [(self,o)]
  | false=>False
 | r::ρ,o::os=>match Be o with
  | true=>NG ρ self os λw=>K ((r,o)::w)
  | false=>False
 | _,_=>False
def N5 (cx:Cx)(f:Xdm)(self:Nat)(args:I AV)(ob:I (O OB))(K:AV->W->Prop):Prop:=
 VJ (cx.wc f) ob args [] λH J w=>AZ (apartW w J) <| JO ob J λgL=>
  ∃M F,cx.C f H gL M F/\(F.length=J.length\/ob[self]?=some none)/\
   Pq J self M λP=>NG J self F λw'=>K P (w++w') where
 apartW (w:W) (J:I Nat):Bool:=w.all λx=>J.all λr=>match Xab r x.1 with
  | true=>false
  | false=>true
def Y8 (cx:Cx)(f:Xdm)(self:Nat)(args:I AV)(ob:I (O OB))(K:AV->W->Prop):Prop:=N5 cx f self args ob K
def Zn (cx:Cx)(f:Xdm)(self:Nat)(args:I AV)(ob:I (O OB))(K:AV->W->Prop):Y8 cx f self args ob K=N5 cx f self args ob K:=rfl
def W7:I Nat->I OB->(W->Prop)->Prop
 | [],[],K=>K []
 | r::F,o::os,K=>(match Be o with
  | true=>W7 F os λw=>K ((r,o)::w)
  | false=>False)
 | _,_,_=>False
def P1:I Nat->Nat->C
 | [],_=>false
 | x::l,r=>Xab r x || P1 l r
def VQ:I Nat->C
 | []=>true
 | x::l=>!P1 l x&&VQ l
def lc (ob:I (O OB))(F:I Nat):C:=VQ F&&F.all λr=>match ob[r]? with
 | some none=>true
 | _=>false
def TA:D->C
 | .val _=>true
 | .agg F=>F.all λ| .val _=>true|_=>false
 | _=>false
def eR:AV->C
 | .d x=>TA x
 | .wx F=>F.all λ| .d x=>TA x|_=>false
 | _=>false
def lQ (cx:Cx)(f:Xdm)(args:I AV)(ob:I (O OB))(K:AV->W->Prop):Prop:=
 VJ (cx.wc f) ob args [] λM P w=>AZ (N5.apartW w P) <| JO ob P λgL=>
  ∃(J:AV) (F:I OB) (b:O (I Nat)),cx.C f M gL J F/\(match b with
   | some H=>AZ (lc ob H) <| Pq (P++H) 0 J λQ=>W7 (P++H) F λw'=>K Q (w++w')
   | none=>AZ (P.isEmpty&&F.isEmpty&&eR J) (K J []))
def YO (T:TT)(t r a n m:Nat)(ob:I (O OB))(K:AV->W->Prop):Prop:=match (T.get t).kind with
 | .slice e=>DY ob r λo=>(match o with
  | .row M sz F H=>AZ (Bc T e&&Xab sz (T.get e).size&&H.free&&VM T e) <| m=F.length/\∃z,QR T e=z/\∃J,F.take a++Xav n z++F.drop (a+n)=J/\K (.wx []) [(r,.row M sz J .no)]
  | _=>False)
 | _=>False
def tN (T:TT)(e r a n m F:Nat)(ys:I D)(ob:I (O OB))(K:AV->W->Prop):Prop:=DY ob r λo=>(match o with
  | .row P sz H J=>AZ (Bc T e&&Xab sz (T.get e).size&&Xab F sz&&J.free) <| m=H.length/\∃M,H.take a++ys.take n++H.drop (a+min ys.length n)=M/\∃k:Nat,min ys.length n=k/\K (.i k) [(r,.row P sz M .no)]
  | _=>False)
def ln (T:TT)(t:Nat)(x y:AV)(ob:I (O OB))(K:AV->W->Prop):Prop:=False
def pW (args:I AV)(K:AV->Prop):Prop:=match args with
 | [.d (.val (.int k x)),.d (.val (.int _ y))]=>∃r,(if y>x then y else x)=r/\K (.d (.val (.int k r)))
 | _=>False
def oz (args:I AV)(K:AV->Prop):Prop:=match args with
 | [.d (.val (.int k x)),.d (.val (.int _ y))]=>∃r,(if y<x then y else x)=r/\K (.d (.val (.int k r)))
 | _=>False
def I5 (T:TT)(t:Nat)(a:AV):AV:=match isNil a with
 | true=>(match (T.get t).kind with
  | .slice e=>.d (.nil (T.get e).size)
  | _=>a)
 | false=>a
def Hr (T:TT)(av:Xbq->AV):I Xbq->I Nat->I AV
 | x::xs,t::F=>I5 T t (av x)::Hr T av xs F
 | xs,_=>xs.map av
def Fc (a:AV)(K:Xdm->I AV->Prop):Prop:=match a with
 | .fn f F=>K f F
 | .d (.val (.func (.func f) p q))=>(match p.toList,q.toList with
  | [],[]=>K f []
  | _,_=>False)
 | _=>False
def Yb {a:AV}{K:Xdm->I AV->Prop}(h:Fc a K) :∃f F,K f F/\(a=.fn f F\/(a=.d (.val (.func (.func f) #[] #[]))/\F=[])):=by
 unfold Fc at h;split at h
 ·exact⟨_,_,h,.inl rfl⟩
 ·rename_i f p q;split at h
  ·rename_i hp H;have hp:p=#[]:=by cases p;simp_all
   have H:q=#[]:=by cases q;simp_all
   subst hp H;exact⟨_,_,h,.inr ⟨rfl,rfl⟩⟩
  exact h.elim
 exact h.elim
def wy (cx:Cx)(o:z)(av:Xbq->AV)(ob:I (O OB))(K:AV->W->Prop):Prop:=
 match o.op with
 | .move x|.assign x=>(match x with
  | .const v=>aH cx.T o.type (cx.np+o.dst.getD 0) (av (.const v)) ob K
  | x=>(av x).force λv=>K v [])
 | .pick c a b=>ke (av c) (av a) (av b) λv=>K v []
 | .alloc t=>AZ (Bc cx.T t) <| z6 ob (cx.np+o.dst.getD 0) <| K (.ref (cx.np+o.dst.getD 0) 0) [(cx.np+o.dst.getD 0,.box ((cx.T.get t).zero.map .d))]
 | .box t x=>z6 ob (cx.np+o.dst.getD 0) <| PQ (av x) λM=>AZ (Xab M.length (cx.T.get t).size) <| K (.ref (cx.np+o.dst.getD 0) 0) [(cx.np+o.dst.getD 0,.box M)]
 | .build t H=>Rh cx.T t (H.toList.map λ(i,x)=>(i,av x)) λv=>K v []
 | .buildSlice t len H=>KY cx.T t len (cx.np+o.dst.getD 0) (H.toList.map λ(i,x)=>(i,av x)) ob K
 | .load t x=>fX cx.T cx.G t (av x) ob λv=>K v []
 | .store t a x=>Rq cx.T t (av a) (I5 cx.T t (av x)) ob K
 | .nilCheck x=>(match av x with
  | .ref r J=>K (.ref r J) []
  | .wU M=>K (.wU M) []
  | .wu r n i k=>K (.wu r n i k) []
  | .fn f F=>K (.fn f F) []
  | .d (.val (.func (.func g) p q))=>K (.d (.val (.func (.func g) p q))) []
  | _=>False)
 | .binOp op t x y _=>rJ cx.T op t (av x) (av y) λv=>K v []
 | .unOp op _ x=>JT op (av x) λv=>K v []
 | .convert P dst x=>fo cx.T P dst (av x) ob λv=>K v []
 | .fieldAddr t x i=>QK cx.T t i λJ size _=>(match av x with
  | .ref r o=>K (.ref r (o+J)) []
  | .wU M=>S4 M J λM=>Qn M size λM=>K (.wU M) []
  | .wu r n i k=>DY ob r λo=>(match o with
   | .row _ _ V _=>n=V.length/\K (.wu r n i (k+J)) []
   | _=>False)
  | _=>False)
 | .field t x i=>X4 cx.T t i (av x) λv=>K v []
 | .indexAddr t x y=>MX cx.T t (av x) (av y) ob λv=>K v []
 | .index t x y=>Xo cx.T t (av x) (av y) λv=>K v []
 | .makeMap t none=>(match (cx.T.get t).kind with
  | .map k e=>z6 ob (cx.np+o.dst.getD 0) <| K (.mp (cx.np+o.dst.getD 0)) [(cx.np+o.dst.getD 0,.map k e [])]
  | _=>False)
 | .lookup t x y ok=>eu cx.T cx.G t (av x) (av y) ok ob λv=>K v []
 | .mapUpdate t m k v|.insert t m k v=>QF cx.T t (av m) (av k) (av v) ob K
 | .slice t x Q U none=>bR cx.T t (cx.np+o.dst.getD 0) (I5 cx.T t (av x)) (Q.map av) (U.map av) ob K
 | .slice t x Q U (some m)=>Xr cx.T t (cx.np+o.dst.getD 0) (av x) (Q.map av) (U.map av) (some (av m)) ob K
 | .makeSlice t n c=>fk cx.T t (cx.np+o.dst.getD 0) (av n) (av c) ob K
 | .extract x i=>(match av x with
  | .wx Y=>(match Y[i]? with
   | some a=>a.force λv=>K v []
   | none=>False)
  | _=>False)
 | .makeFunc (.func f) first F=>(match first.toList with
  | []=>K (.fn f (F.toList.map av)) []
  | _=>False)
 | .call c=>(match c.callee with
  | .value x=>Fc (av x) λf F=>Y8 cx f (cx.np+o.dst.getD 0) (Hr cx.T av c.args.toList c.argTypes.toList++F) ob K
  | .builtin .len=>(match c.args.toList,c.argTypes.toList with
   | [x],[t]=>mb cx.T t (I5 cx.T t (av x)) λv=>K v []
   | _,_=>False)
  | .builtin .append=>(match c.args.toList,c.argTypes.toList with
   | [x,y],[t,u]=>(match Xab t u with
    | true=>UD cx.T t (cx.np+o.dst.getD 0) (I5 cx.T t (av x)) (I5 cx.T t (av y)) ob K
    | false=>lO cx.T t u (cx.np+o.dst.getD 0) (I5 cx.T t (av x)) (av y) ob K)
   | _,_=>False)
  | .builtin .cap=>(match c.args.toList,c.argTypes.toList with
   | [x],[t]=>qy cx.T t (I5 cx.T t (av x)) λv=>K v []
   | _,_=>False)
  | .builtin .clear=>(match c.args.toList,c.argTypes.toList with
   | [x],[t]=>(match av x with
    | .xn r a n m=>YO cx.T t r a n m ob K
    | _=>False)
   | _,_=>False)
  | .builtin .copy=>(match c.args.toList,c.argTypes.toList with
   | [x,y],[t,_]=>ln cx.T t (av x) (av y) ob K
   | _,_=>False)
  | .builtin .max=>(match c.args.toList with
   | [x,y]=>pW [av x,av y] λv=>K v []
   | _=>False)
  | .builtin .min=>(match c.args.toList with
   | [x,y]=>oz [av x,av y] λv=>K v []
   | _=>False)
  | _=>False)
 | _=>False
def Ol (tm:I AV)(dst:O Nat)(v:AV)(K:I AV->Prop):Prop:=match dst with
 | some d=>OI tm d v K
 | none=>K tm
def Bp (ob:I (O OB)):W->(I (O OB)->Prop)->Prop
 | [],K=>K ob
 | (r,o)::w,K=>OI ob r (some o) λob=>Bp ob w K
def L1 (F:Array z)(o:z)(tm:I AV)(wS no:I AV->Prop):Prop:=match o.guard with
 | none=>wS tm
 | some (j,want)=>match (F[j]?).bind (·.dst) with
  | some t=>(match tm.getD t .dead with
   | .d (.val (.bool b))=>(match want with
    | true=>KD b (OI tm t (.b true) wS) (OI tm t (.b false) no)
    | false=>KD b (OI tm t (.b true) no) (OI tm t (.b false) wS))
   | .wx _=>no tm
   | _=>False)
  | none=>False
def Xv (T:TT)(t self:Nat)(F:I AV)(y:AV)(ob:I (O OB))(K:AV->W->Prop):Prop:=match (T.get t).kind with
 | .slice e=>z6 ob self <| AZ (Ck T e&&Xab (T.get e).size F.length&&Xcf 0 (T.get e).size&&Xee (T.get e).bytes 65536) <| mW ob y λsz ys=>AZ (Xab sz (T.get e).size&&!ys.isEmpty) <| ys.length<=1000000/\
   fv ob (.agg F) λd w=>AZ (w.all λq=>!Nat.beq q.1 self) <| K (.own self (ys.length+1)) (w++[(self,.row e (T.get e).size (d::ys) .no)])
 | _=>False
def Fk (cx:Cx)(o:z)(av:Xbq->AV)(ob:I (O OB))(K:AV->W->Prop):Prop:=match o.op with
 | .binOp op F x y Q=>(match av x,av y with
  | .d (.wE sz es),.d (.val (.slice none 0 0))=>(match op,(cx.T.get F).kind with
   | .eql,.slice _=>K (.b false) []/\(es.length=0->K (.b true) [])
   | _,_=>False)
  | _,_=>wy cx o av ob K)
 | .store F a x=>(match av a,av x with
  | .wu r n i k,.own M P=>IM cx.T F r n i k (.own M P) ob K\/Ju cx.T F r n i k M P ob K
  | .wu r n i k,.agg J=>IM cx.T F r n i k (.agg J) ob K
  | _,_=>wy cx o av ob K)
 | .call c=>(match c.callee with
  | .builtin .append=>(match c.args.toList,c.argTypes.toList with
   | [x,y],[t,u]=>(match av x with
    | .own r _=>(match ob.getD r none with
     | some (.box J)=>AZ (Xab t u) <| Xv cx.T t (cx.np+o.dst.getD 0) J (av y) ob K
     | _=>wy cx o av ob K)
    | _=>wy cx o av ob K)
   | _,_=>wy cx o av ob K)
  | .value x=>Fc (av x) λf H=>lQ cx f (Hr cx.T av c.args.toList c.argTypes.toList++H) ob K
  | _=>wy cx o av ob K)
 | _=>wy cx o av ob K
def stepG (H:Array z)(o:z)(F:(Xbq->AV)->I (O OB)->(AV->W->Prop)->Prop)(st:sI)(K:sI->Prop):Prop:=
 match st with
 | ⟨tm,ob⟩=>L1 H o tm
  (λtm=>F (yp tm) ob λv w=>Ol tm o.dst v λtm=>Bp ob w λob=>K ⟨tm,ob⟩)
  (λtm=>Ol tm o.dst (.wx []) λtm=>K ⟨tm,ob⟩)
def O3 (cx:Cx)(F:Array z)(o:z)(st:sI)(K:sI->Prop):Prop:=
 match st with
 | ⟨tm,ob⟩=>L1 F o tm
  (λtm=>wy cx o (yp tm) ob λv w=>Ol tm o.dst v λtm=>Bp ob w λob=>K ⟨tm,ob⟩)
  (λtm=>Ol tm o.dst (.wx []) λtm=>K ⟨tm,ob⟩)
inductive AE where
 | normal|exit (id:Nat)|ret
def AV.refs:AV->I Nat
 | .ref r _=>[r]
 | .own r _=>[r]
 | .mp r=>[r]
 | .it _ r=>[r]
 | .wu r _ _ _=>[r]
 | .xn r _ _ _=>[r]
 | .agg F=>refsL F
 | .fn _ F=>refsL F
 | .wx F=>refsL F
 | _=>[] where
 refsL:I AV->I Nat
  | []=>[]
  | a::l=>a.refs++refsL l
def OB.refs:OB->I Nat
 | .box F=>AV.refs.refsL F
 | .row _ _ _ f=>f.refs
 | .map _ _ _=>[]
 | .vz _ _ _ _ r _=>[r]
 | .gone=>[]
def CZ (o:z):I Nat:=(o.after.toList.filter (Region.binds .any)).map (·.on)
def KF:I z->I (I Nat)->I (I Nat)
 | [],acc=>acc
 | o::l,acc=>KF l (((CZ o).flatMap λj=>j::acc.getD (acc.length-1-j) [])::acc)
def Hz (F:Array z)(i:Nat):I Nat:=(KF F.toList []).getD (F.size-1-i) []
def Gj (F:Array z):C:=
 (Xbv F.size).all λi=>match F[i]? with
  | none=>false
  | some o=>(CZ o).all (λj=>Xcf j i)&&(match o.op with|.select _ _=>false|_=>true) &&
   (Xbv i).all λj=>(Hz F i).contains j || (match F[j]? with
    | none=>false
    | some q=>q.apart F o)
def ZR:Op->C
 | .move (.const _)|.assign (.const _)|.store ..|.alloc _|.box ..|.buildSlice ..|.slice ..|.makeSlice ..|.makeMap ..|.mapUpdate ..|.insert ..=>true
 | .call c=>match c.callee with
  | .builtin .append=>true
  | .builtin .clear=>true
  | .builtin .copy=>true
  | .value _=>true
  | _=>false
 | _=>false
def AV.yX:AV->C
 | .xn _ _ _ _=>true
 | _=>false
def oY:Op->C
 | .slice ..=>true
 | _=>false
def HP:Op->O Xbq
 | .call c=>(match c.callee,c.args.toList with
  | .builtin .append,[x,_]=>some x
  | _,_=>none)
 | _=>none
def Ug (o:Op):I Xbq:=match o with
 | .move (.tmp _)|.assign (.tmp _)|.pick ..|.extract ..=>[]
 | o=>o.operands.toList
def Ut (np:Nat)(o:z)(tm:I AV):I Nat:=
 (match ZR o.op with
  | true=>[np+o.dst.getD 0]
  | false=>[])++(Ug o.op).flatMap λx=>(yp tm x).refs
def lP (np:Nat)(o:z)(tm tm':I AV):I Nat:=match oY o.op with
 | true=>(match o.dst with
  | some d=>(match (tm'.getD d .dead).yX with
   | true=>[]
   | false=>Ut np o tm)
  | none=>Ut np o tm)
 | false=>(match ZR o.op with
  | true=>(match HP o.op with
   | some x=>(np+o.dst.getD 0)::(yp tm x).refs
   | none=>Ut np o tm)
  | false=>[])
def Fh (F:Array z):Nat->I (I Nat×I Nat)->C
 | _,[]=>true
 | i,(H,wr)::l=>xR F i H wr (i+1) l&&Fh F (i+1) l where
 xR (F:Array z) (i:Nat) (H wr:I Nat):Nat->I (I Nat×I Nat)->C
  | _,[]=>true
  | j,(J,K)::l=>((Hz F j).contains i || ((wr.all λr=>!J.contains r)&&H.all λr=>!K.contains r))&&xR F i H wr (j+1) l
def V7 (cx:Cx)(H:Array z):I z->I (I Nat×I Nat)->sI->(I (I Nat×I Nat)->sI->Prop)->Prop
 | [],F,st,K=>K F.reverse st
 | o::rest,F,⟨tm,ob⟩,K=>O3 cx H o ⟨tm,ob⟩ λJ=>V7 cx H rest ((Ut cx.np o tm,lP cx.np o tm J.tm)::F) J K
def AV.one:AV->C
 | .d x=>!x.isAgg
 | .agg _|.wx _|.dead|.gl _|.gv _=>false
 | _=>true
def Mi (es:I D)(f frz:FZ):Prop:=(f.frozen=true->frz.frozen=true)/\match frz with
 | .lk i j q n=>es.length<=i \/∃F H,f=.lk F j q H/\F=i/\H=n
 | _=>True
inductive wN (s s':sI):AV->AV->Prop where
 | refl (a:AV):wN s s' a a
 | dead (a:AV):wN s s' a .dead
 | norm (x:D):wN s s' (.d x) (.d x.norm)
 | wE (r n e sz:Nat) (es:List D) (frz:FZ) (h:s.ob.getD r none=some (.row e sz es frz)) (hn:n=es.length)
   (h':s'.ob.getD r none=none\/s'.ob.getD r none=some (.row e sz es .wS)):wN s s' (.own r n) (.d (.wE sz es))
 | Dr (r n n':Nat) (h:n=n'):wN s s' (.own r n) (.own r n')
 | xn (r a n m m':Nat) (h:m=m'):wN s s' (.xn r a n m) (.xn r a n m')
 | DB (r a n m e sz:Nat) (es zs:List D) (frz:FZ) (h:s.ob.getD r none=some (.row e sz es frz)) (hm:m=es.length) (hz:(es.drop a).take n=zs)
   (h':s'.ob.getD r none=none\/s'.ob.getD r none=some (.row e sz es .wS)):wN s s' (.xn r a n m) (.d (.wE sz zs))
 | fresh (r e sz:Nat) (h:s.ob.getD r none=none) (h':s'.ob.getD r none=some (.row e sz [] .no)):wN s s' (.d (.nil sz)) (.own r 0)
 | Iv (r:Nat) (cs:List AV) (ys:List D) (sz:Nat) (h:s.ob.getD r none=some (.box cs)) (h':s'.ob.getD r none=none) (w8:sz=cs.length) (hl:ys.length=cs.length) (hp:0<cs.length)
   (hc :∀i (hi:i<cs.length) (hi':i<ys.length),wN s s' cs[i] (.d ys[i])) (hn :∀i (hi:i<ys.length),ys[i].isAgg=false):wN s s' (.own r 1) (.d (.wE sz [.agg ys]))
 | wx (cs cs':List AV) (hl:cs.length=cs'.length) (hc :∀i (hi:i<cs.length) (hi':i<cs'.length),wN s s' cs[i] cs'[i]):wN s s' (.wx cs) (.wx cs')
 | agg (cs cs':List AV) (hl:cs.length=cs'.length) (hc :∀i (hi:i<cs.length) (hi':i<cs'.length),wN s s' cs[i] cs'[i]) (hn :∀i (hi:i<cs'.length),cs'[i].one=true):wN s s' (.agg cs) (.agg cs')
 | Hc (cs:List AV) (ys:List D) (hl:cs.length=ys.length) (hc :∀i (hi:i<cs.length) (hi':i<ys.length),wN s s' cs[i] (.d ys[i])) (hn :∀i (hi:i<ys.length),ys[i].isAgg=false):wN s s' (.agg cs) (.d (.agg ys))
 | HX (ds:List D) (cs':List AV) (hl:ds.length=cs'.length) (hc :∀i (hi:i<ds.length) (hi':i<cs'.length),wN s s' (.d ds[i]) cs'[i]) (hn :∀i (hi:i<cs'.length),cs'[i].one=true):wN s s' (.d (.agg ds)) (.agg cs')
def C1 (s F:sI):I AV->I AV->Prop
 | [],[]=>True
 | a::l,H::J=>(match H with
  | .dead=>C1 s F l J
  | H=>wN s F a H/\C1 s F l J)
 | _,_=>False
def PG (s F:sI):I AV->I AV->Prop
 | [],[]=>True
 | a::l,H::J=>(H.one=true/\wN s F a H)/\PG s F l J
 | _,_=>False
def zg (s F:sI):I (O OB)->I (O OB)->Prop
 | [],[]=>True
 | o::l,U::H=>(match U with
  | none=>zg s F l H
  | some (.box K)=>(∃P,o=some (.box P)/\PG s F P K)/\zg s F l H
  | some (.row e sz es M)=>((∃f,o=some (.row e sz es f)/\Mi es f M)\/(o=none/\es=[]/\0<sz))/\zg s F l H
  | some (.map k e es)=>(o=some (.map k e es) \/∃J r n,o=some (.vz k e es J r n))/\zg s F l H
  | some (.vz k e es J r n)=>((∃Q,o=some (.vz k e es J r Q)/\Q=n)\/((o=some (.map k e es) \/∃J r n,o=some (.vz k e es J r n))/\(∃tk,CM tk (.val J) es=some none)/\n=0/\s.ob.getD r none=none/\∃V sz f,F.ob.getD r none=some (.row V sz [] f)))/\zg s F l H
  | some .gone=>o=some .gone/\zg s F l H)
 | _,_=>False
def Qx (s:sI):C:=
 (AV.refs.refsL s.tm).all (λr=>(s.ob.getD r none).isSome)&&s.ob.all λ
  | none=>true
  | some o=>o.refs.all λr=>(s.ob.getD r none).isSome
structure GS (np:Nat)(s s':sI):Prop where
 par:((List.range np).all λr=>!(s.ob.getD r none).isSome || (s'.ob.getD r none).isSome)=true
 tm:C1 s s' s.tm s'.tm
 ob:zg s s' s.ob s'.ob
 closed:Qx s'=true
def sw (i j r:Nat):Nat:=match Xab r i with
 | true=>j
 | false=>match Xab r j with
  | true=>i
  | false=>r
def AV.sw (i j:Nat):AV->AV
 | .d x=>.d x
 | .agg F=>.agg (zF i j F)
 | .ref r H=>.ref (Go.AX.sw i j r) H
 | .wU F=>.wU F
 | .own r n=>.own (Go.AX.sw i j r) n
 | .wu r n a k=>.wu (Go.AX.sw i j r) n a k
 | .fn f F=>.fn f (zF i j F)
 | .wx F=>.wx (zF i j F)
 | .mp r=>.mp (Go.AX.sw i j r)
 | .it f r=>.it f (Go.AX.sw i j r)
 | .gl g=>.gl g
 | .gv g=>.gv g
 | .xn r a n m=>.xn (Go.AX.sw i j r) a n m
 | .dead=>.dead where
 zF (i j:Nat):I AV->I AV
  | []=>[]
  | a::l=>a.sw i j::zF i j l
def FZ.sw (i j:Nat):FZ->FZ
 | .lk a b q n=>.lk a b (Go.AX.sw i j q) n
 | f=>f
def OB.sw (i j:Nat):OB->OB
 | .box J=>.box (AV.sw.zF i j J)
 | .row e sz F H=>.row e sz F (H.sw i j)
 | .map k e F=>.map k e F
 | .vz k e F K r n=>.vz k e F K (Go.AX.sw i j r) n
 | .gone=>.gone
def RP (i j:Nat):I (O OB)->I (O OB)
 | []=>[]
 | none::l=>none::RP i j l
 | some o::l=>some (o.sw i j)::RP i j l
def IL (i j:Nat)(s:sI):sI:=⟨AV.sw.zF i j s.tm,((RP i j s.ob).set i ((RP i j s.ob).getD j none)).set j ((RP i j s.ob).getD i none)⟩
inductive wg (np:Nat):sI->sI->Prop where
 | mk {s s':sI} (par:((List.range np).all λr=>!(s.ob.getD r none).isSome || (s'.ob.getD r none).isSome)=true) (tm:C1 s s' s.tm s'.tm) (ob:zg s s' s.ob s'.ob) (closed:Qx s'=true):wg np s s'
 | swap {s s':sI} (i j:Nat) (hi:Nat.ble np i=true) (hj:Nat.ble np j=true) (hl:(Nat.blt i s.ob.length&&Nat.blt j s.ob.length)=true) (h:wg np (IL i j s) s'):wg np s s'
def zX (K:AE->sI->Prop)(F:sI->Prop)(e:AE)(st:sI):Prop:=match e with
 | .normal=>F st
 | .exit i=>K (.exit i) st
 | .ret=>K .ret st
inductive xX (np:Nat)(body:(AE->sI->Prop)->sI->Prop)(K:AE->sI->Prop)(st:sI):Prop where
 | mk (h:(∀t sz es,st.tm.getD t .dead=.d (.wE sz es)->es.length<=9223372036854775807)->(∀r e sz es f,st.ob.getD r none=some (.row e sz es f)->es.length<=9223372036854775807)->∃I:sI->Nat->Prop,(∃s n,wg np st s/\I s n)/\
  ∀s n,I s n->body (zX K λt=>∃s' m,m<n/\wg np t s'/\I s' m) s)
inductive xU (np:Nat)(X:(sI->Prop)->Prop)(K:sI->Prop):Prop where
 | go (h:X K)
 | cut (J:sI->Prop) (h1:X λt=>∃s,wg np t s/\J s) (h2 :∀s,J s->K s)
def rU (cx:Cx)(o:z)(tm:List AV)(ob:List (O OB))(K:sI->Prop):Prop:=match o.op with
 | .call c=>(match c.callee with
  | .value x=>Fc (yp tm x) λf F=>(match cx.inl f with
   | true=>xU cx.np (λJ=>cx.I f (Hr cx.T (yp tm) c.args.toList c.argTypes.toList++F) ob λr H=>Ol tm o.dst r λtm=>J ⟨tm,H⟩) K
   | false=>Fk cx o (yp tm) ob λv w=>Ol tm o.dst v λtm=>Bp ob w λob=>K ⟨tm,ob⟩)
  | _=>Fk cx o (yp tm) ob λv w=>Ol tm o.dst v λtm=>Bp ob w λob=>K ⟨tm,ob⟩)
 | _=>Fk cx o (yp tm) ob λv w=>Ol tm o.dst v λtm=>Bp ob w λob=>K ⟨tm,ob⟩
def eF (cx:Cx)(F:Array z)(o:z)(st:sI)(K:sI->Prop):Prop:=match st with
 | ⟨tm,ob⟩=>L1 F o tm (λtm=>rU cx o tm ob K) (λtm=>Ol tm o.dst (.wx []) λtm=>K ⟨tm,ob⟩)
def kF (cx:Cx)(F:Array z):I z->sI->(sI->Prop)->Prop
 | [],st,K=>K st
 | o::rest,st,K=>eF cx F o st λst=>kF cx F rest st K
def guarded:I z->C
 | []=>false
 | o::l=>match o.guard with
  | none=>guarded l
  | some _=>true
def Kf (K:AE->sI->Prop)(F:sI->Prop)(e:AE)(st:sI):Prop:=match e with
 | .normal=>F st
 | .exit i=>K (.exit i) st
 | .ret=>K .ret st
def Mj (id:Nat)(K:AE->sI->Prop)(F:sI->Prop)(e:AE)(st:sI):Prop:=match e with
 | .normal=>F st
 | .exit i=>(match Xab i id with
  | true=>F st
  | false=>K (.exit i) st)
 | .ret=>K .ret st
def qb (cx:Cx)(F:Array z)(st:sI)(K:sI->Prop):Prop:=match guarded F.toList with
 | true=>xU cx.np (kF cx F F.toList st) K
 | false=>kF cx F F.toList st K
def ju (cx:Cx)(F:Array z)(st:sI)(K:sI->Prop):Prop:=Gj F=true/\V7 cx F F.toList [] st λH J=>Fh F 0 H=true/\K J
def Ro (F:Array z):C:=Xcf 0 F.size&&(Xbv (F.size-1)).all λj=>(Hz F (F.size-1)).contains j
def mZ (cx:Cx)(F:Array z)(st:sI)(K:sI->Prop):I z->Prop
 | []=>False
 | [o]=>eF cx F o st K
 | _::l=>mZ cx F st K l
def NY:I z->I z
 | []=>[]
 | [_]=>[]
 | o::l=>o::NY l
def dE (cx:Cx)(F:Array z)(st:sI)(K:sI->Prop):Prop:=(Gj F=true/\Ro F=true)/\V7 cx F (NY F.toList) [] st λH J=>Fh F 0 H=true/\mZ cx F J K F.toList
def H6 (cx:Cx):Code->(AE->sI->Prop)->sI->Prop
 | .skip,K,st=>K .normal st
 | .region _ ops false,K,st=>qb cx ops st (K .normal)
 | .region _ ops true,K,st=>(match guarded ops.toList with
  | true=>xU cx.np (λF=>ju cx ops st F\/dE cx ops st F) (K .normal)
  | false=>ju cx ops st (K .normal)\/dE cx ops st (K .normal))
 | .seq a b,K,st=>H6 cx a (Kf K (H6 cx b K)) st
 | .cond c x y,K,st=>(match yp st.tm c with
  | .d (.val (.bool b))=>xU cx.np (λF=>KD b (H6 cx x (Kf K F) st) (H6 cx y (Kf K F) st)) (K .normal)
  | _=>False)
 | .block id b,K,st=>xU cx.np (λF=>H6 cx b (Mj id K F) st) (K .normal)
 | .loop b,K,st=>xX cx.np (H6 cx b) K st
 | .exit id,K,st=>K (.exit id) st
 | .ret,K,st=>K .ret st
 | _,_,_=>False
def Xw (cx:Cx)(st:sI):I ResultVar->(I AV->Prop)->Prop
 | [],K=>K []
 | .tmp t::rs,K=>(st.tm.getD t .dead).force λa=>Xw cx st rs λl=>K (a::l)
 | .cell a H::rs,K=>(match st.tm.getD a .dead with
  | .ref r F=>ZD cx.T H (.ref r F) st.ob λv=>Xw cx st rs λl=>K (v::l)
  | _=>False)
def Yr:I Nat->Nat->O Nat
 | [],_=>none
 | x::l,r=>match Xab r x with
  | true=>some 0
  | false=>match Yr l r with
   | some k=>some (k+1)
   | none=>none
def SB (rs:I Nat):I AV->I AV
 | []=>[]
 | .own r n::F=>(match P1 rs r with
  | true=>.d (.nil 1)
  | false=>.own r n)::SB rs F
 | a::F=>a::SB rs F
def dX (np:Nat)(rs:I Nat):I AV->I D->I AV
 | .own r n::F,d::H=>(match Yr rs r with
  | some k=>.own (np+k) n
  | none=>.d d)::dX np rs F H
 | _::F,d::H=>.d d::dX np rs F H
 | _,_=>[]
def Wp (ob:I (O OB)):I Nat->(I OB->Prop)->Prop
 | [],K=>K []
 | r::rs,K=>DY ob r λo=>match o with
  | .row e sz F f=>AZ (!f.linked) <| Wp ob rs λl=>K (.row e sz F f::l)
  | _=>False
def YF (np:Nat)(ob:I (O OB))(rs:I Nat)(F:I AV)(K:AV->Prop):Prop:=
 AZ (VQ rs&&rs.all λr=>Xee np r) <| fv ob (.agg (SB rs F)) λx w=>match x with
  | .agg H=>AZ (w.all λq=>Xee np q.1&&!P1 rs q.1) <| K (.agg (dX np rs F H))
  | _=>False
def dK (np:Nat)(ob:I (O OB))(a:AV)(K:AV->O Nat->Prop):Prop:=match a with
 | .d x=>S9 x λx=>K (.d x) none
 | .own r n=>(match Xcf r np with
  | true=>K (.own r n) none
  | false=>fv ob (.own r n) (λx _=>K (.d x) none)\/K (.own np n) (some r))
 | .agg H=>fv ob (.agg H) (λx w=>AZ (w.all λq=>Xee np q.1) <| K (.d x) none)
 | .ref r F=>(match Xcf r np with
  | true=>K (.ref r F) none
  | false=>K (.ref np F) (some r))
 | .mp r=>(match Xcf r np with
  | true=>K (.mp r) none
  | false=>K (.mp np) (some r))
 | _=>False
def Yo (np:Nat)(ob:I (O OB)):I AV->(I AV->Prop)->Prop
 | [],K=>K []
 | a::l,K=>dK np ob a λF H=>match H with
  | none=>Yo np ob l λJ=>K (F::J)
  | some _=>False
def L6 (ob:I (O OB)):Nat->Nat->(I OB->Prop)->Prop
 | 0,_,K=>K []
 | n+1,i,K=>DY ob i λo=>match o with
  | .box H=>JO.cellsD H λH=>L6 ob n (i+1) λl=>K (.box H::l)
  | .row e sz J F=>AZ (!F.linked) <| L6 ob n (i+1) λl=>K (.row e sz J F::l)
  | .map k e J=>L6 ob n (i+1) λl=>K (.map k e J::l)
  | .vz ..=>False
  | .gone=>L6 ob n (i+1) λl=>K (.gone::l)
def zl (np:Nat)(ob:I (O OB))(R:AV->I OB->Prop)(a:AV)(gL:I OB):Prop:=match a with
 | .d (.nil sz)=>R (.d (.wE sz [])) gL\/(0<sz/\∃e,R (.own np 0) (gL++[.row e sz [] .no]))
 | .agg H=>fv ob (.agg H) (λx w=>AZ (w.all λq=>Xee np q.1) <| R (.d x) gL) \/∃rs,YF np ob rs H λx=>Wp ob rs λos=>R x (gL++os)
 | .own r n=>(dK np ob (.own r n) λJ M=>(match M with
   | none=>R J gL
   | some r=>DY ob r λo=>match o with
    | .box H=>JO.cellsD H λH=>R J (gL++[.box H])
    | .row e sz K F=>AZ (!F.linked) <| R J (gL++[.row e sz K F])
    | .map k e K=>R J (gL++[.map k e K])
    | .vz ..=>False
    | .gone=>False))\/(AZ (Xcf r np) <| match gL[r]? with
     | some (.row e sz K .no)=>R (.own np n) (gL.set r .gone++[.row e sz K .no])
     | _=>False)
 | a=>dK np ob a λJ M=>(match M with
   | none=>R J gL
   | some r=>DY ob r λo=>match o with
    | .box H=>JO.cellsD H λH=>R J (gL++[.box H])
    | .row e sz K F=>AZ (!F.linked) <| R J (gL++[.row e sz K F])
    | .map k e K=>R J (gL++[.map k e K])
    | .vz ..=>False
    | .gone=>False)
def qd (cx:Cx)(fn:Func)(R:AV->I OB->Prop)(e:AE)(st:sI):Prop:=
 match e with
 | .exit _=>False
 | _=>Xw cx st fn.results.toList λF=>L6 st.ob cx.np 0 λgL=>(match F with
  | [a]=>zl cx.np st.ob R a gL
  | F=>Yo cx.np st.ob F λH=>R (.wx H) gL)
def U8 (ex:Nat)(fn:Func)(args:I AV)(gL:I OB):sI:=
 { tm:=args++Xav (fn.ntmps-args.length) .dead,ob:=gL.map some++Xav (fn.ntmps+ex) none }
def Yy (cx:Cx)(fn:Func)(args:I AV)(gL:I OB)(R:AV->I OB->Prop):Prop:=
 cx.np=gL.length/\match fn.body with
  | some c=>H6 cx c (qd cx fn R) (U8 cx.ex fn args gL)
  | none=>False
def J9:I (O OB)->Nat->C
 | [],_=>true
 | _::l,n+1=>J9 l n
 | none::l,0=>J9 l 0
 | some _::_,0=>false
def rR (cx:Cx)(fn:Func)(K:AV->I (O OB)->Prop)(e:AE)(st:sI):Prop:=
 match e with
 | .exit _=>False
 | _=>Xw cx st fn.results.toList λF=>(match F with
  | [a]=>K a st.ob
  | F=>K (.wx F) st.ob)
def jt (cx:Cx)(fn:Func)(args:I AV)(ob:I (O OB))(K:AV->I (O OB)->Prop):Prop:=
 J9 ob cx.np=true/\match fn.body with
  | some c=>H6 cx c (rR cx fn K) ⟨args++Xav (fn.ntmps-args.length) .dead,ob⟩
  | none=>False
end Go.AX
end
