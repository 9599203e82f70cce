/-
  Texts of one proof, packed.
-/
import Derived.KernelRfl
import Derived.Laws.Sem
import Derived.Orders
set_option linter.all false
set_option maxRecDepth 100000
set_option maxHeartbeats 4000000
open List renaming length_map→X1,length_append→X2,length_drop→X14,length_take→X15,length_replicate→X17,length_set→X18
open Option renaming none→Xan
open BitVec renaming ofInt→Xa3
open List renaming replicate→Xaa,range→Xbu
open Go renaming Operand→Xbq,FuncId→Xdy
open Nat renaming beq→Xal,blt→Xcu,ble→Xeo
namespace Go
abbrev O:=@List
abbrev C:=@Option
abbrev I:=Bool
abbrev A:=Value
abbrev S:=UInt8
abbrev T:=ByteArray
abbrev j:=UInt64
abbrev B:=World
abbrev z:=Oper
def Xy:=@decide_eq_true_eq
def Xa1:=@if_neg
def Xa2:=@if_pos
def Xa4:=@decide_eq_true
def Xa6:=@List.all_eq_true
def Xa7:=@List.mem_cons
def Xa8:=@List.getD_eq_getElem?_getD
def Xa9:=@decide_eq_false
def Xab:=@List.pairwise_cons
def Xad:=@List.getElem_mem
def Xaf:=@List.getElem?_append_left
def Xag:=@List.eq_nil_of_length_eq_zero
def Xah:=@List.nil_append
def Xai:=@List.getElem_of_mem
def Xam:=@UInt8.toNat_ofNat'
def Xap:=@congrArg
def Xaq:=@List.getElem_append_left
def Xat:=@List.flatMap_cons
def Xar:=@UInt64.toNat_ofNat'
def Xau:=@List.mem_map
def Xaj:=@List.foldl_cons
def Xak:=@Nat.le_refl
def Xas:=@List.getElem?_append_right
def Xav:=@decide_eq_false_iff_not
def Xax:=@Int.toNat_natCast
def Xay:=@Nat.le_trans
def Xaz:=@Option.getD_some
def Xb1:=@List.append_nil
def Xb6:=@List.getElem_map
def Xb9:=@List.append_assoc
def Xba:=@Array.length_toList
def Xb4:=@Nat.lt_of_lt_of_le
def Xb2:=@List.mem_filter
def Xbb:=@List.filter_append
def Xbc:=@Nat.zero_add
def Xbd:=@Bool.not_eq_true'
def Xbf:=@Nat.mod_eq_of_lt
def Xbg:=@List.getElem_cons_zero
def Xbh:=@beq_iff_eq
def Xbi:=@List.length_pos_iff
def Xbk:=@List.map_cons
def Xbl:=@List.getElem_append_right
def Xbj:=@List.pairwise_append
def Xbm:=@Array.getElem?_append_left
def Xbn:=@List.takeWhile_append_dropWhile
def Xbp:=@Array.toArray_toList
def Xbr:=@List.take_add_one
def Xbs:=@Nat.lt_of_not_le
def Xbx:=@List.getElem_drop
def Xbt:=@List.drop_eq_getElem_cons
def Xc1:=@List.getElem_take
def Xc2:=@cond_false
def Xby:=@Option.bind_some
def Xc3:=@List.not_mem_nil
def Xc5:=@Nat.add_assoc
def Xc6:=@Nat.mul_comm
def Xc8:=@Int.fdiv_eq_ediv_of_nonneg
def Xc9:=@List.mem_flatMap
def Xca:=@bne_self_eq_false
def Xcb:=@Option.map_some
def Xcd:=@List.filterMap_cons
def Xb3:=@Option.map_eq_some_iff
def Xbz:=@List.mem_of_getElem?
def Xcf:=@List.mem_append_left
def Xcg:=@beq_self_eq_true
def Xch:=@List.filter_cons
def Xci:=@List.size_toArray
def Xcl:=@Bool.false_eq_true
def Xcm:=@Array.getElem?_eq_some_iff
def Xco:=@Bool.true_and
def Xcp:=@UInt64.toNat_inj
def Xcs:=@List.exists_mem_of_ne_nil
def Xct:=@BitVec.ofInt_natCast
def Xcw:=@List.filter_eq_nil_iff
def Xcx:=@List.findIdx?_eq_some_iff_getElem
def Xcy:=@Nat.add_zero
def Xd0:=@List.filter_eq_self
def Xd1:=@List.mem_iff_getElem?
def Xd3:=@List.take_length
def Xd4:=@if_false
def Xd5:=@List.all_cons
def Xd6:=@List.length_range
def Xd8:=@Bool.and_true
def Xd9:=@List.any_cons
def Xdc:=@Nat.pow_le_pow_right
def Xdf:=@Int.natCast_nonneg
def Xdh:=@List.take_of_length_le
def Xcz:=@List.getElem_append
def Xdi:=@List.nodup_append
def Xdj:=@Nat.add_comm
def Xdk:=@List.mem_append_right
def Xdl:=@List.getElem?_eq_none
def Xdo:=@List.cons.injEq
def Xdp:=@Bool.or_eq_true
def Xde:=@List.mem_cons_self
def Xdq:=@List.filter_cons_of_neg
def Xdr:=@List.mem_of_mem_take
def Xds:=@List.getElem?_set_ne
def Xdw:=@decide_eq_decide
def Xe0:=@List.getElem?_set_self
def Xe1:=@cond_true
def Xe3:=@List.mem_range
def Xe4:=@Bool.not_true
def Xe5:=@List.getElem?_toArray
def Xe6:=@Nat.beq_refl
def Xe9:=@List.pairwise_flatMap
def Xea:=@Nat.two_pow_pos
def Xeb:=@List.length_filter_le
def Xed:=@List.getElem_range
def Xee:=@Nat.div_eq_of_lt
def Xef:=@Nat.zero_le
def Xeg:=@List.any_eq_true
def Xei:=@Nat.lt_or_ge
def Xej:=@List.getElem?_map
def Xel:=@List.reverse_cons
def Xem:=@Nat.min_eq_left
def Xep:=@Nat.lt_irrefl
def Xer:=@List.drop_zero
def Xet:=@if_true
def Xeu:=@Nat.mod_lt
def Xev:=@not_false_eq_true
def Xeq:=@List.Pairwise.sublist
def Xez:=@or_false
def Xf0:=@bne_iff_ne
def Xf1:=@dif_neg
def Xf2:=@and_assoc
def Xf3:=@decide_true
def Xf4:=@beq_eq_false_iff_ne
def Xf5:=@dif_pos
def Xf6:=@and_true
end Go
section
namespace Go.AX
inductive D where
 | val (v:Value)
 | agg (cs:List D)
 | nil (sz:Nat)
 | Cg (sz:Nat) (es:List D)
 deriving Inhabited
abbrev D.i (n:Int):D:=.val (.int .i64 n)
abbrev D.u (n:Int):D:=.val (.int .u8 n)
abbrev D.b (b:I):D:=.val (.bool b)
abbrev D.s (s:T):D:=.val (.string s)
def D.cells:D->O D
 | .agg F=>F
 | x=>[x]
def D.isAgg:D->I
 | .agg _=>true
 | _=>false
def D.norm:D->D
 | .nil sz=>.Cg sz []
 | .agg F=>.agg (F.map λ
   | .nil sz=>.Cg sz []
   | x=>x)
 | x=>x
inductive AV where
 | d (x:D)
 | agg (cs:List AV)
 | ref (r off:Nat)
 | DM (cs:List D)
 | own (r n:Nat)
 | Bp (r n i k:Nat)
 | fn (f:FuncId) (caps:List AV)
 | Ca (vs:List AV)
 | mp (r:Nat)
 | Fc (r a n m:Nat)
 | it (f:FuncId) (r:Nat)
 | gl (g:Nat)
 | gv (g:Nat)
 | dead
 deriving Inhabited
abbrev AV.i (n:Int):AV:=.d (.val (.int .i64 n))
abbrev AV.u (n:Int):AV:=.d (.val (.int .u8 n))
abbrev AV.b (b:I):AV:=.d (.val (.bool b))
abbrev AV.s (s:T):AV:=.d (.val (.string s))
abbrev AV.l (sz:Nat)(es:O D):AV:=.d (.Cg sz es)
inductive FZ where
 | no|Dd
 | lk (i j q n:Nat)
 deriving Inhabited
def FZ.frozen:FZ->I
 | .Dd=>true
 | _=>false
def FZ.free:FZ->I
 | .no=>true
 | _=>false
def FZ.Fx {f:FZ}(h:f.free=true):f=.no:=by cases f<;>simp[FZ.free] at h;rfl
def FZ.linked:FZ->I
 | .lk _ _ _ _=>true
 | _=>false
def FZ.refs:FZ->O Nat
 | .lk _ _ q _=>[q]
 | _=>[]
@[simp] theorem FZ.frozen_no:FZ.no.frozen=false:=rfl
@[simp] theorem FZ.Hd:FZ.Dd.frozen=true:=rfl
@[simp] theorem FZ.frozen_lk (i j q n:Nat):(FZ.lk i j q n).frozen=false:=rfl
@[simp] theorem FZ.linked_no:FZ.no.linked=false:=rfl
@[simp] theorem FZ.linked_yes:FZ.Dd.linked=false:=rfl
@[simp] theorem FZ.linked_lk (i j q n:Nat):(FZ.lk i j q n).linked=true:=rfl
@[simp] theorem FZ.refs_no:FZ.no.refs=[]:=rfl
@[simp] theorem FZ.refs_yes:FZ.Dd.refs=[]:=rfl
@[simp] theorem FZ.Kb (i j q n:Nat):(FZ.lk i j q n).refs=[q]:=rfl
def FZ.notlk {f:FZ}(h:f.linked=false){i j q n:Nat}(e:f=.lk i j q n):False:=by subst e;simp at h
inductive OB where
 | box (cs:List AV)
 | row (e sz:Nat) (es:List D) (frz:FZ)
 | map (k e:Nat) (es:List (D×D))
 | zj (k e:Nat) (es:List (D×D)) (kv:Value) (r n:Nat)
 | gone
 deriving Inhabited
inductive TK where
 | bool|int (k:IntKind)|str|ptr|fn|other
 | slice (elem:Nat)
 | arr (n elem:Nat)
 | struct (fs:List (Nat×Nat×Nat))
 | map (k e:Nat)
 deriving Inhabited
structure TI where
 kind:TK
 size:Nat
 bytes:Nat
 zero:List D
 deriving Inhabited
inductive TT where
 | zS
 | node (k:Nat) (v:TI) (l r:TT)
def TI.none:TI:=⟨.other,0,0,[]⟩
def TT.get:TT->Nat->TI
 | .zS,_=>TI.none
 | .node k v l r,n=>match Xal n k with
  | true=>v
  | false=>match Xcu n k with
   | true=>l.get n
   | false=>r.get n
def TK.Cy:TK->C I
 | .struct _|.arr _ _=>some true
 | .other=>none
 | _=>some false
def A7 (T:TT)(t:Nat):I:=(T.get t).kind.Cy.isSome
structure wD where
 tm:List AV
 ob:List (Option OB)
structure Cx where
 T:TT
 np:Nat
 C:FuncId->List AV->List OB->AV->List OB->Prop
 zV:FuncId->List Bool
 G:Nat->Option (List (D×D))
 inl:FuncId->Bool
 I:FuncId->List AV->List (Option OB)->(AV->List (Option OB)->Prop)->Prop
 ex:Nat
def AV.force (a:AV)(K:AV->Prop):Prop:=match a with
 | .d x=>K (.d x)
 | .agg F=>K (.agg F)
 | .ref r o=>K (.ref r o)
 | .DM F=>K (.DM F)
 | .own r n=>K (.own r n)
 | .Bp r n i k=>K (.Bp r n i k)
 | .fn f c=>K (.fn f c)
 | .Ca vs=>K (.Ca vs)
 | .mp r=>K (.mp r)
 | .it f r=>K (.it f r)
 | .gl g=>K (.gl g)
 | .gv g=>K (.gv g)
 | .Fc r a n m=>K (.Fc r a n m)
 | .dead=>K .dead
def AS (b:I)(P:Prop):Prop:=match b with
 | true=>P
 | false=>False
def Li (tm:O AV):Xbq->AV
 | .tmp t=>tm.getD t .dead
 | .const v=>(match v.oneCell' with
  | true=>.d (.val v)
  | false=>.dead)
 | .func f=>.fn f []
 | .global g=>.gl g
def MH {α:Type}:O α->Nat->α->(O α->Prop)->Prop
 | [],_,_,K=>K []
 | _::l,0,v,K=>K (v::l)
 | x::l,n+1,v,K=>MH l n v λF=>K (x::F)
def Ru {α F:Type}(f:α->(F->Prop)->Prop):O α->(O F->Prop)->Prop
 | [],K=>K []
 | x::l,K=>f x λy=>Ru f l λH=>K (y::H)
def Qm {α:Type}:O α->Nat->(O α->Prop)->Prop
 | l,0,K=>K l
 | [],_+1,K=>K []
 | _::l,n+1,K=>Qm l n K
def O5 {α:Type}:O α->Nat->(O α->Prop)->Prop
 | _,0,K=>K []
 | [],_+1,K=>K []
 | x::l,n+1,K=>O5 l n λF=>K (x::F)
def OT {α:Type}:O α->Nat->O α->(O α->Prop)->Prop
 | F,0,[],K=>K F
 | _::F,0,v::vs,K=>OT F 0 vs λl=>K (v::l)
 | c::F,n+1,vs,K=>OT F n vs λl=>K (c::l)
 | [],_,_,_=>False
def VJ:O AV->C (O D)
 | []=>some []
 | .d x::r=>match VJ r with
  | some l=>some (x::l)
  | none=>none
 | _::_=>none
def Vz (F:O AV)(K:AV->Prop):Prop:=match VJ F with
 | some l=>K (.d (.agg l))
 | none=>K (.agg F)
def Nn (a:AV)(K:O AV->Prop):Prop:=match a with
 | .d (.val v)=>K [.d (.val v)]
 | .d (.nil sz)=>K [.d (.nil sz)]
 | .d (.Cg sz F)=>K [.d (.Cg sz F)]
 | .d (.agg H)=>Ru (λc K=>match c with
   | .val v=>K (.d (.val v))
   | .nil sz=>K (.d (.nil sz))
   | .Cg sz F=>K (.d (.Cg sz F))
   | .agg _=>False) H K
 | .agg H=>K H
 | .ref r o=>K [.ref r o]
 | .own r n=>K [.own r n]
 | .mp r=>K [.mp r]
 | .fn f c=>K [.fn f c]
 | _=>False
def Qw (x:D)(K:D->Prop):Prop:=match x with
 | .val v=>K (.val v)
 | .nil sz=>K (.Cg sz [])
 | .Cg sz H=>K (.Cg sz H)
 | .agg F=>Ru (λc K=>match c with
   | .val v=>K (.val v)
   | .nil sz=>K (.Cg sz [])
   | .Cg sz H=>K (.Cg sz H)
   | .agg F=>K (.agg F)) F λF=>K (.agg F)
abbrev W:=O (Nat×OB)
def Cc (ob:O (C OB))(r:Nat)(K:OB->Prop):Prop:=match ob.getD r none with
 | some (.box H)=>K (.box H)
 | some (.row e sz es F)=>K (.row e sz es F)
 | some (.map k e es)=>K (.map k e es)
 | some (.zj k e es J r n)=>K (.zj k e es J r n)
 | some .gone=>K .gone
 | none=>False
def Ms (ob:O (C OB))(r:Nat)(K:Prop):Prop:=match ob[r]? with
 | some none=>K
 | _=>False
def Lg (T:TT):Nat->Nat->D->D->C I
 | 0,_,_,_=>none
 | n+1,t,x,y=>match (T.get t).kind,x,y with
  | .bool,.val (.bool a),.val (.bool b)=>some (a==b)
  | .int _,.val (.int k a),.val (.int F b)=>if k=F then some (a==b) else none
  | .str,.val (.string a),.val (.string b)=>some (a.toList==b.toList)
  | .struct fs,.agg xs,.agg ys=>eqFs (Lg T n) T fs xs ys
  | _,_,_=>none where
 eqFs (rec:Nat->D->D->C I) (T:TT):O (Nat×Nat×Nat)->O D->O D->C I
  | [],_,_=>some true
  | (o,s,t)::fs,xs,ys=>
   match (match (T.get t).kind.Cy with
    | some true=>rec t (.agg ((xs.drop o).take s)) (.agg ((ys.drop o).take s))
    | some false=>(match xs[o]?,ys[o]? with
     | some x,some y=>rec t x y
     | _,_=>none)
    | none=>none) with
   | some b=>match eqFs rec T fs xs ys with
    | some c=>some (b&&c)
    | none=>none
   | none=>none
def gQ (T:TT)(op:BinOp)(t:Nat)(x y:AV)(K:AV->Prop):Prop:=
 match op,x,y with
 | .shl,.d (.val (.int k a)),.d (.val (.int _ b))=>0<=b/\∃r,k.wrap (a*2^(min b.toNat k.bits))=r/\K (.d (.val (.int k r)))
 | .shr,.d (.val (.int k a)),.d (.val (.int _ b))=>0<=b/\∃r,a.fdiv (2^(min b.toNat k.bits))=r/\K (.d (.val (.int k r)))
 | .eql,.d (.val (.string a)),.d (.val (.string b))=>K (.b (a.toList==b.toList))
 | .neq,.d (.val (.string a)),.d (.val (.string b))=>K (.b (!(a.toList==b.toList)))
 | .add,.d (.val (.string a)),.d (.val (.string b))=>(a.size+b.size<=2^62)/\K (.s (a++b))
 | .lss,.d (.val (.string a)),.d (.val (.string b))=>K (.b (Op.bytesLess a.toList b.toList))
 | .gtr,.d (.val (.string a)),.d (.val (.string b))=>K (.b (!(Op.bytesLess a.toList b.toList || a.toList==b.toList)))
 | op,.d (.val (.int k a)),.d (.val (.int F b))=>AS (decide (k=F)) (match op with
  | .add=>∃r,k.wrap (a+b)=r/\K (.d (.val (.int k r)))
  | .sub=>∃r,k.wrap (a-b)=r/\K (.d (.val (.int k r)))
  | .mul=>∃r,k.wrap (a*b)=r/\K (.d (.val (.int k r)))
  | .quo=>b≠0/\∃r,k.wrap (a.tdiv b)=r/\K (.d (.val (.int k r)))
  | .rem=>b≠0/\∃r,a.tmod b=r/\K (.d (.val (.int k r)))
  | .and=>∃r,k.wrap (Xa3 k.bits a &&& Xa3 k.bits b).toNat=r/\K (.d (.val (.int k r)))
  | .or=>∃r,k.wrap (Xa3 k.bits a ||| Xa3 k.bits b).toNat=r/\K (.d (.val (.int k r)))
  | .xor=>∃r,k.wrap (Xa3 k.bits a ^^^ Xa3 k.bits b).toNat=r/\K (.d (.val (.int k r)))
  | .andNot=>∃r,k.wrap (Xa3 k.bits a &&& ~~~Xa3 k.bits b).toNat=r/\K (.d (.val (.int k r)))
  | .eql=>K (.b (a==b))
  | .neq=>K (.b (a !=b))
  | .lss=>K (.b (decide (a<b)))
  | .leq=>K (.b (decide (a<=b)))
  | .gtr=>K (.b (decide (a>b)))
  | .geq=>K (.b (decide (a≥b)))
  | _=>False)
 | .eql,.d x,.d y=>(match Lg T 9 t x y with
  | some b=>K (.b b)
  | none=>False)
 | .neq,.d x,.d y=>(match Lg T 9 t x y with
  | some b=>K (.b (!b))
  | none=>False)
 | _,_,_=>False
def JC (b:I)(A B:Prop):Prop:=match b with
 | true=>A
 | false=>B
def ux (T:TT)(op:BinOp)(t:Nat)(x y:AV)(K:AV->Prop):Prop:=gQ T op t x y K
def gJ (T:TT)(op:BinOp)(t:Nat)(x y:AV)(K:AV->Prop):ux T op t x y K=gQ T op t x y K:=rfl
def unK (op:UnOp)(x:AV)(K:AV->Prop):Prop:=
 match op,x with
 | .not,.d (.val (.bool b))=>K (.b (!b))
 | .neg,.d (.val (.int k a))=>∃r,k.wrap (0-a)=r/\K (.d (.val (.int k r)))
 | _,_=>False
def mM (c a b:AV)(K:AV->Prop):Prop:=
 match c with
 | .d (.val (.bool t))=>(match a,b with
  | .d (.val (.bool x)),.d (.val (.bool y))=>K (.b (cond t x y))
  | a,b=>JC t (a.force K) (b.force K))
 | _=>False
def Oa (T:TT)(t i:Nat)(K:Nat->Nat->Nat->Prop):Prop:=match (T.get t).kind with
 | .struct fs=>(match fs[i]? with
  | some (o,s,F)=>match s with
   | 0=>False
   | s+1=>K o (s+1) F
  | none=>False)
 | _=>False
def OC (T:TT)(t n i k:Nat)(es:O D)(K:AV->Prop):Prop:=n=es.length/\∃x,es.getD i default=x/\Qm x.cells k λF=>(match (T.get t).kind.Cy with
   | some true=>AS (Xeo (T.get t).size F.length) <| O5 F (T.get t).size λl=>K (.d (.agg l))
   | some false=>(match F[0]? with
    | some a=>K (.d a)
    | none=>False)
   | none=>False)
def YS (T:TT)(t:Nat)(a:AV)(ob:O (C OB))(K:AV->Prop):Prop:=
 match a with
 | .ref r H=>Cc ob r λo=>(match o with
  | .box F=>(match (T.get t).kind.Cy with
   | some true=>Qm F H λF=>AS (Xeo (T.get t).size F.length) <| O5 F (T.get t).size λl=>Vz l K
   | some false=>(match F[H]? with
    | some a=>a.force K
    | none=>False)
   | none=>False)
  | _=>False)
 | .DM F=>(match (T.get t).kind.Cy with
   | some true=>AS (Xeo (T.get t).size F.length) <| O5 F (T.get t).size λl=>K (.d (.agg l))
   | some false=>(match F[0]? with
    | some a=>K (.d a)
    | none=>False)
   | none=>False)
 | .Bp r n i k=>Cc ob r λo=>(match o with
  | .row _ sz J fz=>(match fz with
   | .lk M j q m=>OC T t n i k J K\/(n=J.length/\i=M/\k=j/\i<J.length/\j<sz/\(T.get t).kind.Cy=some false/\K (.own q m))
   | _=>OC T t n i k J K)
  | .box F=>(match (T.get t).kind.Cy with
   | some false=>∃a,F[k+i]?=some a/\a.force K
   | _=>False)
  | _=>False)
 | _=>False
def cW (ob:O (C OB))(a:AV)(K:D->W->Prop):Prop:=match a with
 | .d x=>Qw x λx=>K x []
 | .own r n=>Cc ob r λo=>(match o with
  | .row e sz F _=>n=F.length/\K (.Cg sz F) [(r,.row e sz F .Dd)]
  | _=>False)
 | .agg H=>toDs H λl w=>K (.agg l) w
 | _=>False where
 toDs:O AV->(O D->W->Prop)->Prop
  | [],K=>K [] []
  | .d x::H,K=>(match x with
   | .agg _=>False
   | .val v=>toDs H λl w=>K (.val v::l) w
   | .nil sz=>toDs H λl w=>K (.Cg sz []::l) w
   | .Cg sz F=>toDs H λl w=>K (.Cg sz F::l) w)
  | .own r n::H,K=>Cc ob r λo=>(match o with
   | .row e sz F _=>n=F.length/\toDs H λl w=>K (.Cg sz F::l) ((r,.row e sz F .Dd)::w)
   | _=>False)
  | .fn f J::H,K=>(match J with
   | []=>toDs H λl w=>K (.val (.func (.func f) #[] #[])::l) w
   | _=>False)
  | _::_,_=>False
def HF (y:D)(k:Nat)(x:D)(K:D->Prop):Prop:=Qw x λx=>OT y.cells k x.cells λF=>match y with
 | .agg _=>K (.agg F)
 | _=>match F with
  | [z]=>AS (!z.isAgg) (K z)
  | _=>False
def Ug (T:TT)(t:Nat)(a x:AV)(ob:O (C OB))(K:AV->W->Prop):Prop:=
 AS (A7 T t) <| match a with
 | .ref r F=>Cc ob r λo=>(match o with
  | .box Q=>Nn x λvs=>AS (Xal vs.length (T.get t).size) <| OT Q F vs λH=>K .dead [(r,.box H)]
  | _=>False)
 | .Bp r n i k=>Cc ob r λo=>(match o with
  | .row e sz J M=>n=J.length/\M.free=true/\(match x with
   | .d x=>AS (Xal x.cells.length (T.get t).size) <|∃y,J.getD i default=y/\HF y k x λz=>∃P,J.set i z=P/\K .dead [(r,.row e sz P .no)]
   | _=>False)
  | _=>False)
 | _=>False
def HL (T:TT)(t r n i k q m:Nat)(ob:O (C OB))(K:AV->W->Prop):Prop:=
 AS (A7 T t) <| cW ob (.own q m) λd w=>AS (w.all λq=>!Nat.beq q.1 r) <| Cc ob r λo=>(match o with
  | .row e sz F H=>n=F.length/\H.frozen=false/\(AS (Xal d.cells.length (T.get t).size) <|∃y,F.getD i default=y/\HF y k d λz=>∃J,F.set i z=J/\K .dead (w++[(r,.row e sz J (.lk i k q m))]))
  | _=>False)
def HE (T:TT)(t r n i k:Nat)(x:AV)(ob:O (C OB))(K:AV->W->Prop):Prop:=
 AS (A7 T t) <| cW ob x λd w=>AS (w.all λq=>!Nat.beq q.1 r) <| Cc ob r λo=>(match o with
  | .row e sz F H=>n=F.length/\H.free=true/\(AS (Xal d.cells.length (T.get t).size) <|∃y,F.getD i default=y/\HF y k d λz=>∃J,F.set i z=J/\K .dead (w++[(r,.row e sz J .no)]))
  | _=>False)
def P5 (T:TT)(t:Nat)(a x:AV)(ob:O (C OB))(K:AV->W->Prop):Prop:=match a,x with
 | .Bp r n i k,.own q m=>HL T t r n i k q m ob K
 | .Bp r n i k,.agg F=>HE T t r n i k (.agg F) ob K
 | a,x=>Ug T t a x ob K
def W4 {T:TT}{t:Nat}{a x:AV}{ob:O (C OB)}{K:AV->W->Prop}(h:P5 T t a x ob K) : (∃r n i k q m,a=.Bp r n i k/\x=.own q m/\HL T t r n i k q m ob K)\/(∃r n i k M,a=.Bp r n i k/\x=.agg M/\HE T t r n i k (.agg M) ob K) \/ (Ug T t a x ob K/\∀ob' (F:AV->W->Prop),Ug T t a x ob' F->P5 T t a x ob' F):=by
 unfold P5 at h;split at h
 ·exact .inl ⟨_,_,_,_,_,_,rfl,rfl,h⟩
 ·exact .inr (.inl ⟨_,_,_,_,_,rfl,rfl,h⟩)
 rename_i H J;refine .inr (.inr ⟨h,λob' F P=>?_⟩);unfold P5;split
 ·exact absurd rfl (H _ _ _ _ _ _ rfl)
 ·exact absurd rfl (J _ _ _ _ _ rfl)
 exact P
def LJ (T:TT)(t:Nat)(F:O (Nat×AV))(K:AV->Prop):Prop:=
 match (T.get t).kind with
 | .struct fs=>go (λi=>match fs[i]? with
  | some (o,s,_)=>some (o,s)
  | none=>none) F ((T.get t).zero.map .d) λJ=>Vz J K
 | .arr n e=>AS (A7 T e) <| go (λi=>match Xcu i n with
  | true=>some (i*(T.get e).size,(T.get e).size)
  | false=>none) F ((T.get t).zero.map .d) λJ=>Vz J K
 | _=>False where
 go (H:Nat->C (Nat×Nat)):O (Nat×AV)->O AV->(O AV->Prop)->Prop
  | [],J,K=>K J
  | (i,v)::rest,J,K=>match H i with
   | some (off,size)=>Nn v λvs=>AS (Xal vs.length size) <| OT J off vs λM=>go H rest M K
   | none=>False
def Du (o:C AV)(F:Int)(K:Int->Prop):Prop:=match o with
 | none=>K F
 | some (.d (.val (.int _ i)))=>K i
 | _=>False
def Uj (sz:Nat)(d:D)(lo J:C AV)(K:AV->Prop):Prop:=match d with
 | .Cg F H=>AS (Xal F sz) <| Du lo 0 λl=>Du J H.length λh=>(0<=l/\l<=h/\h<=H.length)/\∃ys,(H.drop l.toNat).take (h.toNat-l.toNat)=ys/\K (.d (.Cg F ys))
 | _=>False
def Pn (T:TT)(e:Nat)(x:AV)(lo F:C AV)(ob:O (C OB))(K:AV->W->Prop):Prop:=
 AS (A7 T e) <| cW ob x λd w=>Uj (T.get e).size d lo F λv=>K v w
def cY (T:TT)(e r n:Nat)(lo H:C AV)(ob:O (C OB))(K:AV->W->Prop):Prop:=
 AS (A7 T e) <| Cc ob r λo=>match o with
  | .row _ sz F _=>AS (Xal sz (T.get e).size) <| Du lo 0 λl=>Du H F.length λh=>(0<=l/\l<=h/\h<=F.length)/\n=F.length/\∃a k,l.toNat=a/\h.toNat-l.toNat=k/\K (.Fc r a k n) []
  | _=>False
def UI (T:TT)(e self r n:Nat)(lo M mx:C AV)(ob:O (C OB))(K:AV->W->Prop):Prop:=
 Ms ob self <| AS (A7 T e) <| Cc ob r λo=>match o with
  | .row P sz F H=>AS (Xal sz (T.get e).size&&H.free) <| Du lo 0 λl=>Du M F.length λh=>Du mx h λm=>(0<=l/\l<=h/\h<=m/\m<=F.length)/\n=F.length/\
    ∃J,(F.drop l.toNat).take (h.toNat-l.toNat)=J/\K (.own self J.length) [(r,.gone),(self,.row P sz J .no)]
  | _=>False
def Ww (T:TT)(t self:Nat)(x:AV)(lo F mx:C AV)(ob:O (C OB))(K:AV->W->Prop):Prop:=match (T.get t).kind with
 | .slice e=>(match x with
  | .own r n=>(match F with
   | some h=>UI T e self r n lo (some h) mx ob K
   | none=>False)
  | _=>False)
 | _=>False
def bM (T:TT)(t self:Nat)(x:AV)(lo F:C AV)(ob:O (C OB))(K:AV->W->Prop):Prop:=match (T.get t).kind with
 | .slice e=>(match x with
  | .own r n=>Pn T e (.own r n) lo F ob K\/cY T e r n lo F ob K\/UI T e self r n lo F none ob K
  | .d (.nil sz)=>Pn T e (.d (.nil sz)) lo F ob K\/(AS (A7 T e) <| Du lo 0 λl=>Du F 0 λh=>(l=0/\h=0)/\K (.d (.nil sz)) [])
  | x=>Pn T e x lo F ob K)
 | .str=>(match x with
  | .d (.val (.string s))=>Du lo 0 λl=>Du F s.size λh=>(0<=l/\l<=h/\h<=s.size)/\K (.s (s.extract l.toNat h.toNat)) []
  | _=>False)
 | _=>False
def iq (T:TT)(t self:Nat)(n c:AV)(ob:O (C OB))(K:AV->W->Prop):Prop:=match (T.get t).kind,n,c with
 | .slice e,.d (.val (.int .i64 n)),.d (.val (.int .i64 c))=>Ms ob self <| AS (A7 T e&&Xcu 0 (T.get e).size&&(match (T.get e).kind.Cy with|some true=>true|_=>Xal (T.get e).size 1)) <| (0<=n/\n<=c/\c<=1048576/\(T.get e).bytes<=65536)/\
   ∃z,(match (T.get e).kind.Cy with
    | some true=>D.agg (T.get e).zero
    | _=>(T.get e).zero.headD default).norm=z/\∃F,Xaa n.toNat z=F/\K (.own self F.length) [(self,.row e (T.get e).size F .no)]
 | _,_,_=>False
def iG (T:TT)(t u self:Nat)(x n:AV)(ob:O (C OB))(K:AV->W->Prop):Prop:=match (T.get t).kind,(T.get u).kind,x,n with
 | .slice e,.int .i64,.d (.nil _),.d (.val (.int .i64 n))=>Ms ob self <| AS (A7 T u&&A7 T e&&Xcu 0 (T.get e).size&&(match (T.get e).kind.Cy with|some true=>true|_=>Xal (T.get e).size 1)) <| (0<n/\n<=1048576/\(T.get e).bytes<=65536)/\
   ∃z,(match (T.get e).kind.Cy with
    | some true=>D.agg (T.get e).zero
    | _=>(T.get e).zero.headD default).norm=z/\∃F,Xaa n.toNat z=F/\K (.own self F.length) [(self,.row e (T.get e).size F .no)]
 | _,_,_,_=>False
def ri (T:TT)(t:Nat)(x:AV)(K:AV->Prop):Prop:=match (T.get t).kind,x with
 | .slice _,.d (.nil _)=>K (.i 0)
 | _,_=>False
def Cf:TK->D->D->C I
 | .int _,.val (.int k a),.val (.int F b)=>if k=F then some (a==b) else none
 | .str,.val (.string a),.val (.string b)=>some (a==b)
 | .bool,.val (.bool a),.val (.bool b)=>some (a==b)
 | _,_,_=>none
def BG (tk:TK)(x:D):O (D×D)->C (C D)
 | []=>some none
 | p::l=>match Cf tk x p.1 with
  | some true=>some (some p.2)
  | some false=>BG tk x l
  | none=>none
def FA (tk:TK)(x v:D):O (D×D)->C (O (D×D))
 | []=>some [(x,v)]
 | p::l=>match Cf tk x p.1 with
  | some true=>some ((x,v)::l)
  | some false=>(FA tk x v l).map (p::·)
  | none=>none
def Oe (T:TT)(e:Nat):D:=(match (T.get e).kind.Cy with
 | some true=>D.agg (T.get e).zero
 | _=>(T.get e).zero.headD default).norm
def JX:TK->A->I
 | .int k,.int F _=>decide (F=k)
 | .str,.string _=>true
 | .bool,.bool _=>true
 | _,_=>false
def JR:TK->I
 | .int _|.str|.bool=>true
 | _=>false
def UB (T:TT)(e:Nat):I:=match (T.get e).kind.Cy with
 | some true=>true
 | _=>Xal (T.get e).size 1
def fG (T:TT)(t u r k:Nat)(n:AV)(ob:O (C OB))(K:AV->W->Prop):Prop:=match (T.get t).kind,(T.get u).kind,n with
 | .slice e,.int .i64,.d (.val (.int .i64 n))=>Cc ob r λo=>(match o with
  | .row M sz F H=>AS (Xal M e&&Xal sz (T.get e).size&&H.free&&A7 T u&&A7 T e&&UB T e) <|
    (k=F.length/\0<=n/\n<=1048576/\(T.get e).bytes<=65536/\(F.length+n.toNat)*(T.get e).bytes<=2^47/\F.length+n.toNat<=2^47)/\
     ∃z,Oe T e=z/\∃J,F++Xaa n.toNat z=J/\K (.own r J.length) [(r,.row M sz J .no)]
  | _=>False)
 | _,_,_=>False
def gW (T:TT)(t u self:Nat)(x n:AV)(ob:O (C OB))(K:AV->W->Prop):Prop:=match x with
 | .own r k=>fG T t u r k n ob K
 | .d d=>iG T t u self (.d d) n ob K
 | _=>False
def Ub (T:TT)(e:Nat):I:=match (T.get e).kind,(T.get e).zero with
 | .slice _,[.nil _]=>true
 | _,_=>false
def fE (T:TT)(t:Nat)(x key:AV)(ok:I)(ob:O (C OB))(K:AV->Prop):Prop:=match (T.get t).kind,x,key with
 | .map k e,.mp r,.d (.val F)=>AS (JX (T.get k).kind F&&JR (T.get k).kind&&A7 T k&&A7 T e&&Xcu 0 (T.get e).size&&UB T e) <| Cc ob r λo=>(match o with
  | .map _ _ H=>∃q,BG (T.get k).kind (.val F) H=some q/\∃v,q.getD (Oe T e)=v/\∃b,q.isSome=b/\K (match ok with
   | true=>.Ca [.d v,.b b]
   | false=>.d v)
  | .zj _ _ H J M P=>(∃q,BG (T.get k).kind (.val F) H=some q/\∃v,q.getD (Oe T e)=v/\∃b,q.isSome=b/\K (match ok with
   | true=>.Ca [.d v,.b b]
   | false=>.d v))\/(F=J/\ok=false/\(∃q,BG (T.get k).kind (.val F) H=some q)/\Ub T e=true/\K (.own M P))
  | _=>False)
 | _,_,_=>False
def iU (T:TT)(G:Nat->C (O (D×D)))(t:Nat)(a:AV)(ob:O (C OB))(K:AV->Prop):Prop:=match a with
 | .gl g=>(match (T.get t).kind,G g with
  | .map _ _,some _=>K (.gv g)
  | _,_=>False)
 | a=>YS T t a ob K
def pi (T:TT)(G:Nat->C (O (D×D)))(t g:Nat)(key:AV)(ok:I)(K:AV->Prop):Prop:=match (T.get t).kind,G g,key with
 | .map k e,some es,.d (.val F)=>AS (JX (T.get k).kind F&&JR (T.get k).kind&&A7 T k&&A7 T e&&Xcu 0 (T.get e).size&&UB T e) <|
   ∃q,BG (T.get k).kind (.val F) es=some q/\∃v,q.getD (Oe T e)=v/\∃b,q.isSome=b/\K (match ok with
   | true=>.Ca [.d v,.b b]
   | false=>.d v)
 | _,_,_=>False
def gR (T:TT)(G:Nat->C (O (D×D)))(t:Nat)(x key:AV)(ok:I)(ob:O (C OB))(K:AV->Prop):Prop:=match x with
 | .gv g=>pi T G t g key ok K
 | x=>fE T t x key ok ob K
def MX (T:TT)(t:Nat)(x key v:AV)(ob:O (C OB))(K:AV->W->Prop):Prop:=match (T.get t).kind,x,key with
 | .map k _,.mp r,.d (.val H)=>AS (JX (T.get k).kind H&&JR (T.get k).kind&&A7 T k) <| cW ob v λd w=>AS (w.all λq=>!Nat.beq q.1 r) <| Cc ob r λo=>(match o with
  | .map J M P=>∃F,FA (T.get k).kind (.val H) d P=some F/\K .dead (w++[(r,.map J M F)])
  | .zj J M P _ _ _=>∃F,FA (T.get k).kind (.val H) d P=some F/\K .dead (w++[(r,.map J M F)])
  | _=>False)
 | _,_,_=>False
def PM (T:TT)(t:Nat)(x key:AV)(J n:Nat)(ob:O (C OB))(K:AV->W->Prop):Prop:=match (T.get t).kind,x,key with
 | .map k _,.mp r,.d (.val F)=>AS (JX (T.get k).kind F&&JR (T.get k).kind&&A7 T k) <| cW ob (.own J n) λd w=>AS (w.all λq=>!Nat.beq q.1 r) <| Cc ob r λo=>(match o with
  | .map M P Q=>∃H,FA (T.get k).kind (.val F) d Q=some H/\K .dead (w++[(r,.zj M P H F J n)])
  | .zj M P Q _ _ _=>∃H,FA (T.get k).kind (.val F) d Q=some H/\K .dead (w++[(r,.zj M P H F J n)])
  | _=>False)
 | _,_,_=>False
def OU (T:TT)(t:Nat)(x key v:AV)(ob:O (C OB))(K:AV->W->Prop):Prop:=match v with
 | .own r n=>MX T t x key (.own r n) ob K\/PM T t x key r n ob K
 | v=>MX T t x key v ob K
def Eg (T:TT)(t len self:Nat)(F:O (Nat×AV))(ob:O (C OB))(K:AV->W->Prop):Prop:=
 match (T.get t).kind with
 | .slice e=>Ms ob self <| AS (Xcu 0 (T.get e).size&&Xeo (len*(T.get e).size) 16777216) <| AS (A7 T e) <|
  elems (T.get e).size 0 F λH w=>AS (Xal H.length len) <| K (.own self len) (w++[(self,.row e (T.get e).size H .no)])
 | _=>False where
 elems (sz:Nat):Nat->O (Nat×AV)->(O D->W->Prop)->Prop
  | _,[],K=>K [] []
  | i,(j,v)::rest,K=>match Xal i j with
   | true=>cW ob v λx w=>AS (Xal x.cells.length sz) <| elems sz (i+1) rest λl w'=>K (x::l) (w++w')
   | false=>False
def T6 (T:TT)(t:Nat):I:=match (T.get t).kind.Cy with
 | some true=>true
 | _=>false
def MN (T:TT)(t len self:Nat)(F:O AV)(ob:O (C OB))(K:AV->W->Prop):Prop:=
 match (T.get t).kind with
 | .slice e=>Ms ob self <| AS (Xal len 1&&T6 T e&&Xal (T.get e).size F.length&&Xcu 0 (T.get e).size&&Xeo (T.get e).size 65536) <| K (.own self 1) [(self,.box F)]
 | _=>False
def KC (T:TT)(t len self:Nat)(F:O AV)(ob:O (C OB))(K:AV->W->Prop):Prop:=
 match (T.get t).kind with
 | .slice e=>Ms ob self <| AS (Xal len 1&&Xal F.length (T.get e).size&&Xcu 0 (T.get e).size&&Xeo (T.get e).size 65536&&A7 T e) <|
   ∃j q m,F[j]?=some (.own q m)/\cW ob (.agg F) λd w=>AS (w.all λq=>!Nat.beq q.1 self) <| K (.own self 1) (w++[(self,.row e (T.get e).size [d] (.lk 0 j q m))])
 | _=>False
def JU (T:TT)(t len self:Nat)(F:O (Nat×AV))(ob:O (C OB))(K:AV->W->Prop):Prop:=match F with
 | [(0,.agg H)]=>Eg T t len self [(0,.agg H)] ob K\/MN T t len self H ob K\/KC T t len self H ob K
 | F=>Eg T t len self F ob K
def Yo (ob:O (C OB))(y:AV)(K:Nat->O D->Prop):Prop:=match y with
 | .d (.Cg sz F)=>K sz F
 | .d (.nil sz)=>K sz []
 | .own r n=>Cc ob r λo=>(match o with
  | .row _ sz F _=>n=F.length/\K sz F
  | _=>False)
 | _=>False
def Xk (ob:O (C OB))(y:AV)(K:Nat->O D->Prop):Prop:=match y with
 | .Fc r a n m=>Cc ob r λo=>(match o with
  | .row _ sz F _=>m=F.length/\∃H,(F.drop a).take n=H/\K sz H
  | _=>False)
 | y=>Yo ob y K
def lK (ob:O (C OB))(y:AV)(k sz:Nat)(frz:FZ)(K:FZ->Prop):Prop:=match frz with
 | .Dd=>K .Dd
 | _=>(match y with
  | .own q n=>(match ob.getD q none with
   | some (.row _ F ys (.lk i j H m))=>(match Xal F sz with
    | true=>n=ys.length/\K (.lk (k+i) j H m)
    | false=>K .no)
   | _=>K .no)
  | _=>K .no)
def Rz (T:TT)(st:Nat)(self:Nat)(x y:AV)(ob:O (C OB))(K:AV->W->Prop):Prop:=
 match (T.get st).kind with
 | .slice e=>Xk ob y λH ys=>(match x with
  | .d (.nil _)=>Ms ob self <| AS (Xal H (T.get e).size&&Xcu 0 (T.get e).size) <| AS (A7 T e) <| (ys.length*(T.get e).bytes<=2^47/\ys.length<=2^47)/\
    K (.own self ys.length) [(self,.row e (T.get e).size ys .no)]
  | .own r n=>Cc ob r λo=>(match o with
   | .row P sz F J=>AS (Xal P e&&Xal H sz&&Xal sz (T.get e).size&&Xcu 0 sz) <| AS (A7 T e) <| n=F.length/\((F.length+ys.length)*(T.get e).bytes<=2^47/\F.length+ys.length<=2^47)/\
     ∃M,F++ys=M/\lK ob y F.length sz J λf=>K (.own r M.length) [(r,.row P sz M f)]
   | _=>False)
  | .Fc r a n m=>Cc ob r λo=>(match o with
   | .row P sz F J=>AS (Xal P e&&Xal H sz&&Xal sz (T.get e).size&&Xcu 0 sz&&J.free) <| AS (A7 T e) <| Ms ob self <| a=0/\m=F.length/\n<=F.length/\((n+ys.length)*(T.get e).bytes<=2^47/\n+ys.length<=2^47)/\
     ∃M,F.take n++ys=M/\K (.own self M.length) [(r,.gone),(self,.row P sz M .no)]
   | _=>False)
  | _=>False)
 | _=>False
def pA (T:TT)(t:Nat)(x:AV)(K:AV->Prop):Prop:=
 match (T.get t).kind,x with
 | .slice _,.d (.Cg _ es)=>∃n:Nat,es.length=n/\K (.i n)
 | .slice _,.d (.nil _)=>K (.i 0)
 | .slice _,.own _ n=>∃m:Nat,n=m/\K (.i m)
 | .slice _,.Fc _ _ n _=>∃m:Nat,n=m/\K (.i m)
 | .str,.d (.val (.string s))=>K (.i s.size)
 | .arr n _,_=>K (.i n)
 | _,_=>False
def JM (T:TT)(t:Nat)(x y:AV)(ob:O (C OB))(K:AV->Prop):Prop:=
 match y with
 | .d (.val (.int _ i))=>(match (T.get t).kind,x with
  | .slice e,.d (.Cg sz F)=>AS (A7 T e) <| AS (Xal sz (T.get e).size) <| (0<=i/\i<F.length)/\∃v,F.getD i.toNat default=v/\v.cells.length=sz/\K (.DM v.cells)
  | .slice e,.own r n=>Cc ob r λo=>(match o with
   | .row _ sz F _=>AS (A7 T e) <| AS (Xal sz (T.get e).size) <| n=F.length/\(0<=i/\i<F.length)/\K (.Bp r n i.toNat 0)
   | .box H=>AS (A7 T e) <| AS (Xal H.length (T.get e).size) <| i=0/\K (.ref r 0)
   | _=>False)
  | .arr n e,.ref r off=>AS (A7 T e) <| AS (Xeo 2 n) <| ((0<=i/\i<n)/\K (.ref r (off+i.toNat*(T.get e).size))) \/
    AS (Xal (T.get e).size 1) ((0<=i/\i<n)/\∃j,i.toNat=j/\K (.Bp r n j off))
  | _,_=>False)
 | _=>False
def KQ (T:TT)(t r a n m:Nat)(y:AV)(ob:O (C OB))(K:AV->Prop):Prop:=
 match y with
 | .d (.val (.int _ i))=>(match (T.get t).kind with
  | .slice e=>Cc ob r λo=>(match o with
   | .row _ sz F _=>AS (A7 T e) <| AS (Xal sz (T.get e).size) <| m=F.length/\(0<=i/\i<n)/\∃j,a+i.toNat=j/\K (.Bp r m j 0)
   | _=>False)
  | _=>False)
 | _=>False
def KY (T:TT)(t:Nat)(x y:AV)(ob:O (C OB))(K:AV->Prop):Prop:=match x with
 | .Fc r a n m=>KQ T t r a n m y ob K
 | x=>JM T t x y ob K
def fZ (T:TT)(t:Nat)(F:O AV)(off:Nat)(K:AV->Prop):Prop:=
 match (T.get t).kind.Cy with
 | some true=>Qm F off λF=>AS (Xeo (T.get t).size F.length) <| O5 F (T.get t).size λl=>Vz l K
 | some false=>(match F[off]? with
  | some a=>a.force K
  | none=>False)
 | none=>False
def Jy (x:AV)(K:O AV->Prop):Prop:=match x with
 | .d (.agg F)=>Ru (λc K=>K (.d c)) F K
 | .agg F=>K F
 | _=>False
def Wp (T:TT)(t:Nat)(x y:AV)(K:AV->Prop):Prop:=
 match y with
 | .d (.val (.int _ i))=>(match (T.get t).kind,x with
  | .str,.d (.val (.string s))=>(0<=i/\i<s.size)/\∃c,s.toList.getD i.toNat 0=c/\K (.u c.toNat)
  | .arr n e,x=>Jy x λF=>(0<=i/\i<n)/\(match (T.get e).kind.Cy with
   | some false=>∃a,F[i.toNat*(T.get e).size]?=some a/\a.force K
   | _=>False)
  | _,_=>False)
 | _=>False
def XC (T:TT)(t i:Nat)(x:AV)(K:AV->Prop):Prop:=
 match (T.get t).kind with
 | .struct fs=>(match fs[i]? with
  | some (o,_,F)=>Jy x λH=>fZ T F H o K
  | none=>False)
 | _=>False
def iu (T:TT)(F dst:Nat)(x:AV)(ob:O (C OB))(K:AV->Prop):Prop:=
 AS (T.get F).kind.Cy.isSome <| match (T.get dst).kind,x with
 | .int k,.d (.val (.int _ n))=>∃r,k.wrap n=r/\K (.d (.val (.int k r)))
 | .str,.d (.val (.string s))=>K (.s s)
 | .str,x=>(match (T.get F).kind with
  | .slice e=>(match (T.get e).kind with
   | .int .u8=>AS (Xal (T.get e).size 1) <| Xk ob x λsz H=>AS (Xal sz 1) <|∃l:O S,H=l.map (λc=>.u c.toNat)/\K (.s ⟨l.toArray⟩)
   | _=>False)
  | _=>False)
 | _,_=>False
def isNil:AV->I
 | .d (.val (.slice Xan 0 0))=>true
 | _=>false
def Zw (T:TT)(ty self:Nat)(x:AV)(ob:O (C OB))(K:AV->W->Prop):Prop:=
 match isNil x with
 | true=>(match (T.get ty).kind with
  | .slice e=>(match ob[self]? with
   | some none=>AS (Xcu 0 (T.get e).size) <| K (.own self 0) [(self,.row e (T.get e).size [] .no)]
   | _=>K (.d (.nil (T.get e).size)) [])
  | _=>False)
 | false=>x.force λx=>K x []
def Lq (zV:I)(ob:O (C OB))(a:AV)(ρ:O Nat)(K:AV->O Nat->W->Prop):Prop:=match a with
 | .d x=>(match zV,x with
  | true,.nil sz=>K (.d (.nil sz)) ρ []
  | _,x=>Qw x λx=>K (.d x) ρ [])
 | .own r n=>(match zV with
  | true=>refK r ρ λi ρ=>K (.own i n) ρ []
  | false=>cW ob (.own r n) λx w=>K (.d x) ρ w)
 | .agg J=>cW ob (.agg J) λx w=>K (.d x) ρ w
 | .ref r M=>refK r ρ λi ρ=>K (.ref i M) ρ []
 | .mp r=>refK r ρ λi ρ=>K (.mp i) ρ []
 | .it f r=>refK r ρ λi ρ=>K (.it f i) ρ []
 | .DM J=>K (.DM J) ρ []
 | .fn f H=>capsK H ρ λH ρ=>K (.fn f H) ρ []
 | _=>False where
 refK (r:Nat) (ρ:O Nat) (K:Nat->O Nat->Prop):Prop:=go r ρ 0 (λi=>K i ρ) (λn=>K n (ρ++[r]))
 go (r:Nat):O Nat->Nat->(Nat->Prop)->(Nat->Prop)->Prop
  | [],n,_,N=>N n
  | x::ρ,n,F,N=>match Xal x r with
   | true=>F n
   | false=>go r ρ (n+1) F N
 capsK:O AV->O Nat->(O AV->O Nat->Prop)->Prop
  | [],ρ,K=>K [] ρ
  | .ref r M::J,ρ,K=>refK r ρ λi ρ=>capsK J ρ λJ ρ=>K (.ref i M::J) ρ
  | _::_,_,_=>False
def Tu (zV:O I)(ob:O (C OB)):O AV->O Nat->(O AV->O Nat->W->Prop)->Prop
 | [],F,K=>K [] F []
 | a::J,F,K=>Lq (zV.headD false) ob a F λM F w=>Tu zV.tail ob J F λH F w'=>K (M::H) F (w++w')
def IR (ob:O (C OB)):O Nat->(O OB->Prop)->Prop
 | [],K=>K []
 | r::H,K=>Cc ob r λo=>match o with
  | .box J=>cellsD J λM=>IR ob H λl=>K (.box M::l)
  | .row e sz P F=>AS (!F.linked) <| IR ob H λl=>K (.row e sz P F::l)
  | .map k e P=>IR ob H λl=>K (.map k e P::l)
  | .zj ..=>False
  | .gone=>False where
 cellsD:O AV->(O AV->Prop)->Prop
  | [],K=>K []
  | .d x::J,K=>cellsD J λl=>K (.d x::l)
  | _::_,_=>False
def N9 (ρ:O Nat)(self:Nat)(a:AV)(K:AV->Prop):Prop:=match a with
 | .d x=>K (.d x)
 | .ref i F=>K (.ref (ρ.getD i self) F)
 | .own i n=>K (.own (ρ.getD i self) n)
 | .mp i=>K (.mp (ρ.getD i self))
 | .it f i=>K (.it f (ρ.getD i self))
 | .Ca vs=>renTup ρ self vs λl=>K (.Ca l)
 | .agg vs=>renTup ρ self vs λl=>K (.agg l)
 | _=>False where
 renTup (ρ:O Nat) (self:Nat):O AV->(O AV->Prop)->Prop
  | [],K=>K []
  | .d x::l,K=>renTup ρ self l λH=>K (.d x::H)
  | .ref i F::l,K=>renTup ρ self l λH=>K (.ref (ρ.getD i self) F::H)
  | .own i n::l,K=>renTup ρ self l λH=>K (.own (ρ.getD i self) n::H)
  | _::_,_=>False
def A9:OB->I
 | .box F=>F.all λ| .d _=>true|_=>false
 | .row _ _ _ f=>!f.linked
 | .map _ _ _=>true
 | .zj ..=>false
 | .gone=>true
def Ky (ρ:O Nat)(self:Nat)(gM:O OB)(K:W->Prop):Prop:=match ρ,gM with
 | [],[]=>K []
 | [],[o]=>match A9 o with
  | true=>K [(self,o)]
  | false=>False
 | r::ρ,o::os=>match A9 o with
  | true=>Ky ρ self os λw=>K ((r,o)::w)
  | false=>False
 | _,_=>False
def L6 (cx:Cx)(f:Xdy)(self:Nat)(args:O AV)(ob:O (Option OB))(K:AV->W->Prop):Prop:=
 Tu (cx.zV f) ob args [] λH J w=>AS (apartW w J) <| IR ob J λgM=>
  ∃M F,cx.C f H gM M F/\(F.length=J.length\/ob[self]?=some none)/\
   N9 J self M λP=>Ky J self F λw'=>K P (w++w') where
 apartW (w:W) (J:O Nat):I:=w.all λx=>J.all λr=>match Xal r x.1 with
  | true=>false
  | false=>true
def YN (cx:Cx)(f:Xdy)(self:Nat)(args:O AV)(ob:O (C OB))(K:AV->W->Prop):Prop:=L6 cx f self args ob K
def ZO (cx:Cx)(f:Xdy)(self:Nat)(args:O AV)(ob:O (C OB))(K:AV->W->Prop):YN cx f self args ob K=L6 cx f self args ob K:=rfl
def Vt:O Nat->O OB->(W->Prop)->Prop
 | [],[],K=>K []
 | r::F,o::os,K=>(match A9 o with
  | true=>Vt F os λw=>K ((r,o)::w)
  | false=>False)
 | _,_,_=>False
def OJ:O Nat->Nat->I
 | [],_=>false
 | x::l,r=>Xal r x || OJ l r
def UE:O Nat->I
 | []=>true
 | x::l=>!OJ l x&&UE l
def nV (ob:O (C OB))(F:O Nat):I:=UE F&&F.all λr=>match ob[r]? with
 | some none=>true
 | _=>false
def Qy:D->I
 | .val _=>true
 | .agg F=>F.all λ| .val _=>true|_=>false
 | _=>false
def fU:AV->I
 | .d x=>Qy x
 | .Ca vs=>vs.all λ| .d x=>Qy x|_=>false
 | _=>false
def nI (cx:Cx)(f:Xdy)(args:O AV)(ob:O (Option OB))(K:AV->W->Prop):Prop:=
 Tu (cx.zV f) ob args [] λM P w=>AS (L6.apartW w P) <| IR ob P λgM=>
  ∃(J:AV) (F:O OB) (b:Option (O Nat)),cx.C f M gM J F/\(match b with
   | some H=>AS (nV ob H) <| N9 (P++H) 0 J λQ=>Vt (P++H) F λw'=>K Q (w++w')
   | none=>AS (P.isEmpty&&F.isEmpty&&fU J) (K J []))
def Xf (T:TT)(t r a n m:Nat)(ob:O (C OB))(K:AV->W->Prop):Prop:=match (T.get t).kind with
 | .slice e=>Cc ob r λo=>(match o with
  | .row M sz F H=>AS (A7 T e&&Xal sz (T.get e).size&&H.free&&UB T e) <| m=F.length/\∃z,Oe T e=z/\∃J,F.take a++Xaa n z++F.drop (a+n)=J/\K (.Ca []) [(r,.row M sz J .no)]
  | _=>False)
 | _=>False
def ZK (T:TT)(e r a n m F:Nat)(ys:O D)(ob:O (C OB))(K:AV->W->Prop):Prop:=Cc ob r λo=>(match o with
  | .row P sz H J=>AS (A7 T e&&Xal sz (T.get e).size&&Xal F sz&&J.free) <| m=H.length/\∃M,H.take a++ys.take n++H.drop (a+min ys.length n)=M/\∃k:Nat,min ys.length n=k/\K (.i k) [(r,.row P sz M .no)]
  | _=>False)
def iJ (T:TT)(t:Nat)(x y:AV)(ob:O (C OB))(K:AV->W->Prop):Prop:=match (T.get t).kind with
 | .slice e=>Xk ob y λF ys=>(match x with
  | .own r n=>ZK T e r 0 n n F ys ob K
  | .Fc r a n m=>ZK T e r a n m F ys ob K
  | _=>False)
 | _=>False
def sc (args:O AV)(K:AV->Prop):Prop:=match args with
 | [.d (.val (.int k x)),.d (.val (.int _ y))]=>∃r,(if y>x then y else x)=r/\K (.d (.val (.int k r)))
 | _=>False
def rZ (args:O AV)(K:AV->Prop):Prop:=match args with
 | [.d (.val (.int k x)),.d (.val (.int _ y))]=>∃r,(if y<x then y else x)=r/\K (.d (.val (.int k r)))
 | _=>False
def H5 (T:TT)(t:Nat)(a:AV):AV:=match isNil a with
 | true=>(match (T.get t).kind with
  | .slice e=>.d (.nil (T.get e).size)
  | _=>a)
 | false=>a
def Gx (T:TT)(av:Xbq->AV):O Xbq->O Nat->O AV
 | x::xs,t::F=>H5 T t (av x)::Gx T av xs F
 | xs,_=>xs.map av
def fnK (a:AV)(K:Xdy->O AV->Prop):Prop:=match a with
 | .fn f F=>K f F
 | .d (.val (.func (.func f) p q))=>(match p.toList,q.toList with
  | [],[]=>K f []
  | _,_=>False)
 | _=>False
def Xw {a:AV}{K:Xdy->O AV->Prop}(h:fnK a K) :∃f F,K f F/\(a=.fn f F\/(a=.d (.val (.func (.func f) #[] #[]))/\F=[])):=by
 unfold fnK at h;split at h
 ·exact⟨_,_,h,.inl rfl⟩
 ·rename_i f p q;split at h
  ·rename_i H J;have H:p=#[]:=by cases p;simp_all
   have J:q=#[]:=by cases q;simp_all
   subst H J;exact⟨_,_,h,.inr ⟨rfl,rfl⟩⟩
  exact h.elim
 exact h.elim
def BT (cx:Cx)(o:z)(av:Xbq->AV)(ob:O (C OB))(K:AV->W->Prop):Prop:=
 match o.op with
 | .move x|.assign x=>(match x with
  | .const v=>Zw cx.T o.type (cx.np+o.dst.getD 0) (av (.const v)) ob K
  | x=>(av x).force λv=>K v [])
 | .pick c a b=>mM (av c) (av a) (av b) λv=>K v []
 | .alloc t=>AS (A7 cx.T t) <| Ms ob (cx.np+o.dst.getD 0) <| K (.ref (cx.np+o.dst.getD 0) 0) [(cx.np+o.dst.getD 0,.box ((cx.T.get t).zero.map .d))]
 | .box t x=>Ms ob (cx.np+o.dst.getD 0) <| Nn (av x) λM=>AS (Xal M.length (cx.T.get t).size) <| K (.ref (cx.np+o.dst.getD 0) 0) [(cx.np+o.dst.getD 0,.box M)]
 | .build t H=>LJ cx.T t (H.toList.map λ(i,x)=>(i,av x)) λv=>K v []
 | .buildSlice t len H=>JU cx.T t len (cx.np+o.dst.getD 0) (H.toList.map λ(i,x)=>(i,av x)) ob K
 | .load t x=>iU cx.T cx.G t (av x) ob λv=>K v []
 | .store t a x=>P5 cx.T t (av a) (H5 cx.T t (av x)) ob K
 | .nilCheck x=>(match av x with
  | .ref r J=>K (.ref r J) []
  | .DM M=>K (.DM M) []
  | .Bp r n i k=>K (.Bp r n i k) []
  | .fn f F=>K (.fn f F) []
  | .d (.val (.func (.func g) p q))=>K (.d (.val (.func (.func g) p q))) []
  | _=>False)
 | .binOp op t x y _=>ux cx.T op t (av x) (av y) λv=>K v []
 | .unOp op _ x=>unK op (av x) λv=>K v []
 | .convert P dst x=>iu cx.T P dst (av x) ob λv=>K v []
 | .fieldAddr t x i=>Oa cx.T t i λJ size _=>(match av x with
  | .ref r o=>K (.ref r (o+J)) []
  | .DM M=>Qm M J λM=>O5 M size λM=>K (.DM M) []
  | .Bp r n i k=>Cc ob r λo=>(match o with
   | .row _ _ V _=>n=V.length/\K (.Bp r n i (k+J)) []
   | _=>False)
  | _=>False)
 | .field t x i=>XC cx.T t i (av x) λv=>K v []
 | .indexAddr t x y=>KY cx.T t (av x) (av y) ob λv=>K v []
 | .index t x y=>Wp cx.T t (av x) (av y) λv=>K v []
 | .makeMap t none=>(match (cx.T.get t).kind with
  | .map k e=>Ms ob (cx.np+o.dst.getD 0) <| K (.mp (cx.np+o.dst.getD 0)) [(cx.np+o.dst.getD 0,.map k e [])]
  | _=>False)
 | .lookup t x y ok=>gR cx.T cx.G t (av x) (av y) ok ob λv=>K v []
 | .mapUpdate t m k v|.insert t m k v=>OU cx.T t (av m) (av k) (av v) ob K
 | .slice t x Q U none=>bM cx.T t (cx.np+o.dst.getD 0) (H5 cx.T t (av x)) (Q.map av) (U.map av) ob K
 | .slice t x Q U (some m)=>Ww cx.T t (cx.np+o.dst.getD 0) (av x) (Q.map av) (U.map av) (some (av m)) ob K
 | .makeSlice t n c=>iq cx.T t (cx.np+o.dst.getD 0) (av n) (av c) ob K
 | .extract x i=>(match av x with
  | .Ca vs=>(match vs[i]? with
   | some a=>a.force λv=>K v []
   | none=>False)
  | _=>False)
 | .makeFunc (.func f) first F=>(match first.toList with
  | []=>K (.fn f (F.toList.map av)) []
  | _=>False)
 | .call c=>(match c.callee with
  | .value x=>fnK (av x) λf F=>YN cx f (cx.np+o.dst.getD 0) (Gx cx.T av c.args.toList c.argTypes.toList++F) ob K
  | .builtin .len=>(match c.args.toList,c.argTypes.toList with
   | [x],[t]=>pA cx.T t (H5 cx.T t (av x)) λv=>K v []
   | _,_=>False)
  | .builtin .append=>(match c.args.toList,c.argTypes.toList with
   | [x,y],[t,u]=>(match Xal t u with
    | true=>Rz cx.T t (cx.np+o.dst.getD 0) (H5 cx.T t (av x)) (H5 cx.T t (av y)) ob K
    | false=>gW cx.T t u (cx.np+o.dst.getD 0) (H5 cx.T t (av x)) (av y) ob K)
   | _,_=>False)
  | .builtin .cap=>(match c.args.toList,c.argTypes.toList with
   | [x],[t]=>ri cx.T t (H5 cx.T t (av x)) λv=>K v []
   | _,_=>False)
  | .builtin .clear=>(match c.args.toList,c.argTypes.toList with
   | [x],[t]=>(match av x with
    | .Fc r a n m=>Xf cx.T t r a n m ob K
    | _=>False)
   | _,_=>False)
  | .builtin .copy=>(match c.args.toList,c.argTypes.toList with
   | [x,y],[t,_]=>iJ cx.T t (av x) (av y) ob K
   | _,_=>False)
  | .builtin .max=>(match c.args.toList with
   | [x,y]=>sc [av x,av y] λv=>K v []
   | _=>False)
  | .builtin .min=>(match c.args.toList with
   | [x,y]=>rZ [av x,av y] λv=>K v []
   | _=>False)
  | _=>False)
 | _=>False
def NC (tm:O AV)(dst:C Nat)(v:AV)(K:O AV->Prop):Prop:=match dst with
 | some d=>MH tm d v K
 | none=>K tm
def Sw (ob:O (C OB)):W->(O (C OB)->Prop)->Prop
 | [],K=>K ob
 | (r,o)::w,K=>MH ob r (some o) λob=>Sw ob w K
def J5 (F:Array z)(o:z)(tm:O AV)(Dd no:O AV->Prop):Prop:=match o.guard with
 | none=>Dd tm
 | some (j,want)=>match (F[j]?).bind (·.dst) with
  | some t=>(match tm.getD t .dead with
   | .d (.val (.bool b))=>(match want with
    | true=>JC b (MH tm t (.b true) Dd) (MH tm t (.b false) no)
    | false=>JC b (MH tm t (.b true) no) (MH tm t (.b false) Dd))
   | .Ca _=>no tm
   | _=>False)
  | none=>False
def Wz (T:TT)(t self:Nat)(F:O AV)(y:AV)(ob:O (C OB))(K:AV->W->Prop):Prop:=match (T.get t).kind with
 | .slice e=>Ms ob self <| AS (T6 T e&&Xal (T.get e).size F.length&&Xcu 0 (T.get e).size&&Xeo (T.get e).bytes 65536) <| Xk ob y λsz ys=>AS (Xal sz (T.get e).size&&!ys.isEmpty) <| ys.length<=1000000/\
   cW ob (.agg F) λd w=>AS (w.all λq=>!Nat.beq q.1 self) <| K (.own self (ys.length+1)) (w++[(self,.row e (T.get e).size (d::ys) .no)])
 | _=>False
def opX (cx:Cx)(o:z)(av:Xbq->AV)(ob:O (C OB))(K:AV->W->Prop):Prop:=match o.op with
 | .binOp op F x y Q=>(match av x,av y with
  | .d (.Cg sz es),.d (.val (.slice none 0 0))=>(match op,(cx.T.get F).kind with
   | .eql,.slice _=>K (.b false) []/\(es.length=0->K (.b true) [])
   | _,_=>False)
  | _,_=>BT cx o av ob K)
 | .store F a x=>(match av a,av x with
  | .Bp r n i k,.own M P=>HE cx.T F r n i k (.own M P) ob K\/HL cx.T F r n i k M P ob K
  | .Bp r n i k,.agg J=>HE cx.T F r n i k (.agg J) ob K
  | _,_=>BT cx o av ob K)
 | .call c=>(match c.callee with
  | .builtin .append=>(match c.args.toList,c.argTypes.toList with
   | [x,y],[t,u]=>(match av x with
    | .own r _=>(match ob.getD r none with
     | some (.box J)=>AS (Xal t u) <| Wz cx.T t (cx.np+o.dst.getD 0) J (av y) ob K
     | _=>BT cx o av ob K)
    | _=>BT cx o av ob K)
   | _,_=>BT cx o av ob K)
  | .value x=>fnK (av x) λf H=>nI cx f (Gx cx.T av c.args.toList c.argTypes.toList++H) ob K
  | _=>BT cx o av ob K)
 | _=>BT cx o av ob K
def stepG (H:Array z)(o:z)(F:(Xbq->AV)->O (C OB)->(AV->W->Prop)->Prop)(st:wD)(K:wD->Prop):Prop:=
 match st with
 | ⟨tm,ob⟩=>J5 H o tm
  (λtm=>F (Li tm) ob λv w=>NC tm o.dst v λtm=>Sw ob w λob=>K ⟨tm,ob⟩)
  (λtm=>NC tm o.dst (.Ca []) λtm=>K ⟨tm,ob⟩)
def NV (cx:Cx)(F:Array z)(o:z)(st:wD)(K:wD->Prop):Prop:=
 match st with
 | ⟨tm,ob⟩=>J5 F o tm
  (λtm=>BT cx o (Li tm) ob λv w=>NC tm o.dst v λtm=>Sw ob w λob=>K ⟨tm,ob⟩)
  (λtm=>NC tm o.dst (.Ca []) λtm=>K ⟨tm,ob⟩)
inductive AE where
 | normal|exit (id:Nat)|ret
def AV.refs:AV->O Nat
 | .ref r _=>[r]
 | .own r _=>[r]
 | .mp r=>[r]
 | .it _ r=>[r]
 | .Bp r _ _ _=>[r]
 | .Fc r _ _ _=>[r]
 | .agg F=>refsL F
 | .fn _ F=>refsL F
 | .Ca F=>refsL F
 | _=>[] where
 refsL:O AV->O Nat
  | []=>[]
  | a::l=>a.refs++refsL l
def OB.refs:OB->O Nat
 | .box F=>AV.refs.refsL F
 | .row _ _ _ f=>f.refs
 | .map _ _ _=>[]
 | .zj _ _ _ _ r _=>[r]
 | .gone=>[]
def Bz (o:z):O Nat:=(o.after.toList.filter (Region.binds .any)).map (·.on)
def JD:O z->O (O Nat)->O (O Nat)
 | [],acc=>acc
 | o::l,acc=>JD l (((Bz o).flatMap λj=>j::acc.getD (acc.length-1-j) [])::acc)
def G2 (F:Array z)(i:Nat):O Nat:=(JD F.toList []).getD (F.size-1-i) []
def FX (F:Array z):I:=
 (Xbu F.size).all λi=>match F[i]? with
  | none=>false
  | some o=>(Bz o).all (λj=>Xcu j i)&&(match o.op with|.select _ _=>false|_=>true) &&
   (Xbu i).all λj=>(G2 F i).contains j || (match F[j]? with
    | none=>false
    | some q=>q.apart F o)
def Yg:Op->I
 | .move (.const _)|.assign (.const _)|.store ..|.alloc _|.box ..|.buildSlice ..|.slice ..|.makeSlice ..|.makeMap ..|.mapUpdate ..|.insert ..=>true
 | .call c=>match c.callee with
  | .builtin .append=>true
  | .builtin .clear=>true
  | .builtin .copy=>true
  | .value _=>true
  | _=>false
 | _=>false
def AV.My:AV->I
 | .Fc _ _ _ _=>true
 | _=>false
def rF:Op->I
 | .slice ..=>true
 | _=>false
def apX:Op->C Xbq
 | .call c=>(match c.callee,c.args.toList with
  | .builtin .append,[x,_]=>some x
  | _,_=>none)
 | _=>none
def S7 (o:Op):O Xbq:=match o with
 | .move (.tmp _)|.assign (.tmp _)|.pick ..|.extract ..=>[]
 | o=>o.operands.toList
def TN (np:Nat)(o:z)(tm:O AV):O Nat:=
 (match Yg o.op with
  | true=>[np+o.dst.getD 0]
  | false=>[])++(S7 o.op).flatMap λx=>(Li tm x).refs
def nE (np:Nat)(o:z)(tm tm':O AV):O Nat:=match rF o.op with
 | true=>(match o.dst with
  | some d=>(match (tm'.getD d .dead).My with
   | true=>[]
   | false=>TN np o tm)
  | none=>TN np o tm)
 | false=>(match Yg o.op with
  | true=>(match apX o.op with
   | some x=>(np+o.dst.getD 0)::(Li tm x).refs
   | none=>TN np o tm)
  | false=>[])
def Eu (F:Array z):Nat->O (O Nat×O Nat)->I
 | _,[]=>true
 | i,(H,wr)::l=>Hp F i H wr (i+1) l&&Eu F (i+1) l where
 Hp (F:Array z) (i:Nat) (H wr:O Nat):Nat->O (O Nat×O Nat)->I
  | _,[]=>true
  | j,(J,K)::l=>((G2 F j).contains i || ((wr.all λr=>!J.contains r)&&H.all λr=>!K.contains r))&&Hp F i H wr (j+1) l
def Uy (cx:Cx)(H:Array z):O z->O (O Nat×O Nat)->wD->(O (O Nat×O Nat)->wD->Prop)->Prop
 | [],F,st,K=>K F.reverse st
 | o::rest,F,⟨tm,ob⟩,K=>NV cx H o ⟨tm,ob⟩ λJ=>Uy cx H rest ((TN cx.np o tm,nE cx.np o tm J.tm)::F) J K
def AV.one:AV->I
 | .d x=>!x.isAgg
 | .agg _|.Ca _|.dead|.gl _|.gv _=>false
 | _=>true
def fzW (es:O D)(f frz:FZ):Prop:=(f.frozen=true->frz.frozen=true)/\match frz with
 | .lk i j q n=>es.length<=i \/∃F H,f=.lk F j q H/\F=i/\H=n
 | _=>True
inductive CF (s s':wD):AV->AV->Prop where
 | refl (a:AV):CF s s' a a
 | dead (a:AV):CF s s' a .dead
 | norm (x:D):CF s s' (.d x) (.d x.norm)
 | Cg (r n e sz:Nat) (es:List D) (frz:FZ) (h:s.ob.getD r none=some (.row e sz es frz)) (hn:n=es.length)
   (h':s'.ob.getD r none=none\/s'.ob.getD r none=some (.row e sz es .Dd)):CF s s' (.own r n) (.d (.Cg sz es))
 | ownL (r n n':Nat) (h:n=n'):CF s s' (.own r n) (.own r n')
 | Fc (r a n m m':Nat) (h:m=m'):CF s s' (.Fc r a n m) (.Fc r a n m')
 | oslD (r a n m e sz:Nat) (es zs:List D) (frz:FZ) (h:s.ob.getD r none=some (.row e sz es frz)) (hm:m=es.length) (hz:(es.drop a).take n=zs)
   (h':s'.ob.getD r none=none\/s'.ob.getD r none=some (.row e sz es .Dd)):CF s s' (.Fc r a n m) (.d (.Cg sz zs))
 | fresh (r e sz:Nat) (h:s.ob.getD r none=none) (h':s'.ob.getD r none=some (.row e sz [] .no)):CF s s' (.d (.nil sz)) (.own r 0)
 | lstB (r:Nat) (cs:List AV) (ys:List D) (sz:Nat) (h:s.ob.getD r none=some (.box cs)) (h':s'.ob.getD r none=none) (zx:sz=cs.length) (hl:ys.length=cs.length) (hp:0<cs.length)
   (hc :∀i (hi:i<cs.length) (hi':i<ys.length),CF s s' cs[i] (.d ys[i])) (hn :∀i (hi:i<ys.length),ys[i].isAgg=false):CF s s' (.own r 1) (.d (.Cg sz [.agg ys]))
 | Ca (cs cs':List AV) (hl:cs.length=cs'.length) (hc :∀i (hi:i<cs.length) (hi':i<cs'.length),CF s s' cs[i] cs'[i]):CF s s' (.Ca cs) (.Ca cs')
 | agg (cs cs':List AV) (hl:cs.length=cs'.length) (hc :∀i (hi:i<cs.length) (hi':i<cs'.length),CF s s' cs[i] cs'[i]) (hn :∀i (hi:i<cs'.length),cs'[i].one=true):CF s s' (.agg cs) (.agg cs')
 | aggD (cs:List AV) (ys:List D) (hl:cs.length=ys.length) (hc :∀i (hi:i<cs.length) (hi':i<ys.length),CF s s' cs[i] (.d ys[i])) (hn :∀i (hi:i<ys.length),ys[i].isAgg=false):CF s s' (.agg cs) (.d (.agg ys))
 | dagg (ds:List D) (cs':List AV) (hl:ds.length=cs'.length) (hc :∀i (hi:i<ds.length) (hi':i<cs'.length),CF s s' (.d ds[i]) cs'[i]) (hn :∀i (hi:i<cs'.length),cs'[i].one=true):CF s s' (.d (.agg ds)) (.agg cs')
def T3 (s F:wD):O AV->O AV->Prop
 | [],[]=>True
 | a::l,H::J=>(match H with
  | .dead=>T3 s F l J
  | H=>CF s F a H/\T3 s F l J)
 | _,_=>False
def Na (s F:wD):O AV->O AV->Prop
 | [],[]=>True
 | a::l,H::J=>(H.one=true/\CF s F a H)/\Na s F l J
 | _,_=>False
def Ng (s F:wD):O (C OB)->O (C OB)->Prop
 | [],[]=>True
 | o::l,U::H=>(match U with
  | none=>Ng s F l H
  | some (.box K)=>(∃P,o=some (.box P)/\Na s F P K)/\Ng s F l H
  | some (.row e sz es M)=>((∃f,o=some (.row e sz es f)/\fzW es f M)\/(o=none/\es=[]/\0<sz))/\Ng s F l H
  | some (.map k e es)=>(o=some (.map k e es) \/∃J r n,o=some (.zj k e es J r n))/\Ng s F l H
  | some (.zj k e es J r n)=>((∃Q,o=some (.zj k e es J r Q)/\Q=n)\/((o=some (.map k e es) \/∃J r n,o=some (.zj k e es J r n))/\(∃tk,BG tk (.val J) es=some none)/\n=0/\s.ob.getD r none=none/\∃V sz f,F.ob.getD r none=some (.row V sz [] f)))/\Ng s F l H
  | some .gone=>o=some .gone/\Ng s F l H)
 | _,_=>False
def PC (s:wD):I:=
 (AV.refs.refsL s.tm).all (λr=>(s.ob.getD r none).isSome)&&s.ob.all λ
  | none=>true
  | some o=>o.refs.all λr=>(s.ob.getD r none).isSome
structure Weak0 (np:Nat)(s s':wD):Prop where
 par:((List.range np).all λr=>!(s.ob.getD r none).isSome || (s'.ob.getD r none).isSome)=true
 tm:T3 s s' s.tm s'.tm
 ob:Ng s s' s.ob s'.ob
 closed:PC s'=true
def sw (i j r:Nat):Nat:=match Xal r i with
 | true=>j
 | false=>match Xal r j with
  | true=>i
  | false=>r
def AV.sw (i j:Nat):AV->AV
 | .d x=>.d x
 | .agg F=>.agg (R4 i j F)
 | .ref r H=>.ref (Go.AX.sw i j r) H
 | .DM F=>.DM F
 | .own r n=>.own (Go.AX.sw i j r) n
 | .Bp r n a k=>.Bp (Go.AX.sw i j r) n a k
 | .fn f F=>.fn f (R4 i j F)
 | .Ca F=>.Ca (R4 i j F)
 | .mp r=>.mp (Go.AX.sw i j r)
 | .it f r=>.it f (Go.AX.sw i j r)
 | .gl g=>.gl g
 | .gv g=>.gv g
 | .Fc r a n m=>.Fc (Go.AX.sw i j r) a n m
 | .dead=>.dead where
 R4 (i j:Nat):O AV->O AV
  | []=>[]
  | a::l=>a.sw i j::R4 i j l
def FZ.sw (i j:Nat):FZ->FZ
 | .lk a b q n=>.lk a b (Go.AX.sw i j q) n
 | f=>f
def OB.sw (i j:Nat):OB->OB
 | .box J=>.box (AV.sw.R4 i j J)
 | .row e sz F H=>.row e sz F (H.sw i j)
 | .map k e F=>.map k e F
 | .zj k e F K r n=>.zj k e F K (Go.AX.sw i j r) n
 | .gone=>.gone
def PT (i j:Nat):O (C OB)->O (C OB)
 | []=>[]
 | none::l=>none::PT i j l
 | some o::l=>some (o.sw i j)::PT i j l
def HD (i j:Nat)(s:wD):wD:=⟨AV.sw.R4 i j s.tm,((PT i j s.ob).set i ((PT i j s.ob).getD j none)).set j ((PT i j s.ob).getD i none)⟩
inductive zU (np:Nat):wD->wD->Prop where
 | mk {s s':wD} (par:((List.range np).all λr=>!(s.ob.getD r none).isSome || (s'.ob.getD r none).isSome)=true) (tm:T3 s s' s.tm s'.tm) (ob:Ng s s' s.ob s'.ob) (closed:PC s'=true):zU np s s'
 | swap {s s':wD} (i j:Nat) (hi:Nat.ble np i=true) (hj:Nat.ble np j=true) (hl:(Nat.blt i s.ob.length&&Nat.blt j s.ob.length)=true) (h:zU np (HD i j s) s'):zU np s s'
def S6 (K:AE->wD->Prop)(F:wD->Prop)(e:AE)(st:wD):Prop:=match e with
 | .normal=>F st
 | .exit i=>K (.exit i) st
 | .ret=>K .ret st
inductive Ka (np:Nat)(body:(AE->wD->Prop)->wD->Prop)(K:AE->wD->Prop)(st:wD):Prop where
 | mk (h:(∀t sz es,st.tm.getD t .dead=.d (.Cg sz es)->es.length<=9223372036854775807)->(∀r e sz es f,st.ob.getD r none=some (.row e sz es f)->es.length<=9223372036854775807)->∃I:wD->Nat->Prop,(∃s n,zU np st s/\I s n)/\
  ∀s n,I s n->body (S6 K λt=>∃s' m,m<n/\zU np t s'/\I s' m) s)
inductive HR (np:Nat)(X:(wD->Prop)->Prop)(K:wD->Prop):Prop where
 | go (h:X K)
 | cut (J:wD->Prop) (h1:X λt=>∃s,zU np t s/\J s) (h2 :∀s,J s->K s)
def vH (cx:Cx)(o:z)(tm:O AV)(ob:O (C OB))(K:wD->Prop):Prop:=match o.op with
 | .call c=>(match c.callee with
  | .value x=>fnK (Li tm x) λf F=>(match cx.inl f with
   | true=>HR cx.np (λJ=>cx.I f (Gx cx.T (Li tm) c.args.toList c.argTypes.toList++F) ob λr H=>NC tm o.dst r λtm=>J ⟨tm,H⟩) K
   | false=>opX cx o (Li tm) ob λv w=>NC tm o.dst v λtm=>Sw ob w λob=>K ⟨tm,ob⟩)
  | _=>opX cx o (Li tm) ob λv w=>NC tm o.dst v λtm=>Sw ob w λob=>K ⟨tm,ob⟩)
 | _=>opX cx o (Li tm) ob λv w=>NC tm o.dst v λtm=>Sw ob w λob=>K ⟨tm,ob⟩
def fA (cx:Cx)(F:Array z)(o:z)(st:wD)(K:wD->Prop):Prop:=match st with
 | ⟨tm,ob⟩=>J5 F o tm (λtm=>vH cx o tm ob K) (λtm=>NC tm o.dst (.Ca []) λtm=>K ⟨tm,ob⟩)
def ln (cx:Cx)(F:Array z):O z->wD->(wD->Prop)->Prop
 | [],st,K=>K st
 | o::rest,st,K=>fA cx F o st λst=>ln cx F rest st K
def guarded:O z->I
 | []=>false
 | o::l=>match o.guard with
  | none=>guarded l
  | some _=>true
def onN (K:AE->wD->Prop)(F:wD->Prop)(e:AE)(st:wD):Prop:=match e with
 | .normal=>F st
 | .exit i=>K (.exit i) st
 | .ret=>K .ret st
def onB (id:Nat)(K:AE->wD->Prop)(F:wD->Prop)(e:AE)(st:wD):Prop:=match e with
 | .normal=>F st
 | .exit i=>(match Xal i id with
  | true=>F st
  | false=>K (.exit i) st)
 | .ret=>K .ret st
def uP (cx:Cx)(F:Array z)(st:wD)(K:wD->Prop):Prop:=match guarded F.toList with
 | true=>HR cx.np (ln cx F F.toList st) K
 | false=>ln cx F F.toList st K
def lN (cx:Cx)(F:Array z)(st:wD)(K:wD->Prop):Prop:=FX F=true/\Uy cx F F.toList [] st λH J=>Eu F 0 H=true/\K J
def P3 (F:Array z):I:=Xcu 0 F.size&&(Xbu (F.size-1)).all λj=>(G2 F (F.size-1)).contains j
def ov (cx:Cx)(F:Array z)(st:wD)(K:wD->Prop):O z->Prop
 | []=>False
 | [o]=>fA cx F o st K
 | _::l=>ov cx F st K l
def LR:O z->O z
 | []=>[]
 | [_]=>[]
 | o::l=>o::LR l
def dG (cx:Cx)(F:Array z)(st:wD)(K:wD->Prop):Prop:=(FX F=true/\P3 F=true)/\Uy cx F (LR F.toList) [] st λH J=>Eu F 0 H=true/\ov cx F J K F.toList
def G5 (cx:Cx):Code->(AE->wD->Prop)->wD->Prop
 | .skip,K,st=>K .normal st
 | .region _ ops false,K,st=>uP cx ops st (K .normal)
 | .region _ ops true,K,st=>(match guarded ops.toList with
  | true=>HR cx.np (λF=>lN cx ops st F\/dG cx ops st F) (K .normal)
  | false=>lN cx ops st (K .normal)\/dG cx ops st (K .normal))
 | .seq a b,K,st=>G5 cx a (onN K (G5 cx b K)) st
 | .cond c x y,K,st=>(match Li st.tm c with
  | .d (.val (.bool b))=>HR cx.np (λF=>JC b (G5 cx x (onN K F) st) (G5 cx y (onN K F) st)) (K .normal)
  | _=>False)
 | .block id b,K,st=>HR cx.np (λF=>G5 cx b (onB id K F) st) (K .normal)
 | .loop b,K,st=>Ka cx.np (G5 cx b) K st
 | .exit id,K,st=>K (.exit id) st
 | .ret,K,st=>K .ret st
 | .scope b,K,st=>G5 cx b K st
 | .label _,K,st=>K .normal st
 | _,_,_=>False
def W2 (cx:Cx)(st:wD):O ResultVar->(O AV->Prop)->Prop
 | [],K=>K []
 | .tmp t::F,K=>(st.tm.getD t .dead).force λa=>W2 cx st F λl=>K (a::l)
 | .cell a J::F,K=>(match st.tm.getD a .dead with
  | .ref r H=>YS cx.T J (.ref r H) st.ob λv=>W2 cx st F λl=>K (v::l)
  | _=>False)
def X9:O Nat->Nat->C Nat
 | [],_=>none
 | x::l,r=>match Xal r x with
  | true=>some 0
  | false=>match X9 l r with
   | some k=>some (k+1)
   | none=>none
def QH (F:O Nat):O AV->O AV
 | []=>[]
 | .own r n::H=>(match OJ F r with
  | true=>.d (.nil 1)
  | false=>.own r n)::QH F H
 | a::H=>a::QH F H
def eB (np:Nat)(F:O Nat):O AV->O D->O AV
 | .own r n::H,d::J=>(match X9 F r with
  | some k=>.own (np+k) n
  | none=>.d d)::eB np F H J
 | _::H,d::J=>.d d::eB np F H J
 | _,_=>[]
def NG (ob:O (C OB)):O Nat->(O OB->Prop)->Prop
 | [],K=>K []
 | r::F,K=>Cc ob r λo=>match o with
  | .row e sz H f=>AS (!f.linked) <| NG ob F λl=>K (.row e sz H f::l)
  | _=>False
def XQ (np:Nat)(ob:O (C OB))(F:O Nat)(H:O AV)(K:AV->Prop):Prop:=
 AS (UE F&&F.all λr=>Xeo np r) <| cW ob (.agg (QH F H)) λx w=>match x with
  | .agg J=>AS (w.all λq=>Xeo np q.1&&!OJ F q.1) <| K (.agg (eB np F H J))
  | _=>False
def dR (np:Nat)(ob:O (C OB))(a:AV)(K:AV->C Nat->Prop):Prop:=match a with
 | .d x=>Qw x λx=>K (.d x) none
 | .own r n=>(match Xcu r np with
  | true=>K (.own r n) none
  | false=>cW ob (.own r n) (λx _=>K (.d x) none)\/K (.own np n) (some r))
 | .agg H=>cW ob (.agg H) (λx w=>AS (w.all λq=>Xeo np q.1) <| K (.d x) none)
 | .ref r F=>(match Xcu r np with
  | true=>K (.ref r F) none
  | false=>K (.ref np F) (some r))
 | .mp r=>(match Xcu r np with
  | true=>K (.mp r) none
  | false=>K (.mp np) (some r))
 | _=>False
def X4 (np:Nat)(ob:O (C OB)):O AV->(O AV->Prop)->Prop
 | [],K=>K []
 | a::l,K=>dR np ob a λF H=>match H with
  | none=>X4 np ob l λJ=>K (F::J)
  | some _=>False
def J6 (ob:O (C OB)):Nat->Nat->(O OB->Prop)->Prop
 | 0,_,K=>K []
 | n+1,i,K=>Cc ob i λo=>match o with
  | .box H=>IR.cellsD H λH=>J6 ob n (i+1) λl=>K (.box H::l)
  | .row e sz J F=>AS (!F.linked) <| J6 ob n (i+1) λl=>K (.row e sz J F::l)
  | .map k e J=>J6 ob n (i+1) λl=>K (.map k e J::l)
  | .zj ..=>False
  | .gone=>J6 ob n (i+1) λl=>K (.gone::l)
def Nt (np:Nat)(ob:O (C OB))(R:AV->O OB->Prop)(a:AV)(gM:O OB):Prop:=match a with
 | .d (.nil sz)=>R (.d (.Cg sz [])) gM\/(0<sz/\∃e,R (.own np 0) (gM++[.row e sz [] .no]))
 | .agg H=>cW ob (.agg H) (λx w=>AS (w.all λq=>Xeo np q.1) <| R (.d x) gM) \/∃P,XQ np ob P H λx=>NG ob P λos=>R x (gM++os)
 | .own r n=>(dR np ob (.own r n) λJ M=>(match M with
   | none=>R J gM
   | some r=>Cc ob r λo=>match o with
    | .box H=>IR.cellsD H λH=>R J (gM++[.box H])
    | .row e sz K F=>AS (!F.linked) <| R J (gM++[.row e sz K F])
    | .map k e K=>R J (gM++[.map k e K])
    | .zj ..=>False
    | .gone=>False))\/(AS (Xcu r np) <| match gM[r]? with
     | some (.row e sz K .no)=>R (.own np n) (gM.set r .gone++[.row e sz K .no])
     | _=>False)
 | a=>dR np ob a λJ M=>(match M with
   | none=>R J gM
   | some r=>Cc ob r λo=>match o with
    | .box H=>IR.cellsD H λH=>R J (gM++[.box H])
    | .row e sz K F=>AS (!F.linked) <| R J (gM++[.row e sz K F])
    | .map k e K=>R J (gM++[.map k e K])
    | .zj ..=>False
    | .gone=>False)
def uR (cx:Cx)(fn:Func)(R:AV->O OB->Prop)(e:AE)(st:wD):Prop:=
 match e with
 | .exit _=>False
 | _=>W2 cx st fn.results.toList λF=>J6 st.ob cx.np 0 λgM=>(match F with
  | [a]=>Nt cx.np st.ob R a gM
  | F=>X4 cx.np st.ob F λH=>R (.Ca H) gM)
def Ta (ex:Nat)(fn:Func)(args:O AV)(gM:O OB):wD:=
 { tm:=args++Xaa (fn.ntmps-args.length) .dead,ob:=gM.map some++Xaa (fn.ntmps+ex) none }
def bD (cx:Cx)(fn:Func)(args:O AV)(gM:O OB)(R:AV->O OB->Prop):Prop:=
 cx.np=gM.length/\match fn.body with
  | some c=>G5 cx c (uR cx fn R) (Ta cx.ex fn args gM)
  | none=>False
def I6:O (C OB)->Nat->I
 | [],_=>true
 | _::l,n+1=>I6 l n
 | none::l,0=>I6 l 0
 | some _::_,0=>false
def vD (cx:Cx)(fn:Func)(K:AV->O (C OB)->Prop)(e:AE)(st:wD):Prop:=
 match e with
 | .exit _=>False
 | _=>W2 cx st fn.results.toList λF=>(match F with
  | [a]=>K a st.ob
  | F=>K (.Ca F) st.ob)
def qZ (cx:Cx)(fn:Func)(args:O AV)(ob:O (C OB))(K:AV->O (C OB)->Prop):Prop:=
 I6 ob cx.np=true/\match fn.body with
  | some c=>G5 cx c (vD cx fn K) ⟨args++Xaa (fn.ntmps-args.length) .dead,ob⟩
  | none=>False
end Go.AX
end
