/-
  Texts of one proof, packed.
-/
import Derived.KernelRfl
import Derived.Laws.Sem
import Derived.Orders
set_option linter.all false
set_option maxRecDepth 100000
set_option maxHeartbeats 4000000
open List renaming length_map→X6,length_append→X10,length_drop→X16,length_take→X17,length_replicate→X19,length_set→X20
open Option renaming none→Xa1
open List renaming replicate→Xal,range→Xb2
open BitVec renaming ofInt→Xq
open Go renaming Operand→Xau,FuncId→Xcs
open Nat renaming beq→Xa0,blt→Xbv,ble→Xdl
namespace Go
abbrev I:=@List
abbrev O:=@Option
abbrev C:=Bool
abbrev A:=Value
abbrev S:=UInt8
abbrev T:=ByteArray
abbrev j:=UInt64
abbrev B:=World
abbrev z:=Oper
def Xh:=@decide_eq_true_eq
def Xk:=@if_neg
def Xl:=@if_pos
def Xm:=@List.all_eq_true
def Xn:=@decide_eq_true
def Xo:=@List.getD_eq_getElem?_getD
def Xp:=@List.mem_cons
def Wd:=@decide_eq_false
def Wr:=@List.getElem_of_mem
def Wu:=@List.getElem_mem
def Xa2:=@Nat.le_refl
def Xa3:=@Int.toNat_natCast
def Xa6:=@List.getElem?_append_left
def Xa7:=@List.eq_nil_of_length_eq_zero
def Xa9:=@List.getElem_append_left
def Xaa:=@Nat.zero_add
def Xab:=@List.getElem?_append_right
def Xac:=@List.pairwise_cons
def Xae:=@congrArg
def Xaf:=@Array.length_toList
def Xag:=@UInt64.toNat_ofNat'
def Xaj:=@Nat.lt_of_lt_of_le
def Xak:=@Nat.le_trans
def Xam:=@List.getElem_map
def Xao:=@List.getElem_cons_zero
def Xap:=@List.getElem_append_right
def Xaq:=@Nat.add_assoc
def Xar:=@decide_eq_false_iff_not
def Xas:=@Array.toArray_toList
def Xat:=@List.flatMap_cons
def Xav:=@List.append_assoc
def Xaw:=@Option.getD_some
def Xax:=@Nat.lt_of_not_le
def Xaz:=@List.mem_map
def Xb0:=@List.append_nil
def Xb3:=@Array.getElem?_append_left
def Xb4:=@List.pairwise_append
def Xb5:=@List.map_cons
def Xb7:=@List.getElem_take
def Xb8:=@List.getElem_drop
def Xb9:=@List.size_toArray
def Xba:=@List.nil_append
def Xbb:=@List.foldl_cons
def Xbd:=@Nat.mod_eq_of_lt
def Xbe:=@Nat.mul_comm
def Xbf:=@Option.map_some
def Xbj:=@Bool.not_eq_true'
def Xbl:=@List.takeWhile_append_dropWhile
def Xbm:=@List.filter_append
def Xbo:=@Array.getElem?_eq_some_iff
def Xbp:=@List.getElem_append
def Xbt:=@List.drop_eq_getElem_cons
def Xbu:=@List.mem_of_getElem?
def Xbx:=@Option.bind_some
def Xby:=@List.not_mem_nil
def Xbz:=@List.length_range
def Xc0:=@beq_iff_eq
def Xc1:=@List.take_add_one
def Xc2:=@List.filter_cons_of_neg
def Xc3:=@Int.fdiv_eq_ediv_of_nonneg
def Xc6:=@List.mem_cons_self
def Xc7:=@Option.map_eq_some_iff
def Xc9:=@List.all_cons
def Xca:=@Bool.true_and
def Xcb:=@List.nodup_append
def Xcc:=@Nat.add_zero
def Xcg:=@Int.natCast_nonneg
def Xci:=@Nat.add_comm
def Xcj:=@List.take_length
def Xcm:=@cond_true
def Xco:=@Nat.zero_le
def Xcp:=@List.filter_eq_self
def Xcr:=@List.mem_range
def Xct:=@List.getElem?_toArray
def Xcu:=@Bool.or_eq_true
def Xcv:=@List.mem_filter
def Xcw:=@List.getElem_range
def Xcx:=@UInt8.toNat_ofNat'
def Xcy:=@Bool.false_eq_true
def Xd0:=@List.mem_flatMap
def Xd3:=@UInt64.toNat_inj
def Xd4:=@BitVec.ofInt_natCast
def Xd5:=@if_false
def Xd7:=@Nat.beq_refl
def Xd8:=@List.getElem?_map
def Xda:=@Nat.min_eq_left
def Xdb:=@List.cons.injEq
def Xdd:=@Nat.two_pow_pos
def Xdf:=@cond_false
def Xdg:=@Nat.zero_mul
def Xdh:=@List.any_cons
def Xdi:=@List.Pairwise.sublist
def Xdm:=@not_false_eq_true
def Xdn:=@bne_self_eq_false
def Xdq:=@of_decide_eq_true
def Xds:=@beq_self_eq_true
def Xdt:=@if_true
def Xdu:=@dif_neg
def Xdv:=@or_false
def Xdw:=@dif_pos
def Xdx:=@beq_eq_false_iff_ne
end Go
section
namespace Go.AX
inductive D where
 | val (v:Value)
 | agg (cs:List D)
 | nil (sz:Nat)
 | qY (sz:Nat) (es:List D)
 deriving Inhabited
abbrev D.i (n:Int):D:=.val (.int .i64 n)
abbrev D.u (n:Int):D:=.val (.int .u8 n)
abbrev D.b (b:C):D:=.val (.bool b)
abbrev D.s (s:T):D:=.val (.string s)
def D.cells:D->I D
 | .agg F=>F
 | x=>[x]
def D.isAgg:D->C
 | .agg _=>true
 | _=>false
def D.norm:D->D
 | .nil sz=>.qY sz []
 | .agg F=>.agg (F.map λ
   | .nil sz=>.qY sz []
   | x=>x)
 | x=>x
inductive AV where
 | d (x:D)
 | agg (cs:List AV)
 | ref (r off:Nat)
 | ru (cs:List D)
 | own (r n:Nat)
 | qQ (r n i k:Nat)
 | fn (f:FuncId) (caps:List AV)
 | qT (vs:List AV)
 | mp (r:Nat)
 | rO (r a n m:Nat)
 | it (f:FuncId) (r:Nat)
 | gl (g:Nat)
 | gv (g:Nat)
 | dead
 deriving Inhabited
abbrev AV.i (n:Int):AV:=.d (.val (.int .i64 n))
abbrev AV.u (n:Int):AV:=.d (.val (.int .u8 n))
abbrev AV.b (b:C):AV:=.d (.val (.bool b))
abbrev AV.s (s:T):AV:=.d (.val (.string s))
abbrev AV.l (sz:Nat)(es:I D):AV:=.d (.qY sz es)
inductive FZ where
 | no|rl
 | lk (i j q n:Nat)
 deriving Inhabited
def FZ.frozen:FZ->C
 | .rl=>true
 | _=>false
def FZ.free:FZ->C
 | .no=>true
 | _=>false
def FZ.si {f:FZ}(h:f.free=true):f=.no:=by cases f<;>simp[FZ.free] at h;rfl
def FZ.linked:FZ->C
 | .lk _ _ _ _=>true
 | _=>false
def FZ.refs:FZ->I Nat
 | .lk _ _ q _=>[q]
 | _=>[]
@[simp] theorem FZ.vl:FZ.no.frozen=false:=rfl
@[simp] theorem FZ.s9:FZ.rl.frozen=true:=rfl
@[simp] theorem FZ.uY (i j q n:Nat):(FZ.lk i j q n).frozen=false:=rfl
@[simp] theorem FZ.vm:FZ.no.linked=false:=rfl
@[simp] theorem FZ.uJ:FZ.rl.linked=false:=rfl
@[simp] theorem FZ.uW (i j q n:Nat):(FZ.lk i j q n).linked=true:=rfl
@[simp] theorem FZ.vV:FZ.no.refs=[]:=rfl
@[simp] theorem FZ.vr:FZ.rl.refs=[]:=rfl
@[simp] theorem FZ.sC (i j q n:Nat):(FZ.lk i j q n).refs=[q]:=rfl
def FZ.vB {f:FZ}(h:f.linked=false){i j q n:Nat}(e:f=.lk i j q n):False:=by subst e;simp at h
inductive OB where
 | box (cs:List AV)
 | row (e sz:Nat) (es:List D) (frz:FZ)
 | map (k e:Nat) (es:List (D×D))
 | qu (k e:Nat) (es:List (D×D)) (kv:Value) (r n:Nat)
 | gone
 deriving Inhabited
inductive TK where
 | bool|int (k:IntKind)|str|ptr|fn|other
 | slice (elem:Nat)
 | arr (n elem:Nat)
 | struct (fs:List (Nat×Nat×Nat))
 | map (k e:Nat)
 deriving Inhabited
structure TI where
 kind:TK
 size:Nat
 bytes:Nat
 zero:List D
 deriving Inhabited
inductive TT where
 | qJ
 | node (k:Nat) (v:TI) (l r:TT)
def TI.none:TI:=⟨.other,0,0,[]⟩
def TT.get:TT->Nat->TI
 | .qJ,_=>TI.none
 | .node k v l r,n=>match Xa0 n k with
  | true=>v
  | false=>match Xbv n k with
   | true=>l.get n
   | false=>r.get n
def TK.re:TK->O C
 | .struct _|.arr _ _=>some true
 | .other=>none
 | _=>some false
def BI (T:TT)(t:Nat):C:=(T.get t).kind.re.isSome
structure pw where
 tm:List AV
 ob:List (Option OB)
structure Cx where
 T:TT
 np:Nat
 C:FuncId->List AV->List OB->AV->List OB->Prop
 qL:FuncId->List Bool
 G:Nat->Option (List (D×D))
 inl:FuncId->Bool
 I:FuncId->List AV->List (Option OB)->(AV->List (Option OB)->Prop)->Prop
 ex:Nat
def AV.force (a:AV)(K:AV->Prop):Prop:=match a with
 | .d x=>K (.d x)
 | .agg F=>K (.agg F)
 | .ref r o=>K (.ref r o)
 | .ru F=>K (.ru F)
 | .own r n=>K (.own r n)
 | .qQ r n i k=>K (.qQ r n i k)
 | .fn f c=>K (.fn f c)
 | .qT H=>K (.qT H)
 | .mp r=>K (.mp r)
 | .it f r=>K (.it f r)
 | .gl g=>K (.gl g)
 | .gv g=>K (.gv g)
 | .rO r a n m=>K (.rO r a n m)
 | .dead=>K .dead
def AU (b:C)(P:Prop):Prop:=match b with
 | true=>P
 | false=>False
def sJ (tm:I AV):Xau->AV
 | .tmp t=>tm.getD t .dead
 | .const v=>(match v.oneCell' with
  | true=>.d (.val v)
  | false=>.dead)
 | .func f=>.fn f []
 | .global g=>.gl g
def La {α:Type}:I α->Nat->α->(I α->Prop)->Prop
 | [],_,_,K=>K []
 | _::l,0,v,K=>K (v::l)
 | x::l,n+1,v,K=>La l n v λF=>K (x::F)
def QU {α F:Type}(f:α->(F->Prop)->Prop):I α->(I F->Prop)->Prop
 | [],K=>K []
 | x::l,K=>f x λy=>QU f l λH=>K (y::H)
def PZ {α:Type}:I α->Nat->(I α->Prop)->Prop
 | l,0,K=>K l
 | [],_+1,K=>K []
 | _::l,n+1,K=>PZ l n K
def OM {α:Type}:I α->Nat->(I α->Prop)->Prop
 | _,0,K=>K []
 | [],_+1,K=>K []
 | x::l,n+1,K=>OM l n λF=>K (x::F)
def Nq {α:Type}:I α->Nat->I α->(I α->Prop)->Prop
 | F,0,[],K=>K F
 | _::F,0,v::H,K=>Nq F 0 H λl=>K (v::l)
 | c::F,n+1,H,K=>Nq F n H λl=>K (c::l)
 | [],_,_,_=>False
def TY:I AV->O (I D)
 | []=>some []
 | .d x::r=>match TY r with
  | some l=>some (x::l)
  | none=>none
 | _::_=>none
def UR (F:I AV)(K:AV->Prop):Prop:=match TY F with
 | some l=>K (.d (.agg l))
 | none=>K (.agg F)
def M8 (a:AV)(K:I AV->Prop):Prop:=match a with
 | .d (.val v)=>K [.d (.val v)]
 | .d (.nil sz)=>K [.d (.nil sz)]
 | .d (.qY sz F)=>K [.d (.qY sz F)]
 | .d (.agg H)=>QU (λc K=>match c with
   | .val v=>K (.d (.val v))
   | .nil sz=>K (.d (.nil sz))
   | .qY sz F=>K (.d (.qY sz F))
   | .agg _=>False) H K
 | .agg H=>K H
 | .ref r o=>K [.ref r o]
 | .own r n=>K [.own r n]
 | .mp r=>K [.mp r]
 | .fn f c=>K [.fn f c]
 | _=>False
def Pi (x:D)(K:D->Prop):Prop:=match x with
 | .val v=>K (.val v)
 | .nil sz=>K (.qY sz [])
 | .qY sz H=>K (.qY sz H)
 | .agg F=>QU (λc K=>match c with
   | .val v=>K (.val v)
   | .nil sz=>K (.qY sz [])
   | .qY sz H=>K (.qY sz H)
   | .agg F=>K (.agg F)) F λF=>K (.agg F)
abbrev W:=I (Nat×OB)
def CX (ob:I (O OB))(r:Nat)(K:OB->Prop):Prop:=match ob.getD r none with
 | some (.box H)=>K (.box H)
 | some (.row e sz es F)=>K (.row e sz es F)
 | some (.map k e es)=>K (.map k e es)
 | some (.qu k e es J r n)=>K (.qu k e es J r n)
 | some .gone=>K .gone
 | none=>False
def tb (ob:I (O OB))(r:Nat)(K:Prop):Prop:=match ob[r]? with
 | some none=>K
 | _=>False
def sI (T:TT):Nat->Nat->D->D->O C
 | 0,_,_,_=>none
 | n+1,t,x,y=>match (T.get t).kind,x,y with
  | .bool,.val (.bool a),.val (.bool b)=>some (a==b)
  | .int _,.val (.int k a),.val (.int F b)=>if k=F then some (a==b) else none
  | .str,.val (.string a),.val (.string b)=>some (a.toList==b.toList)
  | .struct fs,.agg xs,.agg ys=>eqFs (sI T n) T fs xs ys
  | _,_,_=>none where
 eqFs (rec:Nat->D->D->O C) (T:TT):I (Nat×Nat×Nat)->I D->I D->O C
  | [],_,_=>some true
  | (o,s,t)::fs,xs,ys=>
   match (match (T.get t).kind.re with
    | some true=>rec t (.agg ((xs.drop o).take s)) (.agg ((ys.drop o).take s))
    | some false=>(match xs[o]?,ys[o]? with
     | some x,some y=>rec t x y
     | _,_=>none)
    | none=>none) with
   | some b=>match eqFs rec T fs xs ys with
    | some c=>some (b&&c)
    | none=>none
   | none=>none
def ZN (T:TT)(op:BinOp)(t:Nat)(x y:AV)(K:AV->Prop):Prop:=
 match op,x,y with
 | .shl,.d (.val (.int k a)),.d (.val (.int _ b))=>0<=b/\∃r,k.wrap (a*2^(min b.toNat k.bits))=r/\K (.d (.val (.int k r)))
 | .shr,.d (.val (.int k a)),.d (.val (.int _ b))=>0<=b/\∃r,a.fdiv (2^(min b.toNat k.bits))=r/\K (.d (.val (.int k r)))
 | .eql,.d (.val (.string a)),.d (.val (.string b))=>K (.b (a.toList==b.toList))
 | .neq,.d (.val (.string a)),.d (.val (.string b))=>K (.b (!(a.toList==b.toList)))
 | .add,.d (.val (.string a)),.d (.val (.string b))=>(a.size+b.size<=2^62)/\K (.s (a++b))
 | .lss,.d (.val (.string a)),.d (.val (.string b))=>K (.b (Op.bytesLess a.toList b.toList))
 | .gtr,.d (.val (.string a)),.d (.val (.string b))=>K (.b (!(Op.bytesLess a.toList b.toList || a.toList==b.toList)))
 | op,.d (.val (.int k a)),.d (.val (.int F b))=>AU (decide (k=F)) (match op with
  | .add=>∃r,k.wrap (a+b)=r/\K (.d (.val (.int k r)))
  | .sub=>∃r,k.wrap (a-b)=r/\K (.d (.val (.int k r)))
  | .mul=>∃r,k.wrap (a*b)=r/\K (.d (.val (.int k r)))
  | .quo=>b≠0/\∃r,k.wrap (a.tdiv b)=r/\K (.d (.val (.int k r)))
  | .rem=>b≠0/\∃r,a.tmod b=r/\K (.d (.val (.int k r)))
  | .and=>∃r,k.wrap (Xq k.bits a &&& Xq k.bits b).toNat=r/\K (.d (.val (.int k r)))
  | .or=>∃r,k.wrap (Xq k.bits a ||| Xq k.bits b).toNat=r/\K (.d (.val (.int k r)))
  | .xor=>∃r,k.wrap (Xq k.bits a ^^^ Xq k.bits b).toNat=r/\K (.d (.val (.int k r)))
  | .andNot=>∃r,k.wrap (Xq k.bits a &&& ~~~Xq k.bits b).toNat=r/\K (.d (.val (.int k r)))
  | .eql=>K (.b (a==b))
  | .neq=>K (.b (a !=b))
  | .lss=>K (.b (decide (a<b)))
  | .leq=>K (.b (decide (a<=b)))
  | .gtr=>K (.b (decide (a>b)))
  | .geq=>K (.b (decide (a≥b)))
  | _=>False)
 | .eql,.d x,.d y=>(match sI T 9 t x y with
  | some b=>K (.b b)
  | none=>False)
 | .neq,.d x,.d y=>(match sI T 9 t x y with
  | some b=>K (.b (!b))
  | none=>False)
 | _,_,_=>False
def IR (b:C)(A B:Prop):Prop:=match b with
 | true=>A
 | false=>B
def mF (T:TT)(op:BinOp)(t:Nat)(x y:AV)(K:AV->Prop):Prop:=ZN T op t x y K
def ZK (T:TT)(op:BinOp)(t:Nat)(x y:AV)(K:AV->Prop):mF T op t x y K=ZN T op t x y K:=rfl
def vX (op:UnOp)(x:AV)(K:AV->Prop):Prop:=
 match op,x with
 | .not,.d (.val (.bool b))=>K (.b (!b))
 | .neg,.d (.val (.int k a))=>∃r,k.wrap (0-a)=r/\K (.d (.val (.int k r)))
 | _,_=>False
def ec (c a b:AV)(K:AV->Prop):Prop:=
 match c with
 | .d (.val (.bool t))=>(match a,b with
  | .d (.val (.bool x)),.d (.val (.bool y))=>K (.b (cond t x y))
  | a,b=>IR t (a.force K) (b.force K))
 | _=>False
def Nw (T:TT)(t i:Nat)(K:Nat->Nat->Nat->Prop):Prop:=match (T.get t).kind with
 | .struct fs=>(match fs[i]? with
  | some (o,s,F)=>match s with
   | 0=>False
   | s+1=>K o (s+1) F
  | none=>False)
 | _=>False
def NW (T:TT)(t n i k:Nat)(es:I D)(K:AV->Prop):Prop:=n=es.length/\∃x,es.getD i default=x/\PZ x.cells k λF=>(match (T.get t).kind.re with
   | some true=>AU (Xdl (T.get t).size F.length) <| OM F (T.get t).size λl=>K (.d (.agg l))
   | some false=>(match F[0]? with
    | some a=>K (.d a)
    | none=>False)
   | none=>False)
def WG (T:TT)(t:Nat)(a:AV)(ob:I (O OB))(K:AV->Prop):Prop:=
 match a with
 | .ref r H=>CX ob r λo=>(match o with
  | .box F=>(match (T.get t).kind.re with
   | some true=>PZ F H λF=>AU (Xdl (T.get t).size F.length) <| OM F (T.get t).size λl=>UR l K
   | some false=>(match F[H]? with
    | some a=>a.force K
    | none=>False)
   | none=>False)
  | _=>False)
 | .ru F=>(match (T.get t).kind.re with
   | some true=>AU (Xdl (T.get t).size F.length) <| OM F (T.get t).size λl=>K (.d (.agg l))
   | some false=>(match F[0]? with
    | some a=>K (.d a)
    | none=>False)
   | none=>False)
 | .qQ r n i k=>CX ob r λo=>(match o with
  | .row _ sz J fz=>(match fz with
   | .lk M j q m=>NW T t n i k J K\/(n=J.length/\i=M/\k=j/\i<J.length/\j<sz/\(T.get t).kind.re=some false/\K (.own q m))
   | _=>NW T t n i k J K)
  | .box F=>(match (T.get t).kind.re with
   | some false=>∃a,F[k+i]?=some a/\a.force K
   | _=>False)
  | _=>False)
 | _=>False
def fv (ob:I (O OB))(a:AV)(K:D->W->Prop):Prop:=match a with
 | .d x=>Pi x λx=>K x []
 | .own r n=>CX ob r λo=>(match o with
  | .row e sz F _=>n=F.length/\K (.qY sz F) [(r,.row e sz F .rl)]
  | _=>False)
 | .agg H=>toDs H λl w=>K (.agg l) w
 | _=>False where
 toDs:I AV->(I D->W->Prop)->Prop
  | [],K=>K [] []
  | .d x::H,K=>(match x with
   | .agg _=>False
   | .val v=>toDs H λl w=>K (.val v::l) w
   | .nil sz=>toDs H λl w=>K (.qY sz []::l) w
   | .qY sz F=>toDs H λl w=>K (.qY sz F::l) w)
  | .own r n::H,K=>CX ob r λo=>(match o with
   | .row e sz F _=>n=F.length/\toDs H λl w=>K (.qY sz F::l) ((r,.row e sz F .rl)::w)
   | _=>False)
  | .fn f J::H,K=>(match J with
   | []=>toDs H λl w=>K (.val (.func (.func f) #[] #[])::l) w
   | _=>False)
  | _::_,_=>False
def I5 (y:D)(k:Nat)(x:D)(K:D->Prop):Prop:=Pi x λx=>Nq y.cells k x.cells λF=>match y with
 | .agg _=>K (.agg F)
 | _=>match F with
  | [z]=>AU (!z.isAgg) (K z)
  | _=>False
def Sr (T:TT)(t:Nat)(a x:AV)(ob:I (O OB))(K:AV->W->Prop):Prop:=
 AU (BI T t) <| match a with
 | .ref r F=>CX ob r λo=>(match o with
  | .box U=>M8 x λP=>AU (Xa0 P.length (T.get t).size) <| Nq U F P λH=>K .dead [(r,.box H)]
  | _=>False)
 | .qQ r n i k=>CX ob r λo=>(match o with
  | .row e sz J M=>n=J.length/\M.free=true/\(match x with
   | .d x=>AU (Xa0 x.cells.length (T.get t).size) <|∃y,J.getD i default=y/\I5 y k x λz=>∃Q,J.set i z=Q/\K .dead [(r,.row e sz Q .no)]
   | _=>False)
  | _=>False)
 | _=>False
def H2 (T:TT)(t r n i k q m:Nat)(ob:I (O OB))(K:AV->W->Prop):Prop:=False
def GR (T:TT)(t r n i k:Nat)(x:AV)(ob:I (O OB))(K:AV->W->Prop):Prop:=
 AU (BI T t) <| fv ob x λd w=>AU (w.all λq=>!Nat.beq q.1 r) <| CX ob r λo=>(match o with
  | .row e sz F H=>n=F.length/\H.free=true/\(AU (Xa0 d.cells.length (T.get t).size) <|∃y,F.getD i default=y/\I5 y k d λz=>∃J,F.set i z=J/\K .dead (w++[(r,.row e sz J .no)]))
  | _=>False)
def Oy (T:TT)(t:Nat)(a x:AV)(ob:I (O OB))(K:AV->W->Prop):Prop:=match a,x with
 | .qQ r n i k,.own q m=>H2 T t r n i k q m ob K
 | .qQ r n i k,.agg F=>GR T t r n i k (.agg F) ob K
 | a,x=>Sr T t a x ob K
def U9 {T:TT}{t:Nat}{a x:AV}{ob:I (O OB)}{K:AV->W->Prop}(h:Oy T t a x ob K) : (∃r n i k q m,a=.qQ r n i k/\x=.own q m/\H2 T t r n i k q m ob K)\/(∃r n i k M,a=.qQ r n i k/\x=.agg M/\GR T t r n i k (.agg M) ob K) \/ (Sr T t a x ob K/\∀ob' (F:AV->W->Prop),Sr T t a x ob' F->Oy T t a x ob' F):=by
 unfold Oy at h;split at h
 ·exact .inl ⟨_,_,_,_,_,_,rfl,rfl,h⟩
 ·exact .inr (.inl ⟨_,_,_,_,_,rfl,rfl,h⟩)
 rename_i H J;refine .inr (.inr ⟨h,λob' F P=>?_⟩);unfold Oy;split
 ·exact absurd rfl (H _ _ _ _ _ _ rfl)
 ·exact absurd rfl (J _ _ _ _ _ rfl)
 exact P
def KP (T:TT)(t:Nat)(F:I (Nat×AV))(K:AV->Prop):Prop:=
 match (T.get t).kind with
 | .struct fs=>go (λi=>match fs[i]? with
  | some (o,s,_)=>some (o,s)
  | none=>none) F ((T.get t).zero.map .d) λJ=>UR J K
 | .arr n e=>AU (BI T e) <| go (λi=>match Xbv i n with
  | true=>some (i*(T.get e).size,(T.get e).size)
  | false=>none) F ((T.get t).zero.map .d) λJ=>UR J K
 | _=>False where
 go (H:Nat->O (Nat×Nat)):I (Nat×AV)->I AV->(I AV->Prop)->Prop
  | [],J,K=>K J
  | (i,v)::rest,J,K=>match H i with
   | some (off,size)=>M8 v λP=>AU (Xa0 P.length size) <| Nq J off P λM=>go H rest M K
   | none=>False
def Dm (o:O AV)(F:Int)(K:Int->Prop):Prop:=match o with
 | none=>K F
 | some (.d (.val (.int _ i)))=>K i
 | _=>False
def Sz (sz:Nat)(d:D)(lo J:O AV)(K:AV->Prop):Prop:=match d with
 | .qY F H=>AU (Xa0 F sz) <| Dm lo 0 λl=>Dm J H.length λh=>(0<=l/\l<=h/\h<=H.length)/\∃ys,(H.drop l.toNat).take (h.toNat-l.toNat)=ys/\K (.d (.qY F ys))
 | _=>False
def Ol (T:TT)(e:Nat)(x:AV)(lo F:O AV)(ob:I (O OB))(K:AV->W->Prop):Prop:=
 AU (BI T e) <| fv ob x λd w=>Sz (T.get e).size d lo F λv=>K v w
def YL (T:TT)(e r n:Nat)(lo H:O AV)(ob:I (O OB))(K:AV->W->Prop):Prop:=
 AU (BI T e) <| CX ob r λo=>match o with
  | .row _ sz F _=>AU (Xa0 sz (T.get e).size) <| Dm lo 0 λl=>Dm H F.length λh=>(0<=l/\l<=h/\h<=F.length)/\n=F.length/\∃a k,l.toNat=a/\h.toNat-l.toNat=k/\K (.rO r a k n) []
  | _=>False
def R7 (T:TT)(e self r n:Nat)(lo M mx:O AV)(ob:I (O OB))(K:AV->W->Prop):Prop:=
 tb ob self <| AU (BI T e) <| CX ob r λo=>match o with
  | .row P sz F H=>AU (Xa0 sz (T.get e).size&&H.free) <| Dm lo 0 λl=>Dm M F.length λh=>Dm mx h λm=>(0<=l/\l<=h/\h<=m/\m<=F.length)/\n=F.length/\
    ∃J,(F.drop l.toNat).take (h.toNat-l.toNat)=J/\K (.own self J.length) [(r,.gone),(self,.row P sz J .no)]
  | _=>False
def U0 (T:TT)(t self:Nat)(x:AV)(lo F mx:O AV)(ob:I (O OB))(K:AV->W->Prop):Prop:=match (T.get t).kind with
 | .slice e=>(match x with
  | .own r n=>(match F with
   | some h=>R7 T e self r n lo (some h) mx ob K
   | none=>False)
  | _=>False)
 | _=>False
def Xz (T:TT)(t self:Nat)(x:AV)(lo F:O AV)(ob:I (O OB))(K:AV->W->Prop):Prop:=match (T.get t).kind with
 | .slice e=>(match x with
  | .own r n=>Ol T e (.own r n) lo F ob K\/YL T e r n lo F ob K\/R7 T e self r n lo F none ob K
  | .d (.nil sz)=>Ol T e (.d (.nil sz)) lo F ob K\/(AU (BI T e) <| Dm lo 0 λl=>Dm F 0 λh=>(l=0/\h=0)/\K (.d (.nil sz)) [])
  | x=>Ol T e x lo F ob K)
 | .str=>(match x with
  | .d (.val (.string s))=>Dm lo 0 λl=>Dm F s.size λh=>(0<=l/\l<=h/\h<=s.size)/\K (.s (s.extract l.toNat h.toNat)) []
  | _=>False)
 | _=>False
def Zv (T:TT)(t self:Nat)(n c:AV)(ob:I (O OB))(K:AV->W->Prop):Prop:=match (T.get t).kind,n,c with
 | .slice e,.d (.val (.int .i64 n)),.d (.val (.int .i64 c))=>tb ob self <| AU (BI T e&&Xbv 0 (T.get e).size&&(match (T.get e).kind.re with|some true=>true|_=>Xa0 (T.get e).size 1)) <| (0<=n/\n<=c/\c<=1048576/\(T.get e).bytes<=65536)/\
   ∃z,(match (T.get e).kind.re with
    | some true=>D.agg (T.get e).zero
    | _=>(T.get e).zero.headD default).norm=z/\∃F,Xal n.toNat z=F/\K (.own self F.length) [(self,.row e (T.get e).size F .no)]
 | _,_,_=>False
def nU (T:TT)(t u self:Nat)(x n:AV)(ob:I (O OB))(K:AV->W->Prop):Prop:=match (T.get t).kind,(T.get u).kind,x,n with
 | .slice e,.int .i64,.d (.nil _),.d (.val (.int .i64 n))=>tb ob self <| AU (BI T u&&BI T e&&Xbv 0 (T.get e).size&&(match (T.get e).kind.re with|some true=>true|_=>Xa0 (T.get e).size 1)) <| (0<n/\n<=1048576/\(T.get e).bytes<=65536)/\
   ∃z,(match (T.get e).kind.re with
    | some true=>D.agg (T.get e).zero
    | _=>(T.get e).zero.headD default).norm=z/\∃F,Xal n.toNat z=F/\K (.own self F.length) [(self,.row e (T.get e).size F .no)]
 | _,_,_,_=>False
def lw (T:TT)(t:Nat)(x:AV)(K:AV->Prop):Prop:=False
def Db:TK->D->D->O C
 | .int _,.val (.int k a),.val (.int F b)=>if k=F then some (a==b) else none
 | .str,.val (.string a),.val (.string b)=>some (a==b)
 | .bool,.val (.bool a),.val (.bool b)=>some (a==b)
 | _,_,_=>none
def Bl (tk:TK)(x:D):I (D×D)->O (O D)
 | []=>some none
 | p::l=>match Db tk x p.1 with
  | some true=>some (some p.2)
  | some false=>Bl tk x l
  | none=>none
def Ek (tk:TK)(x v:D):I (D×D)->O (I (D×D))
 | []=>some [(x,v)]
 | p::l=>match Db tk x p.1 with
  | some true=>some ((x,v)::l)
  | some false=>(Ek tk x v l).map (p::·)
  | none=>none
def N3 (T:TT)(e:Nat):D:=(match (T.get e).kind.re with
 | some true=>D.agg (T.get e).zero
 | _=>(T.get e).zero.headD default).norm
def Il:TK->A->C
 | .int k,.int F _=>decide (F=k)
 | .str,.string _=>true
 | .bool,.bool _=>true
 | _,_=>false
def Ig:TK->C
 | .int _|.str|.bool=>true
 | _=>false
def Rx (T:TT)(e:Nat):C:=match (T.get e).kind.re with
 | some true=>true
 | _=>Xa0 (T.get e).size 1
def mj (T:TT)(t u r k:Nat)(n:AV)(ob:I (O OB))(K:AV->W->Prop):Prop:=match (T.get t).kind,(T.get u).kind,n with
 | .slice e,.int .i64,.d (.val (.int .i64 n))=>CX ob r λo=>(match o with
  | .row M sz F H=>AU (Xa0 M e&&Xa0 sz (T.get e).size&&H.free&&BI T u&&BI T e&&Rx T e) <|
    (k=F.length/\0<=n/\n<=1048576/\(T.get e).bytes<=65536/\(F.length+n.toNat)*(T.get e).bytes<=2^47/\F.length+n.toNat<=2^47)/\
     ∃z,N3 T e=z/\∃J,F++Xal n.toNat z=J/\K (.own r J.length) [(r,.row M sz J .no)]
  | _=>False)
 | _,_,_=>False
def fS (T:TT)(t u self:Nat)(x n:AV)(ob:I (O OB))(K:AV->W->Prop):Prop:=False
def Si (T:TT)(e:Nat):C:=match (T.get e).kind,(T.get e).zero with
 | .slice _,[.nil _]=>true
 | _,_=>false
def Y1 (T:TT)(t:Nat)(x key:AV)(ok:C)(ob:I (O OB))(K:AV->Prop):Prop:=match (T.get t).kind,x,key with
 | .map k e,.mp r,.d (.val F)=>AU (Il (T.get k).kind F&&Ig (T.get k).kind&&BI T k&&BI T e&&Xbv 0 (T.get e).size&&Rx T e) <| CX ob r λo=>(match o with
  | .map _ _ H=>∃q,Bl (T.get k).kind (.val F) H=some q/\∃v,q.getD (N3 T e)=v/\∃b,q.isSome=b/\K (match ok with
   | true=>.qT [.d v,.b b]
   | false=>.d v)
  | .qu _ _ H J M P=>(∃q,Bl (T.get k).kind (.val F) H=some q/\∃v,q.getD (N3 T e)=v/\∃b,q.isSome=b/\K (match ok with
   | true=>.qT [.d v,.b b]
   | false=>.d v))\/(F=J/\ok=false/\(∃q,Bl (T.get k).kind (.val F) H=some q)/\Si T e=true/\K (.own M P))
  | _=>False)
 | _,_,_=>False
def Zp (T:TT)(G:Nat->O (I (D×D)))(t:Nat)(a:AV)(ob:I (O OB))(K:AV->Prop):Prop:=match a with
 | .gl g=>(match (T.get t).kind,G g with
  | .map _ _,some _=>K (.gv g)
  | _,_=>False)
 | a=>WG T t a ob K
def iV (T:TT)(G:Nat->O (I (D×D)))(t g:Nat)(key:AV)(ok:C)(K:AV->Prop):Prop:=match (T.get t).kind,G g,key with
 | .map k e,some es,.d (.val F)=>AU (Il (T.get k).kind F&&Ig (T.get k).kind&&BI T k&&BI T e&&Xbv 0 (T.get e).size&&Rx T e) <|
   ∃q,Bl (T.get k).kind (.val F) es=some q/\∃v,q.getD (N3 T e)=v/\∃b,q.isSome=b/\K (match ok with
   | true=>.qT [.d v,.b b]
   | false=>.d v)
 | _,_,_=>False
def ZO (T:TT)(G:Nat->O (I (D×D)))(t:Nat)(x key:AV)(ok:C)(ob:I (O OB))(K:AV->Prop):Prop:=match x with
 | .gv g=>iV T G t g key ok K
 | x=>Y1 T t x key ok ob K
def Lp (T:TT)(t:Nat)(x key v:AV)(ob:I (O OB))(K:AV->W->Prop):Prop:=match (T.get t).kind,x,key with
 | .map k _,.mp r,.d (.val H)=>AU (Il (T.get k).kind H&&Ig (T.get k).kind&&BI T k) <| fv ob v λd w=>AU (w.all λq=>!Nat.beq q.1 r) <| CX ob r λo=>(match o with
  | .map J M P=>∃F,Ek (T.get k).kind (.val H) d P=some F/\K .dead (w++[(r,.map J M F)])
  | .qu J M P _ _ _=>∃F,Ek (T.get k).kind (.val H) d P=some F/\K .dead (w++[(r,.map J M F)])
  | _=>False)
 | _,_,_=>False
def OW (T:TT)(t:Nat)(x key:AV)(J n:Nat)(ob:I (O OB))(K:AV->W->Prop):Prop:=match (T.get t).kind,x,key with
 | .map k _,.mp r,.d (.val F)=>AU (Il (T.get k).kind F&&Ig (T.get k).kind&&BI T k) <| fv ob (.own J n) λd w=>AU (w.all λq=>!Nat.beq q.1 r) <| CX ob r λo=>(match o with
  | .map M P Q=>∃H,Ek (T.get k).kind (.val F) d Q=some H/\K .dead (w++[(r,.qu M P H F J n)])
  | .qu M P Q _ _ _=>∃H,Ek (T.get k).kind (.val F) d Q=some H/\K .dead (w++[(r,.qu M P H F J n)])
  | _=>False)
 | _,_,_=>False
def Nr (T:TT)(t:Nat)(x key v:AV)(ob:I (O OB))(K:AV->W->Prop):Prop:=match v with
 | .own r n=>Lp T t x key (.own r n) ob K\/OW T t x key r n ob K
 | v=>Lp T t x key v ob K
def EK (T:TT)(t len self:Nat)(F:I (Nat×AV))(ob:I (O OB))(K:AV->W->Prop):Prop:=
 match (T.get t).kind with
 | .slice e=>tb ob self <| AU (Xbv 0 (T.get e).size&&Xdl (len*(T.get e).size) 16777216) <| AU (BI T e) <|
  elems (T.get e).size 0 F λH w=>AU (Xa0 H.length len) <| K (.own self len) (w++[(self,.row e (T.get e).size H .no)])
 | _=>False where
 elems (sz:Nat):Nat->I (Nat×AV)->(I D->W->Prop)->Prop
  | _,[],K=>K [] []
  | i,(j,v)::rest,K=>match Xa0 i j with
   | true=>fv ob v λx w=>AU (Xa0 x.cells.length sz) <| elems sz (i+1) rest λl w'=>K (x::l) (w++w')
   | false=>False
def uh (T:TT)(t:Nat):C:=match (T.get t).kind.re with
 | some true=>true
 | _=>false
def Lj (T:TT)(t len self:Nat)(F:I AV)(ob:I (O OB))(K:AV->W->Prop):Prop:=
 match (T.get t).kind with
 | .slice e=>tb ob self <| AU (Xa0 len 1&&uh T e&&Xa0 (T.get e).size F.length&&Xbv 0 (T.get e).size&&Xdl (T.get e).size 65536) <| K (.own self 1) [(self,.box F)]
 | _=>False
def M1 (T:TT)(t len self:Nat)(F:I AV)(ob:I (O OB))(K:AV->W->Prop):Prop:=False
def Ii (T:TT)(t len self:Nat)(F:I (Nat×AV))(ob:I (O OB))(K:AV->W->Prop):Prop:=match F with
 | [(0,.agg H)]=>EK T t len self [(0,.agg H)] ob K\/Lj T t len self H ob K\/M1 T t len self H ob K
 | F=>EK T t len self F ob K
def WY (ob:I (O OB))(y:AV)(K:Nat->I D->Prop):Prop:=match y with
 | .d (.qY sz F)=>K sz F
 | .d (.nil sz)=>K sz []
 | .own r n=>CX ob r λo=>(match o with
  | .row _ sz F _=>n=F.length/\K sz F
  | _=>False)
 | _=>False
def XK (ob:I (O OB))(y:AV)(K:Nat->I D->Prop):Prop:=match y with
 | .rO r a n m=>CX ob r λo=>(match o with
  | .row _ sz F _=>m=F.length/\∃H,(F.drop a).take n=H/\K sz H
  | _=>False)
 | y=>WY ob y K
def dp (ob:I (O OB))(y:AV)(k sz:Nat)(frz:FZ)(K:FZ->Prop):Prop:=match frz with
 | .rl=>K .rl
 | _=>(match y with
  | .own q n=>(match ob.getD q none with
   | some (.row _ F ys (.lk i j H m))=>(match Xa0 F sz with
    | true=>n=ys.length/\K (.lk (k+i) j H m)
    | false=>K .no)
   | _=>K .no)
  | _=>K .no)
def QW (T:TT)(st:Nat)(self:Nat)(x y:AV)(ob:I (O OB))(K:AV->W->Prop):Prop:=
 match (T.get st).kind with
 | .slice e=>XK ob y λH ys=>(match x with
  | .d (.nil _)=>tb ob self <| AU (Xa0 H (T.get e).size&&Xbv 0 (T.get e).size) <| AU (BI T e) <| (ys.length*(T.get e).bytes<=2^47/\ys.length<=2^47)/\
    K (.own self ys.length) [(self,.row e (T.get e).size ys .no)]
  | .own r n=>CX ob r λo=>(match o with
   | .row P sz F J=>AU (Xa0 P e&&Xa0 H sz&&Xa0 sz (T.get e).size&&Xbv 0 sz) <| AU (BI T e) <| n=F.length/\((F.length+ys.length)*(T.get e).bytes<=2^47/\F.length+ys.length<=2^47)/\
     ∃M,F++ys=M/\dp ob y F.length sz J λf=>K (.own r M.length) [(r,.row P sz M f)]
   | _=>False)
  | .rO r a n m=>CX ob r λo=>(match o with
   | .row P sz F J=>AU (Xa0 P e&&Xa0 H sz&&Xa0 sz (T.get e).size&&Xbv 0 sz&&J.free) <| AU (BI T e) <| tb ob self <| a=0/\m=F.length/\n<=F.length/\((n+ys.length)*(T.get e).bytes<=2^47/\n+ys.length<=2^47)/\
     ∃M,F.take n++ys=M/\K (.own self M.length) [(r,.gone),(self,.row P sz M .no)]
   | _=>False)
  | _=>False)
 | _=>False
def hZ (T:TT)(t:Nat)(x:AV)(K:AV->Prop):Prop:=
 match (T.get t).kind,x with
 | .slice _,.d (.qY _ es)=>∃n:Nat,es.length=n/\K (.i n)
 | .slice _,.d (.nil _)=>K (.i 0)
 | .slice _,.own _ n=>∃m:Nat,n=m/\K (.i m)
 | .slice _,.rO _ _ n _=>∃m:Nat,n=m/\K (.i m)
 | .str,.d (.val (.string s))=>K (.i s.size)
 | .arr n _,_=>K (.i n)
 | _,_=>False
def Ib (T:TT)(t:Nat)(x y:AV)(ob:I (O OB))(K:AV->Prop):Prop:=
 match y with
 | .d (.val (.int _ i))=>(match (T.get t).kind,x with
  | .slice e,.d (.qY sz F)=>AU (BI T e) <| AU (Xa0 sz (T.get e).size) <| (0<=i/\i<F.length)/\∃v,F.getD i.toNat default=v/\v.cells.length=sz/\K (.ru v.cells)
  | .slice e,.own r n=>CX ob r λo=>(match o with
   | .row _ sz F _=>AU (BI T e) <| AU (Xa0 sz (T.get e).size) <| n=F.length/\(0<=i/\i<F.length)/\K (.qQ r n i.toNat 0)
   | .box H=>AU (BI T e) <| AU (Xa0 H.length (T.get e).size) <| i=0/\K (.ref r 0)
   | _=>False)
  | .arr n e,.ref r off=>AU (BI T e) <| AU (Xdl 2 n) <| ((0<=i/\i<n)/\K (.ref r (off+i.toNat*(T.get e).size))) \/
    AU (Xa0 (T.get e).size 1) ((0<=i/\i<n)/\∃j,i.toNat=j/\K (.qQ r n j off))
  | _,_=>False)
 | _=>False
def Js (T:TT)(t r a n m:Nat)(y:AV)(ob:I (O OB))(K:AV->Prop):Prop:=
 match y with
 | .d (.val (.int _ i))=>(match (T.get t).kind with
  | .slice e=>CX ob r λo=>(match o with
   | .row _ sz F _=>AU (BI T e) <| AU (Xa0 sz (T.get e).size) <| m=F.length/\(0<=i/\i<n)/\∃j,a+i.toNat=j/\K (.qQ r m j 0)
   | _=>False)
  | _=>False)
 | _=>False
def Jx (T:TT)(t:Nat)(x y:AV)(ob:I (O OB))(K:AV->Prop):Prop:=match x with
 | .rO r a n m=>Js T t r a n m y ob K
 | x=>Ib T t x y ob K
def ZE (T:TT)(t:Nat)(F:I AV)(off:Nat)(K:AV->Prop):Prop:=
 match (T.get t).kind.re with
 | some true=>PZ F off λF=>AU (Xdl (T.get t).size F.length) <| OM F (T.get t).size λl=>UR l K
 | some false=>(match F[off]? with
  | some a=>a.force K
  | none=>False)
 | none=>False
def JI (x:AV)(K:I AV->Prop):Prop:=match x with
 | .d (.agg F)=>QU (λc K=>K (.d c)) F K
 | .agg F=>K F
 | _=>False
def Uz (T:TT)(t:Nat)(x y:AV)(K:AV->Prop):Prop:=
 match y with
 | .d (.val (.int _ i))=>(match (T.get t).kind,x with
  | .str,.d (.val (.string s))=>(0<=i/\i<s.size)/\∃c,s.toList.getD i.toNat 0=c/\K (.u c.toNat)
  | .arr n e,x=>JI x λF=>(0<=i/\i<n)/\(match (T.get e).kind.re with
   | some false=>∃a,F[i.toNat*(T.get e).size]?=some a/\a.force K
   | _=>False)
  | _,_=>False)
 | _=>False
def VG (T:TT)(t i:Nat)(x:AV)(K:AV->Prop):Prop:=
 match (T.get t).kind with
 | .struct fs=>(match fs[i]? with
  | some (o,_,F)=>JI x λH=>ZE T F H o K
  | none=>False)
 | _=>False
def Zx (T:TT)(F dst:Nat)(x:AV)(ob:I (O OB))(K:AV->Prop):Prop:=
 AU (T.get F).kind.re.isSome <| match (T.get dst).kind,x with
 | .int k,.d (.val (.int _ n))=>∃r,k.wrap n=r/\K (.d (.val (.int k r)))
 | .str,.d (.val (.string s))=>K (.s s)
 | .str,x=>(match (T.get F).kind with
  | .slice e=>(match (T.get e).kind with
   | .int .u8=>AU (Xa0 (T.get e).size 1) <| XK ob x λsz H=>AU (Xa0 sz 1) <|∃l:I S,H=l.map (λc=>.u c.toNat)/\K (.s ⟨l.toArray⟩)
   | _=>False)
  | _=>False)
 | _,_=>False
def isNil:AV->C
 | .d (.val (.slice Xa1 0 0))=>true
 | _=>false
def XW (T:TT)(ty self:Nat)(x:AV)(ob:I (O OB))(K:AV->W->Prop):Prop:=
 match isNil x with
 | true=>(match (T.get ty).kind with
  | .slice e=>(match ob[self]? with
   | some none=>AU (Xbv 0 (T.get e).size) <| K (.own self 0) [(self,.row e (T.get e).size [] .no)]
   | _=>K (.d (.nil (T.get e).size)) [])
  | _=>False)
 | false=>x.force λx=>K x []
def LD (qL:C)(ob:I (O OB))(a:AV)(ρ:I Nat)(K:AV->I Nat->W->Prop):Prop:=match a with
 | .d x=>(match qL,x with
  | true,.nil sz=>K (.d (.nil sz)) ρ []
  | _,x=>Pi x λx=>K (.d x) ρ [])
 | .own r n=>(match qL with
  | true=>refK r ρ λi ρ=>K (.own i n) ρ []
  | false=>fv ob (.own r n) λx w=>K (.d x) ρ w)
 | .agg J=>fv ob (.agg J) λx w=>K (.d x) ρ w
 | .ref r M=>refK r ρ λi ρ=>K (.ref i M) ρ []
 | .mp r=>refK r ρ λi ρ=>K (.mp i) ρ []
 | .it f r=>refK r ρ λi ρ=>K (.it f i) ρ []
 | .ru J=>K (.ru J) ρ []
 | .fn f H=>capsK H ρ λH ρ=>K (.fn f H) ρ []
 | _=>False where
 refK (r:Nat) (ρ:I Nat) (K:Nat->I Nat->Prop):Prop:=go r ρ 0 (λi=>K i ρ) (λn=>K n (ρ++[r]))
 go (r:Nat):I Nat->Nat->(Nat->Prop)->(Nat->Prop)->Prop
  | [],n,_,N=>N n
  | x::ρ,n,F,N=>match Xa0 x r with
   | true=>F n
   | false=>go r ρ (n+1) F N
 capsK:I AV->I Nat->(I AV->I Nat->Prop)->Prop
  | [],ρ,K=>K [] ρ
  | .ref r M::J,ρ,K=>refK r ρ λi ρ=>capsK J ρ λJ ρ=>K (.ref i M::J) ρ
  | _::_,_,_=>False
def Rq (qL:I C)(ob:I (O OB)):I AV->I Nat->(I AV->I Nat->W->Prop)->Prop
 | [],F,K=>K [] F []
 | a::J,F,K=>LD (qL.headD false) ob a F λM F w=>Rq qL.tail ob J F λH F w'=>K (M::H) F (w++w')
def HO (ob:I (O OB)):I Nat->(I OB->Prop)->Prop
 | [],K=>K []
 | r::H,K=>CX ob r λo=>match o with
  | .box J=>cellsD J λM=>HO ob H λl=>K (.box M::l)
  | .row e sz P F=>AU (!F.linked) <| HO ob H λl=>K (.row e sz P F::l)
  | .map k e P=>HO ob H λl=>K (.map k e P::l)
  | .qu ..=>False
  | .gone=>False where
 cellsD:I AV->(I AV->Prop)->Prop
  | [],K=>K []
  | .d x::J,K=>cellsD J λl=>K (.d x::l)
  | _::_,_=>False
def NT (ρ:I Nat)(self:Nat)(a:AV)(K:AV->Prop):Prop:=match a with
 | .d x=>K (.d x)
 | .ref i F=>K (.ref (ρ.getD i self) F)
 | .own i n=>K (.own (ρ.getD i self) n)
 | .mp i=>K (.mp (ρ.getD i self))
 | .it f i=>K (.it f (ρ.getD i self))
 | .qT J=>renTup ρ self J λl=>K (.qT l)
 | .agg J=>renTup ρ self J λl=>K (.agg l)
 | _=>False where
 renTup (ρ:I Nat) (self:Nat):I AV->(I AV->Prop)->Prop
  | [],K=>K []
  | .d x::l,K=>renTup ρ self l λH=>K (.d x::H)
  | .ref i F::l,K=>renTup ρ self l λH=>K (.ref (ρ.getD i self) F::H)
  | .own i n::l,K=>renTup ρ self l λH=>K (.own (ρ.getD i self) n::H)
  | _::_,_=>False
def BK:OB->C
 | .box F=>F.all λ| .d _=>true|_=>false
 | .row _ _ _ f=>!f.linked
 | .map _ _ _=>true
 | .qu ..=>false
 | .gone=>true
def J9 (ρ:I Nat)(self:Nat)(gD:I OB)(K:W->Prop):Prop:=match ρ,gD with
 | [],[]=>K []
 | [],[o]=>match BK o with
  | true=>K [(self,o)]
  | false=>False
 | r::ρ,o::os=>match BK o with
  | true=>J9 ρ self os λw=>K ((r,o)::w)
  | false=>False
 | _,_=>False
def LK (cx:Cx)(f:Xcs)(self:Nat)(args:I AV)(ob:I (O OB))(K:AV->W->Prop):Prop:=
 Rq (cx.qL f) ob args [] λH J w=>AU (apartW w J) <| HO ob J λgD=>
  ∃M F,cx.C f H gD M F/\(F.length=J.length\/ob[self]?=some none)/\
   NT J self M λP=>J9 J self F λw'=>K P (w++w') where
 apartW (w:W) (J:I Nat):Bool:=w.all λx=>J.all λr=>match Xa0 r x.1 with
  | true=>false
  | false=>true
def V9 (cx:Cx)(f:Xcs)(self:Nat)(args:I AV)(ob:I (O OB))(K:AV->W->Prop):Prop:=LK cx f self args ob K
def W4 (cx:Cx)(f:Xcs)(self:Nat)(args:I AV)(ob:I (O OB))(K:AV->W->Prop):V9 cx f self args ob K=LK cx f self args ob K:=rfl
def UM:I Nat->I OB->(W->Prop)->Prop
 | [],[],K=>K []
 | r::F,o::os,K=>(match BK o with
  | true=>UM F os λw=>K ((r,o)::w)
  | false=>False)
 | _,_,_=>False
def NY:I Nat->Nat->C
 | [],_=>false
 | x::l,r=>Xa0 r x || NY l r
def Rz:I Nat->C
 | []=>true
 | x::l=>!NY l x&&Rz l
def fi (ob:I (O OB))(F:I Nat):C:=Rz F&&F.all λr=>match ob[r]? with
 | some none=>true
 | _=>false
def Pm:D->C
 | .val _=>true
 | .agg F=>F.all λ| .val _=>true|_=>false
 | _=>false
def ZA:AV->C
 | .d x=>Pm x
 | .qT F=>F.all λ| .d x=>Pm x|_=>false
 | _=>false
def fX (cx:Cx)(f:Xcs)(args:I AV)(ob:I (O OB))(K:AV->W->Prop):Prop:=
 Rq (cx.qL f) ob args [] λM P w=>AU (LK.apartW w P) <| HO ob P λgD=>
  ∃(J:AV) (F:I OB) (b:O (I Nat)),cx.C f M gD J F/\(match b with
   | some H=>AU (fi ob H) <| NT (P++H) 0 J λQ=>UM (P++H) F λw'=>K Q (w++w')
   | none=>AU (P.isEmpty&&F.isEmpty&&ZA J) (K J []))
def VW (T:TT)(t r a n m:Nat)(ob:I (O OB))(K:AV->W->Prop):Prop:=match (T.get t).kind with
 | .slice e=>CX ob r λo=>(match o with
  | .row M sz F H=>AU (BI T e&&Xa0 sz (T.get e).size&&H.free&&Rx T e) <| m=F.length/\∃z,N3 T e=z/\∃J,F.take a++Xal n z++F.drop (a+n)=J/\K (.qT []) [(r,.row M sz J .no)]
  | _=>False)
 | _=>False
def ng (T:TT)(e r a n m F:Nat)(ys:I D)(ob:I (O OB))(K:AV->W->Prop):Prop:=CX ob r λo=>(match o with
  | .row P sz H J=>AU (BI T e&&Xa0 sz (T.get e).size&&Xa0 F sz&&J.free) <| m=H.length/\∃M,H.take a++ys.take n++H.drop (a+min ys.length n)=M/\∃k:Nat,min ys.length n=k/\K (.i k) [(r,.row P sz M .no)]
  | _=>False)
def fu (T:TT)(t:Nat)(x y:AV)(ob:I (O OB))(K:AV->W->Prop):Prop:=False
def kP (args:I AV)(K:AV->Prop):Prop:=match args with
 | [.d (.val (.int k x)),.d (.val (.int _ y))]=>∃r,(if y>x then y else x)=r/\K (.d (.val (.int k r)))
 | _=>False
def jp (args:I AV)(K:AV->Prop):Prop:=match args with
 | [.d (.val (.int k x)),.d (.val (.int _ y))]=>∃r,(if y<x then y else x)=r/\K (.d (.val (.int k r)))
 | _=>False
def G6 (T:TT)(t:Nat)(a:AV):AV:=match isNil a with
 | true=>(match (T.get t).kind with
  | .slice e=>.d (.nil (T.get e).size)
  | _=>a)
 | false=>a
def F8 (T:TT)(av:Xau->AV):I Xau->I Nat->I AV
 | x::xs,t::F=>G6 T t (av x)::F8 T av xs F
 | xs,_=>xs.map av
def vg (a:AV)(K:Xcs->I AV->Prop):Prop:=match a with
 | .fn f F=>K f F
 | .d (.val (.func (.func f) p q))=>(match p.toList,q.toList with
  | [],[]=>K f []
  | _,_=>False)
 | _=>False
def Vi {a:AV}{K:Xcs->I AV->Prop}(h:vg a K) :∃f F,K f F/\(a=.fn f F\/(a=.d (.val (.func (.func f) #[] #[]))/\F=[])):=by
 unfold vg at h;split at h
 ·exact⟨_,_,h,.inl rfl⟩
 ·rename_i f p q;split at h
  ·rename_i hp H;have hp:p=#[]:=by cases p;simp_all
   have H:q=#[]:=by cases q;simp_all
   subst hp H;exact⟨_,_,h,.inr ⟨rfl,rfl⟩⟩
  exact h.elim
 exact h.elim
def qU (cx:Cx)(o:z)(av:Xau->AV)(ob:I (O OB))(K:AV->W->Prop):Prop:=
 match o.op with
 | .move x|.assign x=>(match x with
  | .const v=>XW cx.T o.type (cx.np+o.dst.getD 0) (av (.const v)) ob K
  | x=>(av x).force λv=>K v [])
 | .pick c a b=>ec (av c) (av a) (av b) λv=>K v []
 | .alloc t=>AU (BI cx.T t) <| tb ob (cx.np+o.dst.getD 0) <| K (.ref (cx.np+o.dst.getD 0) 0) [(cx.np+o.dst.getD 0,.box ((cx.T.get t).zero.map .d))]
 | .box t x=>tb ob (cx.np+o.dst.getD 0) <| M8 (av x) λM=>AU (Xa0 M.length (cx.T.get t).size) <| K (.ref (cx.np+o.dst.getD 0) 0) [(cx.np+o.dst.getD 0,.box M)]
 | .build t H=>KP cx.T t (H.toList.map λ(i,x)=>(i,av x)) λv=>K v []
 | .buildSlice t len H=>Ii cx.T t len (cx.np+o.dst.getD 0) (H.toList.map λ(i,x)=>(i,av x)) ob K
 | .load t x=>Zp cx.T cx.G t (av x) ob λv=>K v []
 | .store t a x=>Oy cx.T t (av a) (G6 cx.T t (av x)) ob K
 | .nilCheck x=>(match av x with
  | .ref r J=>K (.ref r J) []
  | .ru M=>K (.ru M) []
  | .qQ r n i k=>K (.qQ r n i k) []
  | .fn f F=>K (.fn f F) []
  | .d (.val (.func (.func g) p q))=>K (.d (.val (.func (.func g) p q))) []
  | _=>False)
 | .binOp op t x y _=>mF cx.T op t (av x) (av y) λv=>K v []
 | .unOp op _ x=>vX op (av x) λv=>K v []
 | .convert P dst x=>Zx cx.T P dst (av x) ob λv=>K v []
 | .fieldAddr t x i=>Nw cx.T t i λJ size _=>(match av x with
  | .ref r o=>K (.ref r (o+J)) []
  | .ru M=>PZ M J λM=>OM M size λM=>K (.ru M) []
  | .qQ r n i k=>CX ob r λo=>(match o with
   | .row _ _ V _=>n=V.length/\K (.qQ r n i (k+J)) []
   | _=>False)
  | _=>False)
 | .field t x i=>VG cx.T t i (av x) λv=>K v []
 | .indexAddr t x y=>Jx cx.T t (av x) (av y) ob λv=>K v []
 | .index t x y=>Uz cx.T t (av x) (av y) λv=>K v []
 | .makeMap t none=>(match (cx.T.get t).kind with
  | .map k e=>tb ob (cx.np+o.dst.getD 0) <| K (.mp (cx.np+o.dst.getD 0)) [(cx.np+o.dst.getD 0,.map k e [])]
  | _=>False)
 | .lookup t x y ok=>ZO cx.T cx.G t (av x) (av y) ok ob λv=>K v []
 | .mapUpdate t m k v|.insert t m k v=>Nr cx.T t (av m) (av k) (av v) ob K
 | .slice t x Q U none=>Xz cx.T t (cx.np+o.dst.getD 0) (G6 cx.T t (av x)) (Q.map av) (U.map av) ob K
 | .slice t x Q U (some m)=>U0 cx.T t (cx.np+o.dst.getD 0) (av x) (Q.map av) (U.map av) (some (av m)) ob K
 | .makeSlice t n c=>Zv cx.T t (cx.np+o.dst.getD 0) (av n) (av c) ob K
 | .extract x i=>(match av x with
  | .qT Y=>(match Y[i]? with
   | some a=>a.force λv=>K v []
   | none=>False)
  | _=>False)
 | .makeFunc (.func f) first F=>(match first.toList with
  | []=>K (.fn f (F.toList.map av)) []
  | _=>False)
 | .call c=>(match c.callee with
  | .value x=>vg (av x) λf F=>V9 cx f (cx.np+o.dst.getD 0) (F8 cx.T av c.args.toList c.argTypes.toList++F) ob K
  | .builtin .len=>(match c.args.toList,c.argTypes.toList with
   | [x],[t]=>hZ cx.T t (G6 cx.T t (av x)) λv=>K v []
   | _,_=>False)
  | .builtin .append=>(match c.args.toList,c.argTypes.toList with
   | [x,y],[t,u]=>(match Xa0 t u with
    | true=>QW cx.T t (cx.np+o.dst.getD 0) (G6 cx.T t (av x)) (G6 cx.T t (av y)) ob K
    | false=>fS cx.T t u (cx.np+o.dst.getD 0) (G6 cx.T t (av x)) (av y) ob K)
   | _,_=>False)
  | .builtin .cap=>(match c.args.toList,c.argTypes.toList with
   | [x],[t]=>lw cx.T t (G6 cx.T t (av x)) λv=>K v []
   | _,_=>False)
  | .builtin .clear=>(match c.args.toList,c.argTypes.toList with
   | [x],[t]=>(match av x with
    | .rO r a n m=>VW cx.T t r a n m ob K
    | _=>False)
   | _,_=>False)
  | .builtin .copy=>(match c.args.toList,c.argTypes.toList with
   | [x,y],[t,_]=>fu cx.T t (av x) (av y) ob K
   | _,_=>False)
  | .builtin .max=>(match c.args.toList with
   | [x,y]=>kP [av x,av y] λv=>K v []
   | _=>False)
  | .builtin .min=>(match c.args.toList with
   | [x,y]=>jp [av x,av y] λv=>K v []
   | _=>False)
  | _=>False)
 | _=>False
def MI (tm:I AV)(dst:O Nat)(v:AV)(K:I AV->Prop):Prop:=match dst with
 | some d=>La tm d v K
 | none=>K tm
def tY (ob:I (O OB)):W->(I (O OB)->Prop)->Prop
 | [],K=>K ob
 | (r,o)::w,K=>La ob r (some o) λob=>tY ob w K
def JV (F:Array z)(o:z)(tm:I AV)(rl no:I AV->Prop):Prop:=match o.guard with
 | none=>rl tm
 | some (j,want)=>match (F[j]?).bind (·.dst) with
  | some t=>(match tm.getD t .dead with
   | .d (.val (.bool b))=>(match want with
    | true=>IR b (La tm t (.b true) rl) (La tm t (.b false) no)
    | false=>IR b (La tm t (.b true) no) (La tm t (.b false) rl))
   | .qT _=>no tm
   | _=>False)
  | none=>False
def U4 (T:TT)(t self:Nat)(F:I AV)(y:AV)(ob:I (O OB))(K:AV->W->Prop):Prop:=match (T.get t).kind with
 | .slice e=>tb ob self <| AU (uh T e&&Xa0 (T.get e).size F.length&&Xbv 0 (T.get e).size&&Xdl (T.get e).bytes 65536) <| XK ob y λsz ys=>AU (Xa0 sz (T.get e).size&&!ys.isEmpty) <| ys.length<=1000000/\
   fv ob (.agg F) λd w=>AU (w.all λq=>!Nat.beq q.1 self) <| K (.own self (ys.length+1)) (w++[(self,.row e (T.get e).size (d::ys) .no)])
 | _=>False
def vj (cx:Cx)(o:z)(av:Xau->AV)(ob:I (O OB))(K:AV->W->Prop):Prop:=match o.op with
 | .binOp op F x y Q=>(match av x,av y with
  | .d (.qY sz es),.d (.val (.slice none 0 0))=>(match op,(cx.T.get F).kind with
   | .eql,.slice _=>K (.b false) []/\(es.length=0->K (.b true) [])
   | _,_=>False)
  | _,_=>qU cx o av ob K)
 | .store F a x=>(match av a,av x with
  | .qQ r n i k,.own M P=>GR cx.T F r n i k (.own M P) ob K\/H2 cx.T F r n i k M P ob K
  | .qQ r n i k,.agg J=>GR cx.T F r n i k (.agg J) ob K
  | _,_=>qU cx o av ob K)
 | .call c=>(match c.callee with
  | .builtin .append=>(match c.args.toList,c.argTypes.toList with
   | [x,y],[t,u]=>(match av x with
    | .own r _=>(match ob.getD r none with
     | some (.box J)=>AU (Xa0 t u) <| U4 cx.T t (cx.np+o.dst.getD 0) J (av y) ob K
     | _=>qU cx o av ob K)
    | _=>qU cx o av ob K)
   | _,_=>qU cx o av ob K)
  | .value x=>vg (av x) λf H=>fX cx f (F8 cx.T av c.args.toList c.argTypes.toList++H) ob K
  | _=>qU cx o av ob K)
 | _=>qU cx o av ob K
def stepG (H:Array z)(o:z)(F:(Xau->AV)->I (O OB)->(AV->W->Prop)->Prop)(st:pw)(K:pw->Prop):Prop:=
 match st with
 | ⟨tm,ob⟩=>JV H o tm
  (λtm=>F (sJ tm) ob λv w=>MI tm o.dst v λtm=>tY ob w λob=>K ⟨tm,ob⟩)
  (λtm=>MI tm o.dst (.qT []) λtm=>K ⟨tm,ob⟩)
def MY (cx:Cx)(F:Array z)(o:z)(st:pw)(K:pw->Prop):Prop:=
 match st with
 | ⟨tm,ob⟩=>JV F o tm
  (λtm=>qU cx o (sJ tm) ob λv w=>MI tm o.dst v λtm=>tY ob w λob=>K ⟨tm,ob⟩)
  (λtm=>MI tm o.dst (.qT []) λtm=>K ⟨tm,ob⟩)
inductive AE where
 | normal|exit (id:Nat)|ret
def AV.refs:AV->I Nat
 | .ref r _=>[r]
 | .own r _=>[r]
 | .mp r=>[r]
 | .it _ r=>[r]
 | .qQ r _ _ _=>[r]
 | .rO r _ _ _=>[r]
 | .agg F=>refsL F
 | .fn _ F=>refsL F
 | .qT F=>refsL F
 | _=>[] where
 refsL:I AV->I Nat
  | []=>[]
  | a::l=>a.refs++refsL l
def OB.refs:OB->I Nat
 | .box F=>AV.refs.refsL F
 | .row _ _ _ f=>f.refs
 | .map _ _ _=>[]
 | .qu _ _ _ _ r _=>[r]
 | .gone=>[]
def Bz (o:z):I Nat:=(o.after.toList.filter (Region.binds .any)).map (·.on)
def IS:I z->I (I Nat)->I (I Nat)
 | [],acc=>acc
 | o::l,acc=>IS l (((Bz o).flatMap λj=>j::acc.getD (acc.length-1-j) [])::acc)
def GB (F:Array z)(i:Nat):I Nat:=(IS F.toList []).getD (F.size-1-i) []
def E1 (F:Array z):C:=
 (Xb2 F.size).all λi=>match F[i]? with
  | none=>false
  | some o=>(Bz o).all (λj=>Xbv j i)&&(match o.op with|.select _ _=>false|_=>true) &&
   (Xb2 i).all λj=>(GB F i).contains j || (match F[j]? with
    | none=>false
    | some q=>q.apart F o)
def WT:Op->C
 | .move (.const _)|.assign (.const _)|.store ..|.alloc _|.box ..|.buildSlice ..|.slice ..|.makeSlice ..|.makeMap ..|.mapUpdate ..|.insert ..=>true
 | .call c=>match c.callee with
  | .builtin .append=>true
  | .builtin .clear=>true
  | .builtin .copy=>true
  | .value _=>true
  | _=>false
 | _=>false
def AV.sY:AV->C
 | .rO _ _ _ _=>true
 | _=>false
def jb:Op->C
 | .slice ..=>true
 | _=>false
def vP:Op->O Xau
 | .call c=>(match c.callee,c.args.toList with
  | .builtin .append,[x,_]=>some x
  | _,_=>none)
 | _=>none
def Q8 (o:Op):I Xau:=match o with
 | .move (.tmp _)|.assign (.tmp _)|.pick ..|.extract ..=>[]
 | o=>o.operands.toList
def RP (np:Nat)(o:z)(tm:I AV):I Nat:=
 (match WT o.op with
  | true=>[np+o.dst.getD 0]
  | false=>[])++(Q8 o.op).flatMap λx=>(sJ tm x).refs
def fU (np:Nat)(o:z)(tm tm':I AV):I Nat:=match jb o.op with
 | true=>(match o.dst with
  | some d=>(match (tm'.getD d .dead).sY with
   | true=>[]
   | false=>RP np o tm)
  | none=>RP np o tm)
 | false=>(match WT o.op with
  | true=>(match vP o.op with
   | some x=>(np+o.dst.getD 0)::(sJ tm x).refs
   | none=>RP np o tm)
  | false=>[])
def EV (F:Array z):Nat->I (I Nat×I Nat)->C
 | _,[]=>true
 | i,(H,wr)::l=>sb F i H wr (i+1) l&&EV F (i+1) l where
 sb (F:Array z) (i:Nat) (H wr:I Nat):Nat->I (I Nat×I Nat)->C
  | _,[]=>true
  | j,(J,K)::l=>((GB F j).contains i || ((wr.all λr=>!J.contains r)&&H.all λr=>!K.contains r))&&sb F i H wr (j+1) l
def TD (cx:Cx)(H:Array z):I z->I (I Nat×I Nat)->pw->(I (I Nat×I Nat)->pw->Prop)->Prop
 | [],F,st,K=>K F.reverse st
 | o::rest,F,⟨tm,ob⟩,K=>MY cx H o ⟨tm,ob⟩ λJ=>TD cx H rest ((RP cx.np o tm,fU cx.np o tm J.tm)::F) J K
def AV.one:AV->C
 | .d x=>!x.isAgg
 | .agg _|.qT _|.dead|.gl _|.gv _=>false
 | _=>true
def wR (es:I D)(f frz:FZ):Prop:=(f.frozen=true->frz.frozen=true)/\match frz with
 | .lk i j q n=>es.length<=i \/∃F H,f=.lk F j q H/\F=i/\H=n
 | _=>True
inductive rh (s s':pw):AV->AV->Prop where
 | refl (a:AV):rh s s' a a
 | dead (a:AV):rh s s' a .dead
 | norm (x:D):rh s s' (.d x) (.d x.norm)
 | qY (r n e sz:Nat) (es:List D) (frz:FZ) (h:s.ob.getD r none=some (.row e sz es frz)) (hn:n=es.length)
   (h':s'.ob.getD r none=none\/s'.ob.getD r none=some (.row e sz es .rl)):rh s s' (.own r n) (.d (.qY sz es))
 | uL (r n n':Nat) (h:n=n'):rh s s' (.own r n) (.own r n')
 | rO (r a n m m':Nat) (h:m=m'):rh s s' (.rO r a n m) (.rO r a n m')
 | uN (r a n m e sz:Nat) (es zs:List D) (frz:FZ) (h:s.ob.getD r none=some (.row e sz es frz)) (hm:m=es.length) (hz:(es.drop a).take n=zs)
   (h':s'.ob.getD r none=none\/s'.ob.getD r none=some (.row e sz es .rl)):rh s s' (.rO r a n m) (.d (.qY sz zs))
 | fresh (r e sz:Nat) (h:s.ob.getD r none=none) (h':s'.ob.getD r none=some (.row e sz [] .no)):rh s s' (.d (.nil sz)) (.own r 0)
 | vU (r:Nat) (cs:List AV) (ys:List D) (sz:Nat) (h:s.ob.getD r none=some (.box cs)) (h':s'.ob.getD r none=none) (qE:sz=cs.length) (hl:ys.length=cs.length) (hp:0<cs.length)
   (hc :∀i (hi:i<cs.length) (hi':i<ys.length),rh s s' cs[i] (.d ys[i])) (hn :∀i (hi:i<ys.length),ys[i].isAgg=false):rh s s' (.own r 1) (.d (.qY sz [.agg ys]))
 | qT (cs cs':List AV) (hl:cs.length=cs'.length) (hc :∀i (hi:i<cs.length) (hi':i<cs'.length),rh s s' cs[i] cs'[i]):rh s s' (.qT cs) (.qT cs')
 | agg (cs cs':List AV) (hl:cs.length=cs'.length) (hc :∀i (hi:i<cs.length) (hi':i<cs'.length),rh s s' cs[i] cs'[i]) (hn :∀i (hi:i<cs'.length),cs'[i].one=true):rh s s' (.agg cs) (.agg cs')
 | vM (cs:List AV) (ys:List D) (hl:cs.length=ys.length) (hc :∀i (hi:i<cs.length) (hi':i<ys.length),rh s s' cs[i] (.d ys[i])) (hn :∀i (hi:i<ys.length),ys[i].isAgg=false):rh s s' (.agg cs) (.d (.agg ys))
 | vQ (ds:List D) (cs':List AV) (hl:ds.length=cs'.length) (hc :∀i (hi:i<ds.length) (hi':i<cs'.length),rh s s' (.d ds[i]) cs'[i]) (hn :∀i (hi:i<cs'.length),cs'[i].one=true):rh s s' (.d (.agg ds)) (.agg cs')
def ue (s F:pw):I AV->I AV->Prop
 | [],[]=>True
 | a::l,H::J=>(match H with
  | .dead=>ue s F l J
  | H=>rh s F a H/\ue s F l J)
 | _,_=>False
def M3 (s F:pw):I AV->I AV->Prop
 | [],[]=>True
 | a::l,H::J=>(H.one=true/\rh s F a H)/\M3 s F l J
 | _,_=>False
def te (s F:pw):I (O OB)->I (O OB)->Prop
 | [],[]=>True
 | o::l,U::H=>(match U with
  | none=>te s F l H
  | some (.box K)=>(∃P,o=some (.box P)/\M3 s F P K)/\te s F l H
  | some (.row e sz es M)=>((∃f,o=some (.row e sz es f)/\wR es f M)\/(o=none/\es=[]/\0<sz))/\te s F l H
  | some (.map k e es)=>(o=some (.map k e es) \/∃J r n,o=some (.qu k e es J r n))/\te s F l H
  | some (.qu k e es J r n)=>((∃Q,o=some (.qu k e es J r Q)/\Q=n)\/((o=some (.map k e es) \/∃J r n,o=some (.qu k e es J r n))/\(∃tk,Bl tk (.val J) es=some none)/\n=0/\s.ob.getD r none=none/\∃V sz f,F.ob.getD r none=some (.row V sz [] f)))/\te s F l H
  | some .gone=>o=some .gone/\te s F l H)
 | _,_=>False
def OP (s:pw):C:=
 (AV.refs.refsL s.tm).all (λr=>(s.ob.getD r none).isSome)&&s.ob.all λ
  | none=>true
  | some o=>o.refs.all λr=>(s.ob.getD r none).isSome
structure vK (np:Nat)(s s':pw):Prop where
 par:((List.range np).all λr=>!(s.ob.getD r none).isSome || (s'.ob.getD r none).isSome)=true
 tm:ue s s' s.tm s'.tm
 ob:te s s' s.ob s'.ob
 closed:OP s'=true
def sw (i j r:Nat):Nat:=match Xa0 r i with
 | true=>j
 | false=>match Xa0 r j with
  | true=>i
  | false=>r
def AV.sw (i j:Nat):AV->AV
 | .d x=>.d x
 | .agg F=>.agg (tG i j F)
 | .ref r H=>.ref (Go.AX.sw i j r) H
 | .ru F=>.ru F
 | .own r n=>.own (Go.AX.sw i j r) n
 | .qQ r n a k=>.qQ (Go.AX.sw i j r) n a k
 | .fn f F=>.fn f (tG i j F)
 | .qT F=>.qT (tG i j F)
 | .mp r=>.mp (Go.AX.sw i j r)
 | .it f r=>.it f (Go.AX.sw i j r)
 | .gl g=>.gl g
 | .gv g=>.gv g
 | .rO r a n m=>.rO (Go.AX.sw i j r) a n m
 | .dead=>.dead where
 tG (i j:Nat):I AV->I AV
  | []=>[]
  | a::l=>a.sw i j::tG i j l
def FZ.sw (i j:Nat):FZ->FZ
 | .lk a b q n=>.lk a b (Go.AX.sw i j q) n
 | f=>f
def OB.sw (i j:Nat):OB->OB
 | .box J=>.box (AV.sw.tG i j J)
 | .row e sz F H=>.row e sz F (H.sw i j)
 | .map k e F=>.map k e F
 | .qu k e F K r n=>.qu k e F K (Go.AX.sw i j r) n
 | .gone=>.gone
def Oa (i j:Nat):I (O OB)->I (O OB)
 | []=>[]
 | none::l=>none::Oa i j l
 | some o::l=>some (o.sw i j)::Oa i j l
def GQ (i j:Nat)(s:pw):pw:=⟨AV.sw.tG i j s.tm,((Oa i j s.ob).set i ((Oa i j s.ob).getD j none)).set j ((Oa i j s.ob).getD i none)⟩
inductive qG (np:Nat):pw->pw->Prop where
 | mk {s s':pw} (par:((List.range np).all λr=>!(s.ob.getD r none).isSome || (s'.ob.getD r none).isSome)=true) (tm:ue s s' s.tm s'.tm) (ob:te s s' s.ob s'.ob) (closed:OP s'=true):qG np s s'
 | swap {s s':pw} (i j:Nat) (hi:Nat.ble np i=true) (hj:Nat.ble np j=true) (hl:(Nat.blt i s.ob.length&&Nat.blt j s.ob.length)=true) (h:qG np (GQ i j s) s'):qG np s s'
def tS (K:AE->pw->Prop)(F:pw->Prop)(e:AE)(st:pw):Prop:=match e with
 | .normal=>F st
 | .exit i=>K (.exit i) st
 | .ret=>K .ret st
inductive sl (np:Nat)(body:(AE->pw->Prop)->pw->Prop)(K:AE->pw->Prop)(st:pw):Prop where
 | mk (h:(∀t sz es,st.tm.getD t .dead=.d (.qY sz es)->es.length<=9223372036854775807)->(∀r e sz es f,st.ob.getD r none=some (.row e sz es f)->es.length<=9223372036854775807)->∃I:pw->Nat->Prop,(∃s n,qG np st s/\I s n)/\
  ∀s n,I s n->body (tS K λt=>∃s' m,m<n/\qG np t s'/\I s' m) s)
inductive sh (np:Nat)(X:(pw->Prop)->Prop)(K:pw->Prop):Prop where
 | go (h:X K)
 | cut (J:pw->Prop) (h1:X λt=>∃s,qG np t s/\J s) (h2 :∀s,J s->K s)
def mR (cx:Cx)(o:z)(tm:List AV)(ob:List (O OB))(K:pw->Prop):Prop:=match o.op with
 | .call c=>(match c.callee with
  | .value x=>vg (sJ tm x) λf F=>(match cx.inl f with
   | true=>sh cx.np (λJ=>cx.I f (F8 cx.T (sJ tm) c.args.toList c.argTypes.toList++F) ob λr H=>MI tm o.dst r λtm=>J ⟨tm,H⟩) K
   | false=>vj cx o (sJ tm) ob λv w=>MI tm o.dst v λtm=>tY ob w λob=>K ⟨tm,ob⟩)
  | _=>vj cx o (sJ tm) ob λv w=>MI tm o.dst v λtm=>tY ob w λob=>K ⟨tm,ob⟩)
 | _=>vj cx o (sJ tm) ob λv w=>MI tm o.dst v λtm=>tY ob w λob=>K ⟨tm,ob⟩
def Yx (cx:Cx)(F:Array z)(o:z)(st:pw)(K:pw->Prop):Prop:=match st with
 | ⟨tm,ob⟩=>JV F o tm (λtm=>mR cx o tm ob K) (λtm=>MI tm o.dst (.qT []) λtm=>K ⟨tm,ob⟩)
def eK (cx:Cx)(F:Array z):I z->pw->(pw->Prop)->Prop
 | [],st,K=>K st
 | o::rest,st,K=>Yx cx F o st λst=>eK cx F rest st K
def guarded:I z->C
 | []=>false
 | o::l=>match o.guard with
  | none=>guarded l
  | some _=>true
def wi (K:AE->pw->Prop)(F:pw->Prop)(e:AE)(st:pw):Prop:=match e with
 | .normal=>F st
 | .exit i=>K (.exit i) st
 | .ret=>K .ret st
def wS (id:Nat)(K:AE->pw->Prop)(F:pw->Prop)(e:AE)(st:pw):Prop:=match e with
 | .normal=>F st
 | .exit i=>(match Xa0 i id with
  | true=>F st
  | false=>K (.exit i) st)
 | .ret=>K .ret st
def lU (cx:Cx)(F:Array z)(st:pw)(K:pw->Prop):Prop:=match guarded F.toList with
 | true=>sh cx.np (eK cx F F.toList st) K
 | false=>eK cx F F.toList st K
def du (cx:Cx)(F:Array z)(st:pw)(K:pw->Prop):Prop:=E1 F=true/\TD cx F F.toList [] st λH J=>EV F 0 H=true/\K J
def Ov (F:Array z):C:=Xbv 0 F.size&&(Xb2 (F.size-1)).all λj=>(GB F (F.size-1)).contains j
def hN (cx:Cx)(F:Array z)(st:pw)(K:pw->Prop):I z->Prop
 | []=>False
 | [o]=>Yx cx F o st K
 | _::l=>hN cx F st K l
def KY:I z->I z
 | []=>[]
 | [_]=>[]
 | o::l=>o::KY l
def YT (cx:Cx)(F:Array z)(st:pw)(K:pw->Prop):Prop:=(E1 F=true/\Ov F=true)/\TD cx F (KY F.toList) [] st λH J=>EV F 0 H=true/\hN cx F J K F.toList
def GF (cx:Cx):Code->(AE->pw->Prop)->pw->Prop
 | .skip,K,st=>K .normal st
 | .region _ ops false,K,st=>lU cx ops st (K .normal)
 | .region _ ops true,K,st=>(match guarded ops.toList with
  | true=>sh cx.np (λF=>du cx ops st F\/YT cx ops st F) (K .normal)
  | false=>du cx ops st (K .normal)\/YT cx ops st (K .normal))
 | .seq a b,K,st=>GF cx a (wi K (GF cx b K)) st
 | .cond c x y,K,st=>(match sJ st.tm c with
  | .d (.val (.bool b))=>sh cx.np (λF=>IR b (GF cx x (wi K F) st) (GF cx y (wi K F) st)) (K .normal)
  | _=>False)
 | .block id b,K,st=>sh cx.np (λF=>GF cx b (wS id K F) st) (K .normal)
 | .loop b,K,st=>sl cx.np (GF cx b) K st
 | .exit id,K,st=>K (.exit id) st
 | .ret,K,st=>K .ret st
 | _,_,_=>False
def U7 (cx:Cx)(st:pw):I ResultVar->(I AV->Prop)->Prop
 | [],K=>K []
 | .tmp t::rs,K=>(st.tm.getD t .dead).force λa=>U7 cx st rs λl=>K (a::l)
 | .cell a H::rs,K=>(match st.tm.getD a .dead with
  | .ref r F=>WG cx.T H (.ref r F) st.ob λv=>U7 cx st rs λl=>K (v::l)
  | _=>False)
def Vv:I Nat->Nat->O Nat
 | [],_=>none
 | x::l,r=>match Xa0 r x with
  | true=>some 0
  | false=>match Vv l r with
   | some k=>some (k+1)
   | none=>none
def O6 (rs:I Nat):I AV->I AV
 | []=>[]
 | .own r n::F=>(match NY rs r with
  | true=>.d (.nil 1)
  | false=>.own r n)::O6 rs F
 | a::F=>a::O6 rs F
def Ye (np:Nat)(rs:I Nat):I AV->I D->I AV
 | .own r n::F,d::H=>(match Vv rs r with
  | some k=>.own (np+k) n
  | none=>.d d)::Ye np rs F H
 | _::F,d::H=>.d d::Ye np rs F H
 | _,_=>[]
def Tv (ob:I (O OB)):I Nat->(I OB->Prop)->Prop
 | [],K=>K []
 | r::rs,K=>CX ob r λo=>match o with
  | .row e sz F f=>AU (!f.linked) <| Tv ob rs λl=>K (.row e sz F f::l)
  | _=>False
def VQ (np:Nat)(ob:I (O OB))(rs:I Nat)(F:I AV)(K:AV->Prop):Prop:=
 AU (Rz rs&&rs.all λr=>Xdl np r) <| fv ob (.agg (O6 rs F)) λx w=>match x with
  | .agg H=>AU (w.all λq=>Xdl np q.1&&!NY rs q.1) <| K (.agg (Ye np rs F H))
  | _=>False
def YX (np:Nat)(ob:I (O OB))(a:AV)(K:AV->O Nat->Prop):Prop:=match a with
 | .d x=>Pi x λx=>K (.d x) none
 | .own r n=>(match Xbv r np with
  | true=>K (.own r n) none
  | false=>fv ob (.own r n) (λx _=>K (.d x) none)\/K (.own np n) (some r))
 | .agg H=>fv ob (.agg H) (λx w=>AU (w.all λq=>Xdl np q.1) <| K (.d x) none)
 | .ref r F=>(match Xbv r np with
  | true=>K (.ref r F) none
  | false=>K (.ref np F) (some r))
 | .mp r=>(match Xbv r np with
  | true=>K (.mp r) none
  | false=>K (.mp np) (some r))
 | _=>False
def Vs (np:Nat)(ob:I (O OB)):I AV->(I AV->Prop)->Prop
 | [],K=>K []
 | a::l,K=>YX np ob a λF H=>match H with
  | none=>Vs np ob l λJ=>K (F::J)
  | some _=>False
def JW (ob:I (O OB)):Nat->Nat->(I OB->Prop)->Prop
 | 0,_,K=>K []
 | n+1,i,K=>CX ob i λo=>match o with
  | .box H=>HO.cellsD H λH=>JW ob n (i+1) λl=>K (.box H::l)
  | .row e sz J F=>AU (!F.linked) <| JW ob n (i+1) λl=>K (.row e sz J F::l)
  | .map k e J=>JW ob n (i+1) λl=>K (.map k e J::l)
  | .qu ..=>False
  | .gone=>JW ob n (i+1) λl=>K (.gone::l)
def tj (np:Nat)(ob:I (O OB))(R:AV->I OB->Prop)(a:AV)(gD:I OB):Prop:=match a with
 | .d (.nil sz)=>R (.d (.qY sz [])) gD\/(0<sz/\∃e,R (.own np 0) (gD++[.row e sz [] .no]))
 | .agg H=>fv ob (.agg H) (λx w=>AU (w.all λq=>Xdl np q.1) <| R (.d x) gD) \/∃rs,VQ np ob rs H λx=>Tv ob rs λos=>R x (gD++os)
 | .own r n=>(YX np ob (.own r n) λJ M=>(match M with
   | none=>R J gD
   | some r=>CX ob r λo=>match o with
    | .box H=>HO.cellsD H λH=>R J (gD++[.box H])
    | .row e sz K F=>AU (!F.linked) <| R J (gD++[.row e sz K F])
    | .map k e K=>R J (gD++[.map k e K])
    | .qu ..=>False
    | .gone=>False))\/(AU (Xbv r np) <| match gD[r]? with
     | some (.row e sz K .no)=>R (.own np n) (gD.set r .gone++[.row e sz K .no])
     | _=>False)
 | a=>YX np ob a λJ M=>(match M with
   | none=>R J gD
   | some r=>CX ob r λo=>match o with
    | .box H=>HO.cellsD H λH=>R J (gD++[.box H])
    | .row e sz K F=>AU (!F.linked) <| R J (gD++[.row e sz K F])
    | .map k e K=>R J (gD++[.map k e K])
    | .qu ..=>False
    | .gone=>False)
def lW (cx:Cx)(fn:Func)(R:AV->I OB->Prop)(e:AE)(st:pw):Prop:=
 match e with
 | .exit _=>False
 | _=>U7 cx st fn.results.toList λF=>JW st.ob cx.np 0 λgD=>(match F with
  | [a]=>tj cx.np st.ob R a gD
  | F=>Vs cx.np st.ob F λH=>R (.qT H) gD)
def Re (ex:Nat)(fn:Func)(args:I AV)(gD:I OB):pw:=
 { tm:=args++Xal (fn.ntmps-args.length) .dead,ob:=gD.map some++Xal (fn.ntmps+ex) none }
def Xv (cx:Cx)(fn:Func)(args:I AV)(gD:I OB)(R:AV->I OB->Prop):Prop:=
 cx.np=gD.length/\match fn.body with
  | some c=>GF cx c (lW cx fn R) (Re cx.ex fn args gD)
  | none=>False
def IL:I (O OB)->Nat->C
 | [],_=>true
 | _::l,n+1=>IL l n
 | none::l,0=>IL l 0
 | some _::_,0=>false
def mO (cx:Cx)(fn:Func)(K:AV->I (O OB)->Prop)(e:AE)(st:pw):Prop:=
 match e with
 | .exit _=>False
 | _=>U7 cx st fn.results.toList λF=>(match F with
  | [a]=>K a st.ob
  | F=>K (.qT F) st.ob)
def jD (cx:Cx)(fn:Func)(args:I AV)(ob:I (O OB))(K:AV->I (O OB)->Prop):Prop:=
 IL ob cx.np=true/\match fn.body with
  | some c=>GF cx c (mO cx fn K) ⟨args++Xal (fn.ntmps-args.length) .dead,ob⟩
  | none=>False
end Go.AX
end
