/-
  Texts of one proof, packed.
-/
import Derived.Test.YtckndjeehbfpkaaGreatDoorK3
import Derived.Below
import Derived.Carry
import Derived.ChangeOld
import Derived.Deep.Draws
import Derived.Deep.Slices
import Derived.IntWalk
import Derived.KernelRfl
import Derived.LaidHandle
import Derived.LaidMore
import Derived.MakeChecks
import Derived.OpenShut
import Derived.ProofKit
import Derived.Shelf.SlIter.Nil
import Derived.Shelf.SlIterI.Nil
import Derived.Shelf.SlSortCmp.Insertion
import Derived.Shelf.Strings.SlTrimAscii
import Derived.SizedLaws
import Derived.Sort.AssemblyPlain
import Derived.Test.YtckndjeehbfpkaaGreatDoorProg
import Derived.WalkKit
import Derived.WideKeyElems2
set_option linter.all false
set_option maxRecDepth 100000
set_option maxHeartbeats 4000000
open List renaming length_map→X10,length_append→X11,mem_singleton→X14,getElem?_eq_getElem→X15,getElem?_eq_some_iff→X16,length_drop→X17,length_take→X18,mem_cons_of_mem→X19,length_replicate→X20,length_set→X21,mem_append→X23
open Option.some renaming injEq→X24,inj→X25
open Prod.mk renaming injEq→X26
open Bool renaming and_eq_true→X27
open Nat renaming le_of_ble_eq_true→X29,eq_of_beq_eq_true→X30,mul_le_mul_right→X31
section
namespace Go.AX
def Yo:D->Value->Bool
 | .val (.int k n),.int k' n'=>decide (k=k')&&decide (n=n')
 | .val (.bool b),.bool b'=>b==b'
 | .val (.string s),.string s'=>Nat.beq s.data.toList.length 0&&Nat.beq s'.data.toList.length 0
 | .val (.pointer none),.pointer none=>true
 | .val .nilFunc,.nilFunc=>true
 | .val .nilIface,.nilIface=>true
 | .val (.map none),.map none=>true
 | .nil _,.slice none 0 0=>true
 | _,_=>false
theorem Yy {d:D}{v:Value}(h:Yo d v=true):Iu d v:=by
 unfold Yo at h
 split at h
 ·simp only[X27,decide_eq_true_eq] at h
  obtain⟨rfl,rfl⟩:=h
  exact⟨rfl,rfl⟩
 ·have h:=eq_of_beq h
  subst h
  exact⟨rfl,rfl⟩
 ·rename_i s s'
  simp only[X27,Bj,List.length_eq_zero_iff] at h
  have e:s=s':=by
   cases s;cases s'
   congr
   apply Array.toList_inj.1
   rw[h.1,h.2]
  subst e
  exact⟨rfl,rfl⟩
 all_goals first | exact⟨rfl,rfl⟩|rfl | simp at h
def Ob:List D->List Value->Bool
 | [],[]=>true
 | d::ds,v::vs=>Yo d v&&Ob ds vs
 | _,_=>false
theorem Sj :∀{ds:List D} {vs:List Value},Ob ds vs=true->ds.length=vs.length/\∀j (hj:j<ds.length) v,vs[j]?=some v->Iu ds[j] v
 | [],[],_=>⟨rfl,fun j hj=>by simp at hj⟩
 | d::ds,v::vs,h=>by
  simp only[Ob,X27] at h
  obtain⟨h1,h2⟩:=Sj h.2
  refine⟨by simp[h1],fun j hj u hu=>?_⟩
  cases j with
  | zero=>
   simp only[List.getElem?_cons_zero,X24] at hu
   subst hu
   exact Yy h.1
  | succ j=>exact h2 j (by simpa using hj) u (by simpa using hu)
 | [],_::_,h=>by simp[Ob] at h
 | _::_,[],h=>by simp[Ob] at h
def fieldsB (P:Program):List Field->List (Nat×Nat×Nat)->Bool
 | [],[]=>true
 | f::fs,(o,s,t)::l=>Nat.beq f.offset o&&Nat.beq f.type t&&(match P.info? f.type with
  | some i=>Nat.beq i.size s
  | none => false) && !(f.name == "_") && fieldsB P fs l
 | _,_=>false
theorem Qk {P:Program} :∀{F:List Field} {l:List (Nat×Nat×Nat)},fieldsB P F l=true->
  F.map (fun f => (f.offset, (P.info? f.type).map (·.size), f.type)) = l.map (fun x => (x.1, some x.2.1, x.2.2)) ∧ ∀ f ∈ F, f.name ≠ "_"
 | [],[],_=>⟨rfl,fun f hf=>by simp at hf⟩
 | f::fs,(o,s,t)::l,h=>by
  simp only[fieldsB,X27,Bj] at h
  obtain⟨⟨⟨⟨h1,h2⟩,h3⟩,h4⟩,h5⟩:=h
  obtain⟨g1,g2⟩:=Qk h5
  refine⟨?_,fun g hg=>?_⟩
  ·simp only[List.map_cons,g1,List.cons.injEq,X26,and_true]
   refine⟨h1,?_,h2⟩
   split at h3
   ·rename_i i hi
    rw[hi]
    simpa using h3
   simp at h3
  rcases List.mem_cons.1 hg with rfl | hg
  ·simpa using h4
  exact g2 g hg
 | [],_::_,h=>by simp[fieldsB] at h
 | _::_,[],h=>by simp[fieldsB] at h
def Y8 (P:Program)(t:Nat)(k:TK):Bool:=match k,P.underlying t with
 | .bool,some .bool=>true
 | .int k,some (.int k')=>decide (k'=k)
 | .str,some .string=>true
 | .ptr,some (.pointer _)=>true
 | .fn,some (.func _ _ _)=>true
 | .slice e,some (.slice e')=>Nat.beq e' e
 | .arr n e,some (.array n' e')=>Nat.beq n' n&&Nat.beq e' e
 | .map k e,some (.map k' e')=>Nat.beq k' k&&Nat.beq e' e
 | .struct fs,some (.struct F)=>!P.stoodInHeld t&&!P.eqGuardType P.depth t&&fieldsB P F.toList fs
 | .other,_=>true
 | _,_=>false
theorem Y2 {P:Program}{t:Nat}{k:TK}(h:Y8 P t k=true):KindOk P t k:=by
 unfold Y8 at h
 split at h<;>simp only[KindOk]
 ·assumption
 ·rename_i hu;rw[hu,of_decide_eq_true h]
 ·assumption
 ·exact⟨_,by assumption⟩
 ·exact⟨_,_,_,by assumption⟩
 ·rename_i hu;rw[hu,X30 h]
 ·rename_i hu
  simp only[X27,Bj] at h
  rw[hu,h.1,h.2]
 ·rename_i hu
  simp only[X27,Bj] at h
  rw[hu,h.1,h.2]
 ·rename_i fs F hu
  simp only[X27,Bool.not_eq_true'] at h
  exact⟨h.1.1,h.1.2,F,hu,Qk h.2⟩
 simp at h
def bs (k:TK)(z:Value):Bool:=match z,k.cls with
 | .agg _,some false=>false
 | .agg _,_=>true
 | _,some true=>false
 | _,_=>true
def tiB (P:Program)(t:Nat)(ti:TI):Bool:=match P.info? t with
 | some i=>(match i.zero with
  | some z=>Nat.beq i.size ti.size&&Nat.beq i.bytes ti.bytes&&Nat.beq ti.zero.length ti.size&&Ob ti.zero z.cells.toList&&Y8 P t ti.kind&&bs ti.kind z
  | none=>false)
 | none=>false
theorem bU {P:Program}{t:Nat}{ti:TI}(h:tiB P t ti=true):TiOk P t ti:=by
 unfold tiB at h
 split at h
 ·rename_i i hi
  split at h
  ·rename_i z hz
   simp only[X27,Bj] at h
   obtain⟨⟨⟨⟨⟨h1,h2⟩,h3⟩,h4⟩,h5⟩,h6⟩:=h
   obtain⟨g1,g2⟩:=Sj h4
   exact⟨⟨i,z,hi,h1,h2,hz,by rw[<- Array.length_toList,<- g1,h3],h3,fun j hj v hv=>g2 j hj v (by simpa using hv)⟩,Y2 h5,fun i' z' hi' hz'=>by
    rw[hi] at hi'
    obtain rfl:=X25 hi'
    rw[hz] at hz'
    obtain rfl:=X25 hz'
    refine⟨fun hc=>?_,fun hc cs e=>?_⟩
    ·cases z<;>first | exact⟨_,rfl⟩|(simp[bs,hc] at h6)
    subst e;simp[bs,hc] at h6⟩
  simp at h
 simp at h
def ap (P:Program):TT->Bool
 | .tip=>true
 | .node k v l r=>(v.kind.cls.isNone || tiB P k v)&&ap P l&&ap P r
theorem UH {P:Program} :∀{T:TT},ap P T=true->TabOk P T
 | .tip,_=>fun t=>.inl rfl
 | .node k v l r,h=>fun t=>by
  simp only[ap,X27,Bool.or_eq_true] at h
  simp only[TT.get]
  cases hb:Nat.beq t k with
  | true=>
   have:=X30 hb
   subst this
   simp only
   rcases h.1.1 with h | h
   ·exact .inl (by simpa using h)
   exact .inr (bU h)
  | false=>
   simp only
   cases Nat.blt t k with
   | true=>exact UH h.1.2 t
   | false=>exact UH h.2 t
abbrev mcx (wl:WL)(P:Program)(T:TT)(keep:FuncId->List Bool)(inl:FuncId->Bool)(ex np:Nat):Cx:=⟨T,np,A4 wl P,keep,wl.G,inl,Uz wl P,ex⟩
theorem ZO {wl:WL}{P:Program}{T:TT}(hT:TabOk P T)(hm:P.follows .mixedOrders=true)(keep:FuncId->List Bool)(inl:FuncId->Bool)(ex:Nat){f:FuncId}{fn:Func}{args:List AV}{objs:List OB}{res:AV}{objs':List OB}
  (hf : P.funcs[f]? = some fn) (hn : (fn.name == "runtime.NumGoroutine") = false) (h : Wz (mcx wl P T keep inl ex objs.length) fn args objs fun r o => r = res ∧ o = objs') : A4 wl P f args objs res objs' :=
 XC (cx:=mcx wl P T keep inl ex objs.length) hT ⟨rfl,fun _ _ _ _ _ h=>h,fun _ _ _ _ h=>h⟩ (Np hT ⟨rfl,fun _ _ _ _ _ h=>h,fun _ _ _ _ h=>h⟩ hm) hf (by simpa using hn) h
theorem ZJ {wl:WL}{P:Program}{T:TT}(hT:TabOk P T)(hm:P.follows .mixedOrders=true)(keep:FuncId->List Bool)(inl:FuncId->Bool)(np:Nat){f:FuncId}{fn:Func}{args:List AV}{ob:List (Option OB)}{K:AV->List (Option OB)->Prop}
  (hf : P.funcs[f]? = some fn) (hn : (fn.name == "runtime.NumGoroutine") = false) (h : bB (mcx wl P T keep inl 0 np) fn args ob K) : Uz wl P f args ob K :=
 .inl <| Wa (cx:=mcx wl P T keep inl 0 np) hT ⟨rfl,fun _ _ _ _ _ h=>h,fun _ _ _ _ h=>h⟩ (Np hT ⟨rfl,fun _ _ _ _ _ h=>h,fun _ _ _ _ h=>h⟩ hm) hf (by simpa using hn) h
def I64 (x:Int):Prop:=-9223372036854775808<=x/\x<=9223372036854775807
theorem WN {a b:Int}(h1:a=b)(h2:I64 b):IntKind.i64.wrap a=b:=by
 subst h1
 exact IntWalk.i64_in a h2
theorem I64.of {x:Int}(h:-9223372036854775808<=x/\x<=9223372036854775807):I64 x:=h
end Go.AX
end
section
namespace Go.AX
open Go.RowKit
def Old (w:World):Sc:=fun b o=>∃v,cellAt w b o=some v
theorem ag {P:Program}{f:FuncId}{args:List AV}{res:AV}{wl:WL}(h:A4 wl P f args [] res [])(w:World){gb:Nat->Prop}(hg:wl.gf gb w/\∀b,gb b->b<w.heap.size)(vals:Array Value)(hs:vals.size=args.length)
  (hr :∀i (hi:i<args.length),RepA (Old w) w (fun _=>none) (ofL []) args[i] (vals.getD i undef)/\Closed (ofL []) args[i]) :
  Calls P f vals w fun e w'=>(∃v S φ,e=.returned v/\RepA S w' φ (ofL []) res v)/\Below w.heap.size w w':=by
 have hn :∀r,ofL [] r=none:=fun r=>by simp[ofL]
 refine (h.2 w (Old w) (fun _=>none) gb ⟨hg.1,hg.2,(by rintro b hb ⟨r,c,h1,_⟩;simp at h1),fun b o _ hc=>by
  cases hv:cellAt w b o with
  | none=>exact absurd hv hc
  | some v=>exact⟨v,hv⟩⟩ vals hs hr (fun _ _=>rfl) ⟨fun r o ho=>by rw[hn] at ho;simp at ho,fun r _ _ _ _ hr=>absurd (hn r) hr,fun r o ho=>by rw[hn] at ho;simp at ho,fun _ _ h=>h,fun _ _ _=>rfl,fun b o hS=>?_,fun _ _ h _ _=>h,fun _ _ _=>rfl,Nat.le_refl _,fun r _ _ hr=>absurd (hn r) hr,⟨rfl,rfl,rfl,.inr (Nat.le_refl _)⟩⟩).mono fun e w' he=>?_
 ·obtain⟨v,hv⟩:=hS
  refine Nat.lt_of_not_le fun hge=>?_
  simp[cellAt,World.cell?,hge] at hv
 obtain⟨v,rfl,S',φ',m,_,hv,_⟩:=he
 refine⟨⟨v,S',φ',rfl,hv⟩,m.os.1,m.os.2.2.1,m.os.2.1,m.sz,fun k hk=>m.fr k hk ?_⟩
 rintro⟨r,c,hr,_⟩
 exact absurd hr (by simp)
theorem X7 {P:Program}{f:FuncId}{args:List AV}{wl:WL}(h:A4 wl P f args [] (.b true) [])(w:World){gb:Nat->Prop}(hg:wl.gf gb w/\∀b,gb b->b<w.heap.size)(vals:Array Value)(hs:vals.size=args.length)
  (hr :∀i (hi:i<args.length),RepA (Old w) w (fun _=>none) (ofL []) args[i] (vals.getD i undef)/\Closed (ofL []) args[i]) :
  Calls P f vals w fun e w'=>e=.returned (.bool true)/\Below w.heap.size w w':=
 (ag h w hg vals hs hr).mono fun e w' ⟨⟨v,S,φ,he,hv⟩,hb⟩=>⟨by rw[he,hv.bool],hb⟩
end Go.AX
end
section
namespace Go.AX
open Go.RowKit Go.Deep Go.ChangeShapes Go.WideShapes
section
variable {H:Type} {enc:TypeId×Value->H} {P:Program} {w:World}
def RepI (w:World)(ds:List D)(cs:List Value):Prop:=
 ds.length=cs.length/\(∀d∈ds,d.isAgg=false)/\∀j (hj:j<ds.length) v,cs[j]?=some v->RepD (Old w) w ds[j] v
def Wt (P:Program)(t:Nat)(d:DataW H):Prop:=(d.weights P t).all (·<=reachBytes)=true
theorem weightsAll_mem {e:Nat} :∀{l:List (DataW H)} {d:DataW H},d∈l->∀n∈d.weights P e,n∈DataW.weightsAll P e l
 | x::l,d,hd,n,hn=>by
  simp only[DataW.weightsAll,X23]
  rcases List.mem_cons.1 hd with rfl | hd
  ·exact .inl hn
  exact .inr (weightsAll_mem hd n hn)
theorem Wt.slice {t e:Nat}{el sp:List (DataW H)}(ht:P.underlying t=some (.slice e))(h:Wt P t (.slice el sp)):(el.length+sp.length)*P.bytesOf e<=reachBytes/\∀d∈el,Wt P e d:=by
 have h:=List.all_eq_true.1 h
 simp only[DataW.weights,ht,List.mem_cons,X23] at h
 refine⟨by simpa using h _ (.inl rfl),fun d hd=>List.all_eq_true.2 fun n hn=>h n (.inr (.inl (weightsAll_mem hd n hn)))⟩
theorem Wt.string {t:Nat}{b:List UInt8}(h:Wt (H:=H) P t (.lit (.string b))):b.length<=reachBytes:=by
 have h:=List.all_eq_true.1 h
 simp only[DataW.weights] at h
 simpa using h _ (X14.2 rfl)
theorem Wt.agg {t:Nat}{F:Array Field}{ds:List (DataW H)}(ht:P.underlying t=some (.struct F))(h:Wt P t (.agg ds)){i:Nat}{f:Field}{d:DataW H}(hf:F[i]?=some f)(hd:ds[i]?=some d):Wt P f.type d:=by
 have h:=List.all_eq_true.1 h
 simp only[DataW.weights,ht] at h
 exact List.all_eq_true.2 fun n hn=>h n (DataW.weights_mem_each (ts:=F.toList.map (·.type)) (j:=i) (by simp[hf]) hd n hn)
structure Lim (H:Type)(P:Program) where
 W:Nat->DataW H->Prop
 S:Nat->Nat->Prop
 B:Nat
 slice :∀{t e:Nat} {el sp:List (DataW H)},P.underlying t=some (.slice e)->W t (.slice el sp)->S e el.length/\∀d∈el,W e d
 string :∀{t:Nat} {b:List UInt8},W t (.lit (.string b))->b.length<=B
 agg :∀{t:Nat} {F:Array Field} {ds:List (DataW H)},P.underlying t=some (.struct F)->W t (.agg ds)->∀{i:Nat} {f:Field} {d:DataW H},F[i]?=some f->ds[i]?=some d->W f.type d
def Lim.reach (H:Type)(P:Program):Lim H P where
 W:=Wt P
 S e n:=n*P.bytesOf e<=reachBytes
 B:=reachBytes
 slice ht h:=⟨Nat.le_trans (X31 _ (by simp)) (Wt.slice ht h).1,(Wt.slice ht h).2⟩
 string h:=Wt.string h
 agg ht h _ _ _ hf hd:=Wt.agg ht h hf hd
def ReadsL (L:Lim H P)(enc:TypeId×Value->H)(w:World)(t:Nat){α:Type}(cells:α->List D)(ok:α->Prop):Prop:=
 ∀fuel cs x,DataW.trod enc P w 0 (fun _=>true) true fuel t cs=some x->L.W t x.1->∃a,ok a/\RepI w (cells a) cs
abbrev Reads (enc:TypeId×Value->H)(P:Program)(w:World)(t:Nat){α:Type}(cells:α->List D)(ok:α->Prop):Prop:=ReadsL (Lim.reach H P) enc w t cells ok
variable {L:Lim H P}
theorem RepI.one {d:D}{v:Value}(hd:d.isAgg=false)(h:RepD (Old w) w d v):RepI w [d] [v]:=
 ⟨rfl,fun x hx=>by simp only[X14] at hx;rw[hx];exact hd,fun j hj u hu=>by
  have:j=0:=by simpa using hj
  subst this
  simp only[List.getElem?_cons_zero,X24] at hu
  subst hu
  exact h⟩
theorem RepI.append {ds es:List D}{cs ks:List Value}(h:RepI w ds cs)(k:RepI w es ks):RepI w (ds++es) (cs++ks):=by
 obtain⟨h1,h2,h3⟩:=h
 obtain⟨k1,k2,k3⟩:=k
 refine⟨by simp[h1,k1],fun d hd=>?_,fun j hj v hv=>?_⟩
 ·rcases X23.1 hd with hd | hd
  ·exact h2 d hd
  exact k2 d hd
 rw[List.getElem_append]
 split
 ·rename_i hlt
  rw[List.getElem?_append_left (by omega)] at hv
  exact h3 j hlt v hv
 rename_i hge
 rw[List.getElem?_append_right (by omega),<- h1] at hv
 exact k3 (j-ds.length) (by simp at hj;omega) v hv
theorem ReadsL.map {t:Nat}{α β:Type}{cells:α->List D}{ok:α->Prop}(h:ReadsL L enc w t cells ok){cells':β->List D}{ok':β->Prop}(g:α->β)(hc :∀a,cells' (g a)=cells a)(hk :∀a,ok a->ok' (g a)):ReadsL L enc w t cells' ok':=by
 intro fuel cs x hx hw
 obtain⟨a,h1,h2⟩:=h fuel cs x hx hw
 exact⟨g a,hk a h1,by rw[hc];exact h2⟩
theorem OZ {t:Nat}{k:IntKind}(ht:P.underlying t=some (.int k)):ReadsL L enc w t (fun n:Int=>[.val (.int k n)]) (fun n=>(Lit.int k n).wf=true):=by
 intro fuel cs x h _
 obtain⟨n,rfl,_,hw⟩:=DataW.trod_int ht h
 exact⟨n,hw,RepI.one rfl (.val _ rfl)⟩
theorem reads_bool {t:Nat}(ht:P.underlying t=some .bool):ReadsL L enc w t (fun b:Bool=>[.val (.bool b)]) (fun _=>True):=by
 intro fuel cs x h _
 obtain⟨b,rfl,_⟩:=DataW.trod_bool ht h
 exact⟨b,trivial,RepI.one rfl (.val _ rfl)⟩
theorem reads_string {t:Nat}(ht:P.underlying t=some .string):ReadsL L enc w t (fun s:ByteArray=>[.val (.string s)]) (fun s=>s.size<=maxLen/\s.size<=L.B):=by
 intro fuel cs x h hw
 obtain⟨s,rfl,rfl,hs⟩:=DataW.trod_string ht h
 have:=L.string hw
 rw[Array.length_toList] at this
 exact⟨s,⟨hs,this⟩,RepI.one rfl (.val _ rfl)⟩
theorem readsL_slice {t e sz:Nat}{α:Type}{el:α->D}{ok:α->Prop}{sok:Nat->Prop}(ht:P.underlying t=some (.slice e))(hsz:P.cellsOf e=sz)(hpos:0<sz)(hs0:sok 0)(hsok :∀n,L.S e n->sok n)(h:ReadsL L enc w e (fun a=>(el a).cells) ok) :
  ReadsL L enc w t (fun l:List α=>[.lst sz (l.map el)]) (fun l=>l.length<=maxLen/\sok l.length/\∀a∈l,ok a):=by
 intro fuel cs x hx hw
 rcases open_slice ht hx with ⟨rfl,_⟩|⟨a,len,cap,m,n,D,Pl,rfl,_,hlc,hm,hmm,rfl,hel⟩
 ·exact⟨[],⟨by simp,hs0,by simp⟩,RepI.one rfl (.lst0 _ _ _)⟩
 obtain⟨hw1,hw2⟩:=L.slice ht hw
 have hw1:sok len:=hsok _ (by simpa using hw1)
 have hmm:m=cap:=hmm.trans (if_pos rfl)
 subst hmm
 rw[hsz] at hel
 have one :∀i,i<len->∃q:α×List Value,ok q.1/\RepI w (el q.1).cells q.2/\w.cells? 0 (a.add (i*sz)) sz=some q.2:=by
  intro i hi
  obtain⟨cs',h1,h2⟩:=hel i (by omega)
  obtain⟨b,h3,h4⟩:=h n cs' _ h2 (hw2 _ (List.mem_map.2 ⟨i,List.mem_range.2 hi,rfl⟩))
  exact⟨(b,cs'),h3,h4,h1⟩
 by_cases h0:len=0
 ·subst h0
  exact⟨[],⟨by simp,hs0,by simp⟩,RepI.one rfl (.lst0 _ _ _)⟩
 obtain⟨q0,_⟩:=one 0 (by omega)
 haveI:Inhabited (α×List Value):=⟨q0⟩
 obtain⟨f,hf⟩:=choose_lt one
 have hspot:a.spot=none:=by
  obtain⟨_,_,h3⟩:=hf 0 (by omega)
  obtain⟨_,hl,hc⟩:=World.cells?_some h3
  have:=hc 0 hpos
  rw[Nat.zero_mul] at this
  have e:(a.add 0).add 0=a:=by simp[Addr.add]
  rw[e] at this
  have hlt:0<(f 0).2.length:=by omega
  rw[X15 hlt] at this
  unfold World.cell? at this
  split at this
  ·cases hs:a.spot with
   | none=>rfl
   | some s=>simp[hs] at this
  simp at this
 obtain⟨b,o,sp⟩:=a
 simp only at hspot
 subst hspot
 have hadd :∀i j,((⟨b,o,none⟩:Addr).add i).add j=⟨b,o+i+j,none⟩:=by
  intro i j
  rw[Addr.add_none,Addr.add_none]
 have hcell :∀i j,i<len->j<sz->∃v,(f i).2[j]?=some v/\cellAt w b (o+i*sz+j)=some v:=by
  intro i j hi hj
  obtain⟨_,_,h3⟩:=hf i hi
  obtain⟨_,hl,hc⟩:=World.cells?_some h3
  have:=hc j hj
  rw[hadd] at this
  have hlt:j<(f i).2.length:=by omega
  exact⟨(f i).2[j],X15 hlt,by rw[X15 hlt] at this;exact this⟩
 have hlenq :∀i,i<len->(el (f i).1).cells.length=sz:=by
  intro i hi
  obtain⟨_,h2,h3⟩:=hf i hi
  obtain⟨_,hl,_⟩:=World.cells?_some h3
  rw[h2.1,hl]
 refine⟨(List.range len).map fun i=>(f i).1,⟨by simp;omega,by simpa using hw1,fun a ha=>?_⟩,RepI.one rfl ?_⟩
 ·obtain⟨i,hi,rfl⟩:=List.mem_map.1 ha
  exact (hf i (List.mem_range.1 hi)).1
 have hL:(((List.range len).map fun i=>(f i).1).map el).length=len:=by simp
 have:=RepD.lst (S:=Old w) (w:=w) sz (((List.range len).map fun i=>(f i).1).map el) b o m (fun i j=>((f i).2[j]?).getD undef) (by rw[hL];exact Nat.le_trans hlc hm) (by rw[hL];exact hlc) (fun i hi=>?_) (fun i j hi hj=>?_) (fun i hi j hj=>?_) (fun i hi j hj=>?_)
 ·rw[hL] at this
  exact this
 ·rw[hL] at hi
  simpa using hlenq i hi
 ·rw[hL] at hi
  obtain⟨v,h1,h2⟩:=hcell i j hi hj
  exact⟨⟨v,h2⟩,by rw[h2,h1];rfl⟩
 ·rw[hL] at hi
  obtain⟨_,h2,_⟩:=hf i hi
  exact h2.2.1 _ (by simp)
 rw[hL] at hi
 obtain⟨_,h2,_⟩:=hf i hi
 simp only[List.getElem_map,List.getElem_range] at hj ⊢
 have hj':j<sz:=by rw[hlenq i hi] at hj;exact hj
 obtain⟨v,h1,_⟩:=hcell i j hi hj'
 rw[h1]
 exact h2.2.2 j hj v h1
theorem reads_slice {t e sz by':Nat}{α:Type}{el:α->D}{ok:α->Prop}(ht:P.underlying t=some (.slice e))(hsz:P.cellsOf e=sz)(hpos:0<sz)(hby:P.bytesOf e=by')(h:Reads enc P w e (fun a=>(el a).cells) ok) :
  Reads enc P w t (fun l:List α=>[.lst sz (l.map el)]) (fun l=>l.length<=maxLen/\l.length*by'<=reachBytes/\∀a∈l,ok a):=
 readsL_slice (sok:=fun n=>n*by'<=reachBytes) ht hsz hpos (by simp) (fun _ h=>hby ▸ h) h
def ZC (L:Lim H P)(enc:TypeId×Value->H)(w:World):List (Nat×Nat)->List Value->Prop
 | [],cs=>cs=[]
 | (t,sz)::fs,cs=>sz<=cs.length/\(∃fuel x,DataW.trod enc P w 0 (fun _=>true) true fuel t (cs.take sz)=some x/\L.W t x.1)/\ZC L enc w fs (cs.drop sz)
def UP (L:Lim H P)(enc:TypeId×Value->H)(w:World)(fs:List (Nat×Nat)){α:Type}(cells:α->List D)(ok:α->Prop):Prop:=
 ∀cs,ZC L enc w fs cs->∃a,ok a/\RepI w (cells a) cs
theorem readsF_nil:UP L enc w [] (fun _:Unit=>[]) (fun _=>True):=by
 intro cs h
 cases h
 exact⟨(),trivial,rfl,fun d hd=>by simp at hd,fun j hj=>by simp at hj⟩
theorem readsF_cons {t sz:Nat}{fs:List (Nat×Nat)}{α β:Type}{ca:α->List D}{oa:α->Prop}{cb:β->List D}{ob:β->Prop}(ha:ReadsL L enc w t ca oa)(hb:UP L enc w fs cb ob) :
  UP L enc w ((t,sz)::fs) (fun x:α×β=>ca x.1++cb x.2) (fun x=>oa x.1/\ob x.2):=by
 rintro cs ⟨_,⟨fuel,x,hx,hw⟩,hc⟩
 obtain⟨a,h1,h2⟩:=ha fuel _ _ hx hw
 obtain⟨b,h3,h4⟩:=hb _ hc
 exact⟨(a,b),⟨h1,h3⟩,by have:=h2.append h4;rwa [List.take_append_drop] at this⟩
def Le (P:Program):Nat->List Field->List (Nat×Nat)->Nat->Bool
 | o,[],[],n=>Nat.beq o n
 | o,f::F,(t,sz)::fs,n=>Nat.beq f.offset o&&Nat.beq f.type t&&Nat.beq (P.cellsOf f.type) sz&&Nat.ble (o+sz) n&&Le P (o+sz) F fs n
 | _,_,_,_=>false
theorem Xf {n:Nat}{cs:List Value}(hl:cs.length=n) :∀(F:List Field) (fs:List (Nat×Nat)) (o:Nat),Le P o F fs n=true->
  (∀f∈F,∃fuel x,DataW.trod enc P w 0 (fun _=>true) true fuel f.type ((cs.drop f.offset).take (P.cellsOf f.type))=some x/\L.W f.type x.1)->ZC L enc w fs (cs.drop o)
 | [],[],o,h,_=>by
  have:=X30 h
  simp only[ZC]
  exact List.drop_eq_nil_of_le (by omega)
 | f::F,(t,sz)::fs,o,h,hf=>by
  simp only[Le,X27,Bj] at h
  obtain⟨⟨⟨⟨h1,h2⟩,h3⟩,h4⟩,h5⟩:=h
  have h4:=X29 h4
  obtain⟨fuel,x,hx,hw⟩:=hf f (by simp)
  rw[h1,h3,h2] at hx
  rw[h2] at hw
  refine⟨by simp;omega,⟨fuel,x,hx,hw⟩,?_⟩
  rw[List.drop_drop]
  exact Xf hl F fs (o+sz) h5 fun g hg=>hf g (by simp[hg])
 | [],_::_,_,h,_=>by simp[Le] at h
 | _::_,[],_,h,_=>by simp[Le] at h
theorem reads_struct {t:Nat}{F:Array Field}{fs:List (Nat×Nat)}{α:Type}{cells:α->List D}{ok:α->Prop}(ht:P.underlying t=some (.struct F))(hc:Le P 0 F.toList fs (P.cellsOf t)=true)(h:UP L enc w fs cells ok) :
  ReadsL L enc w t cells ok:=by
 intro fuel cs x hx hw
 obtain⟨xs,n,_,rfl,hl,hlen,hf⟩:=DataW.trod_struct ht hx
 refine h cs ?_
 refine (Xf (enc:=enc) (w:=w) hl F.toList fs 0 hc fun f hfm=>?_:ZC L enc w fs (cs.drop 0))
 obtain⟨i,hi,rfl⟩:=List.getElem_of_mem hfm
 simp only[Array.length_toList] at hi
 have:=hf i F[i] (by simp[hi])
 rw[X15 (by omega)] at this
 exact⟨n,_,by simpa using this,by simpa using L.agg ht hw (i:=i) (f:=F[i]) (by simp[hi]) (d:=xs[i].1) (by rw[List.getElem?_map,X15 (by omega)];rfl)⟩
theorem RepI.val {d:D}{v:Value}(h:RepI w [d] [v]):RepD (Old w) w d v:=h.2.2 0 (by simp) v (by simp)
theorem RepI.agg {ds:List D}{cs:Array Value}(h:RepI w ds cs.toList):RepD (Old w) w (.agg ds) (.agg cs):=by
 obtain⟨h1,h2,h3⟩:=h
 refine .agg ds cs (fun i=>cs.getD i undef) (by simpa using h1.symm) (fun i hi=>?_) (fun i hi=>h2 _ (by simp)) fun i hi=>h3 i hi _ ?_
 ·have:i<cs.size:=by have:=h1;simp at this;omega
  simp[this]
 have:i<cs.size:=by have:=h1;simp at this;omega
 simp[this]
theorem X5 {t:Nat}{α:Type}{cells:α->List D}{ok:α->Prop}(h:ReadsL L enc w t cells ok){cs:Array Value}{d:DataW H}{p:List MemPlace}
  (hv:DataW.Trod enc P w 0 (fun _=>true) true t (.agg cs) d p) (hw:L.W t d) :∃x,ok x/\RepD (Old w) w (.agg (cells x)) (.agg cs):=by
 obtain⟨fuel,hf⟩:=hv
 obtain⟨x,h1,h2⟩:=h fuel _ _ hf hw
 exact⟨x,h1,RepI.agg (by simpa[Value.cells] using h2)⟩
end
end Go.AX
end
section
namespace Go.AX
def AB {τ ρ:Type}(m:(τ->Option ρ)->Option ρ)(k:τ->Option ρ):Option ρ:=m k
def geti {α:Type}(l:List α)(i:Int):Option α:=if 0<=i/\i<l.length then l[i.toNat]? else none
def seti {α:Type}(l:List α)(i:Int)(x:α):Option (List α):=if 0<=i/\i<l.length then some (l.set i.toNat x) else none
def apnd {α:Type}(b:Nat)(l m:List α):Option (List α):=if (l.length+m.length)*b<=2^47/\l.length+m.length<=2^47 then some (l++m) else none
def part {α:Type}(l:List α)(a b:Int):Option (List α):=if 0<=a/\a<=b/\b<=l.length then some ((l.drop a.toNat).take (b.toNat-a.toNat)) else none
def chk (p:Prop)[Decidable p]:Option Unit:=if p then some () else none
abbrev A0 (x:Int):Int:=IntKind.i64.wrap x
def Aa {α σ ρ:Type}(done:σ->Option ρ)(body:(σ->Option ρ)->α->Nat->σ->Option ρ):List α->Nat->σ->Option ρ
 | [],_,s=>done s
 | x::t,i,s=>body (Aa done body t (i+1)) x i s
def CY {σ ρ:Type}(body:(σ->Option ρ)->σ->Option ρ):Nat->σ->Option ρ
 | 0,_=>none
 | n+1,s=>body (CY body n) s
def fuel:Nat:=2^64
abbrev D.u8 (x:UInt8):D:=.val (.int .u8 (x.toNat:Int))
abbrev D.fn (n:Nat):D:=.val (.func (.func n) #[] #[])
abbrev D.u64 (x:UInt64):D:=.val (.int .u64 (x.toNat:Int))
abbrev D.l {α:Type}(sz:Nat)(f:α->D)(l:List α):D:=.lst sz (l.map f)
theorem AW {α ρ:Type}{x:Option α}{f:α->Option ρ}{r:ρ}(h:x.bind f=some r) :∃a,x=some a/\f a=some r:=by
 cases x with
 | none=>cases h
 | some a=>exact⟨a,rfl,h⟩
theorem Ue {b:Bool}{ρ:Type}{X Y:Option ρ}{r:ρ}{A B:Prop}(h1:X=some r->A)(h2:Y=some r->B):(if b=true then X else Y)=some r->KN b A B:=by
 intro h
 cases b
 ·exact h2 h
 exact h1 h
theorem Ar {b:Bool}{A B:Prop}(hb:b=true)(h:A):KN b A B:=by subst hb;exact h
theorem Ax {b:Bool}{A B:Prop}(hb:b=false)(h:B):KN b A B:=by subst hb;exact h
theorem Ed {α β:Type}{f:α->β}{l:List α}{i:Int}{v:α}(h:geti l i=some v):0<=i/\i<((l.map f).length:Int):=by
 unfold geti at h
 split at h
 ·rename_i hb;simpa using hb
 cases h
theorem EZ {α:Type}{f:α->D}{l:List α}{i:Int}{v:α}(h:geti l i=some v):(l.map f).getD i.toNat default=f v:=by
 unfold geti at h
 split at h
 ·rename_i hb;simp[h]
 cases h
theorem bu {s:ByteArray}{i:Int}{v:UInt8}(h:geti s.toList i=some v):0<=i/\i<(s.size:Int):=by
 have e:s.toList.length=s.size:=by rw[ByteArray.toList_eq,Array.length_toList];rfl
 unfold geti at h
 split at h
 ·rename_i hb;rw[e] at hb;exact hb
 cases h
theorem bJ {s:ByteArray}{i:Int}{v:UInt8}(h:geti s.toList i=some v):s.toList.getD i.toNat 0=v:=by
 unfold geti at h
 split at h
 ·simp[h]
 cases h
theorem Q3 {α:Type}{f:α->D}{l l':List α}{i:Int}{v:α}(h:seti l i v=some l'):(l.map f).set i.toNat (f v)=l'.map f:=by
 unfold seti at h
 split at h
 ·cases h;rw[List.map_set]
 cases h
theorem Kr {α:Type}{l l':List α}{i:Int}{v:α}(h:seti l i v=some l'):l'.length=l.length:=by
 unfold seti at h
 split at h
 ·cases h;simp
 cases h
theorem bm {α:Type}{b:Nat}{l m l':List α}(h:apnd b l m=some l'):l'=l++m:=by
 unfold apnd at h
 split at h
 ·cases h;rfl
 cases h
theorem Ym {α:Type}{b:Nat}{l m l':List α}{f g:α->D}(h:apnd b l m=some l'):((l.map f).length+(m.map g).length)*b<=2^47/\(l.map f).length+(m.map g).length<=2^47:=by
 unfold apnd at h
 split at h
 ·rename_i hb;simpa using hb
 cases h
theorem aV {α:Type}{b:Nat}{m l':List α}{g:α->D}(h:apnd b [] m=some l'):(m.map g).length*b<=2^47/\(m.map g).length<=2^47:=by
 simpa using Ym (f:=g) (g:=g) h
theorem cB {α:Type}{b:Nat}{l m l':List α}{f:α->D}(h:apnd b l m=some l'):l.map f++m.map f=l'.map f:=by
 rw[bm h,List.map_append]
theorem Ws {α:Type}{f:α->D}{l l':List α}{a b:Int}(h:part l a b=some l'):0<=a/\a<=b/\b<=((l.map f).length:Int):=by
 unfold part at h
 split at h
 ·rename_i hb;simpa using hb
 cases h
theorem Xg {α:Type}{f:α->D}{l l':List α}{a:Int}(h:part l a l.length=some l'):0<=a/\a<=((l.map f).length:Int)/\((l.map f).length:Int)<=((l.map f).length:Int):=by
 have:=Ws (f:=f) h
 simp at this ⊢
 exact this
theorem Un {α:Type}{f:α->D}{l l':List α}{a b:Int}(h:part l a b=some l'):((l.map f).drop a.toNat).take (b.toNat-a.toNat)=l'.map f:=by
 unfold part at h
 split at h
 ·cases h;rw[List.map_take,List.map_drop]
 cases h
theorem UQ {α:Type}{f:α->D}{l l':List α}{a:Int}(h:part l a l.length=some l'):((l.map f).drop a.toNat).take (((l.map f).length:Int).toNat-a.toNat)=l'.map f:=by
 have:=Un (f:=f) h
 simpa using this
def DI {K V:Type}[BEq K]:List (K×V)->K->Option V
 | [],_=>none
 | p::l,k=>if k==p.1 then some p.2 else DI l k
def CW {K V:Type}[BEq K]:List (K×V)->K->V->List (K×V)
 | [],k,v=>[(k,v)]
 | p::l,k,v=>if k==p.1 then (k,v)::l else p::CW l k v
def Av {K V:Type}(ek:K->D)(ev:V->D)(l:List (K×V)):List (D×D):=l.map fun p=>(ek p.1,ev p.2)
theorem Gz {K V:Type}[BEq K]{tk:TK}{ek:K->D}{ev:V->D}{l:List (K×V)}{k:K}(h :∀a b,E0 tk (ek a) (ek b)=some (a==b)):CQ tk (ek k) (Av ek ev l)=some ((DI l k).map ev):=by
 induction l with
 | nil=>rfl
 | cons p l ih=>
  simp only[Av,List.map_cons,CQ,h,DI]
  cases k==p.1
  ·simpa[Av] using ih
  simp
theorem GN {K V:Type}[BEq K]{tk:TK}{ek:K->D}{ev:V->D}{l:List (K×V)}{k:K}{v:V}(h :∀a b,E0 tk (ek a) (ek b)=some (a==b)):GG tk (ek k) (ev v) (Av ek ev l)=some (Av ek ev (CW l k v)):=by
 induction l with
 | nil=>rfl
 | cons p l ih=>
  simp only[Av,List.map_cons,GG,h,CW]
  cases k==p.1
  ·simp only[Av] at ih
   simp[ih]
  simp
theorem cJ {V:Type}{f:V->D}{o:Option V}{z:V}{zD:D}(hz:zD=f z):(o.map f).getD zD=f (o.getD z):=by
 cases o<;>simp[hz]
theorem be {V:Type}{f:V->D}{o:Option V}:(o.map f).isSome=o.isSome:=by
 cases o<;>rfl
theorem JX {V:Type}{f:V->D}{o:Option V}{z v:V}{zD:D}(hz:zD=f z)(g:some (o.getD z)=some v):(o.map f).getD zD=f v:=by
 rw[cJ hz,X25 g]
theorem Xa {V:Type}{f:V->D}{o:Option V}{b:Bool}(g:some o.isSome=some b):(o.map f).isSome=b:=by
 rw[be,X25 g]
theorem XQ (a b:Int):E0 (.int .i64) (D.i a) (D.i b)=some (a==b):=by simp[E0]
theorem Ff (a b:ByteArray):E0 .str (D.s a) (D.s b)=some (a==b):=rfl
theorem Ie {p:Prop}[Decidable p]{u:Unit}(h:chk p=some u):p:=by
 unfold chk at h
 split at h
 ·assumption
 cases h
theorem ZK {τ ρ:Type}{np:Nat}{X:(ASt->Prop)->Prop}{K:ASt->Prop}{m:(τ->Option ρ)->Option ρ}{k:τ->Option ρ}{r:ρ}(St:τ->ASt)
  (h1 :∀k':τ->Option ρ,m k'=some r->X (fun t=>∃s,Weak np t s/\∃v,k' v=some r/\s=St v)) (h2 :∀v,k v=some r->K (St v)):AB m k=some r->CutP np X K:=
 fun h=>.cut (fun s=>∃v,k v=some r/\s=St v) (h1 k h) fun _ ⟨v,hv,hs⟩=>hs ▸ h2 v hv
theorem bi {α:Type}{l:List α}{a b:Int}{u:Unit}{f:α->D}(h:chk (0<=a/\a<=b/\b<=(l.length:Int))=some u):0<=a/\a<=b/\b<=((l.map f).length:Int):=by
 rw[X10];exact Ie h
theorem QS {α:Type}{l:List α}{a:Int}{u:Unit}{f:α->D}(h:chk (0<=a/\a<=(l.length:Int)/\(l.length:Int)<=(l.length:Int))=some u):0<=a/\a<=((l.map f).length:Int)/\((l.map f).length:Int)<=((l.map f).length:Int):=by
 rw[X10];exact Ie h
theorem Z9 {α:Type}{l:List α}{a n:Nat}{f:α->D}:((l.map f).drop a).take n=List.map f ((l.drop a).take n):=by simp
theorem WH {α:Type}{l:List α}{a n:Nat}{i:Int}{v:α}(h:geti ((l.drop a).take n) i=some v):0<=i/\i<(n:Int):=by
 unfold geti at h
 split at h
 ·rename_i hq
  have:((l.drop a).take n).length<=n:=List.length_take_le _ _
  omega
 simp at h
theorem WX {α:Type}{l:List α}{a n:Nat}{i:Int}{v:α}{f:α->D}(h:geti ((l.drop a).take n) i=some v):(l.map f).getD (a+i.toNat) default=f v:=by
 unfold geti at h
 split at h
 ·rename_i hq
  rw[List.getElem?_take,if_pos (by have:((l.drop a).take n).length<=n:=List.length_take_le _ _;omega),List.getElem?_drop] at h
  simp[List.getD_eq_getElem?_getD,h]
 simp at h
theorem Zl {α:Type}{f:α->D}{l:List α}{a n:Nat}:((l.map f).drop a).take n=((l.drop a).take n).map f:=by simp
theorem ZD {α:Type}{l v:List α}{a b:Int}{f:α->D}(h:part l a b=some v):0<=a/\a<=b/\b<=b/\b<=((l.map f).length:Int):=by
 have:=Ws (f:=f) h
 exact⟨this.1,this.2.1,Int.le_refl _,this.2.2⟩
theorem XR {α:Type}{l v:List α}{a:Int}{f:α->D}(h:part l a l.length=some v):0<=a/\a<=((l.map f).length:Int)/\((l.map f).length:Int)<=((l.map f).length:Int)/\((l.map f).length:Int)<=((l.map f).length:Int):=by
 have:=Xg (f:=f) h
 exact⟨this.1,this.2.1,Int.le_refl _,Int.le_refl _⟩
theorem XY {α:Type}{l:List α}{a n:Nat}{z:α}{f:α->D}:(l.map f).take a++List.replicate n (f z)++(l.map f).drop (a+n)=List.map f (l.take a++List.replicate n z++l.drop (a+n)):=by simp
def cpy {α:Type}(l:List α)(a n:Nat)(s:List α):List α:=l.take a++s.take n++l.drop (a+min s.length n)
def cw (s s':ASt):List AV->List D->Prop
 | [],[]=>True
 | a::l,y::l'=>(y.isAgg=false/\AvW s s' a (.d y))/\cw s s' l l'
 | _,_=>False
theorem Qn {s s':ASt} :∀{cs:List AV} {ys:List D},cw s s' cs ys->ys.length=cs.length
 | [],[],_=>rfl
 | _::_,_::_,h=>by simp[Qn h.2]
theorem Qy {s s':ASt} :∀{cs:List AV} {ys:List D},cw s s' cs ys->∀i (hi:i<cs.length) (hi':i<ys.length),ys[i].isAgg=false/\AvW s s' cs[i] (.d ys[i])
 | [],[],_,i,hi,_=>by simp at hi
 | _::_,_::_,h,0,_,_=>h.1
 | _::_,_::_,h,i+1,hi,hi'=>Qy h.2 i (by simpa using hi) (by simpa using hi')
theorem _root_.Go.AX.AvW.box {s s':ASt}(r:Nat)(cs:List AV)(ys:List D)(sz:Nat)(h:s.ob.getD r none=some (.box cs))(h':s'.ob.getD r none=none)(hsz:sz=cs.length)(hp:0<cs.length)(hc:cw s s' cs ys):AvW s s' (.own r 1) (.d (.lst sz [.agg ys])):=
 .lstB r cs ys sz h h' hsz (Qn hc) hp (fun i hi hi'=>(Qy hc i hi hi').2) fun i hi=>(Qy hc i (by rw[<- Qn hc];exact hi) hi).1
def aw (s s':ASt):List AV->List AV->Prop
 | [],[]=>True
 | a::l,y::l'=>AvW s s' a y/\aw s s' l l'
 | _,_=>False
def YC:List AV->Bool
 | []=>true
 | a::l=>a.one&&YC l
def dw (s s':ASt):List D->List AV->Prop
 | [],[]=>True
 | a::l,y::l'=>AvW s s' (.d a) y/\dw s s' l l'
 | _,_=>False
theorem Oq {s s':ASt} :∀{cs cs':List AV},aw s s' cs cs'->cs.length=cs'.length/\∀i (hi:i<cs.length) (hi':i<cs'.length),AvW s s' cs[i] cs'[i]
 | [],[],_=>⟨rfl,fun i hi=>by simp at hi⟩
 | _::_,_::_,h=>⟨by simp[(Oq h.2).1],fun i hi hi'=>match i,hi,hi' with
  | 0,_,_=>h.1
  | i+1,hi,hi'=>(Oq h.2).2 i (by simpa using hi) (by simpa using hi')⟩
theorem Uu {s s':ASt} :∀{cs:List D} {cs':List AV},dw s s' cs cs'->cs.length=cs'.length/\∀i (hi:i<cs.length) (hi':i<cs'.length),AvW s s' (.d cs[i]) cs'[i]
 | [],[],_=>⟨rfl,fun i hi=>by simp at hi⟩
 | _::_,_::_,h=>⟨by simp[(Uu h.2).1],fun i hi hi'=>match i,hi,hi' with
  | 0,_,_=>h.1
  | i+1,hi,hi'=>(Uu h.2).2 i (by simpa using hi) (by simpa using hi')⟩
theorem Rf :∀{cs:List AV},YC cs=true->∀i (hi:i<cs.length),cs[i].one=true
 | _::_,h,0,_=>by simp only[YC,X27] at h;exact h.1
 | _::_,h,i+1,hi=>by simp only[YC,X27] at h;exact Rf h.2 i (by simpa using hi)
theorem _root_.Go.AX.AvW.tupL {s s':ASt}{cs cs':List AV}(h:aw s s' cs cs'):AvW s s' (.tup cs) (.tup cs'):=.tup cs cs' (Oq h).1 (Oq h).2
theorem _root_.Go.AX.AvW.aggL {s s':ASt}{cs cs':List AV}(h1:YC cs'=true)(h:aw s s' cs cs'):AvW s s' (.agg cs) (.agg cs'):=.agg cs cs' (Oq h).1 (Oq h).2 (Rf h1)
theorem _root_.Go.AX.AvW.daggL {s s':ASt}{cs:List D}{cs':List AV}(h1:YC cs'=true)(h:dw s s' cs cs'):AvW s s' (.d (.agg cs)) (.agg cs'):=.dagg cs cs' (Uu h).1 (Uu h).2 (Rf h1)
theorem _root_.Go.AX.AvW.aggDL {s s':ASt}{cs:List AV}{ys:List D}(h:cw s s' cs ys):AvW s s' (.agg cs) (.d (.agg ys)):=.aggD cs ys (Qn h).symm (fun i hi hi'=>(Qy h i hi hi').2) fun i hi=>(Qy h i (by rw[<- Qn h];exact hi) hi).1
theorem JV {c:Prop}[Decidable c]{α:Type}{a b r:α}(g:c)(h:(if c then a else b)=r):a=r:=by rwa [if_pos g] at h
theorem JP {c:Prop}[Decidable c]{α:Type}{a b r:α}(g:¬ c)(h:(if c then a else b)=r):b=r:=by rwa [if_neg g] at h
theorem JJ {τ ρ:Type}{np:Nat}{t:ASt}{St:τ->ASt}{k:τ->Option ρ}{r:ρ}{v:τ}(hw:Weak np t (St v))(h:k v=some r) :∃s,Weak np t s/\∃v,k v=some r/\s=St v:=
 ⟨_,hw,v,h,rfl⟩
theorem AM {np:Nat}{body:(AE->ASt->Prop)->ASt->Prop}{K:AE->ASt->Prop}{st:ASt}{α σ ρ:Type}{done:σ->Option ρ}{bd:(σ->Option ρ)->α->Nat->σ->Option ρ}{l:List α}{s0:σ}{r:ρ}
  (slot sz:Nat) (enc:α->D) (hs:st.tm.getD slot .dead=.d (.lst sz (l.map enc))) (St:Nat->σ->ASt) (hw:Weak np st (St 0 s0))
  (hend :∀(s:σ) (K':ASt->Prop),done s=some r->body (onL K K') (St l.length s))
  (hstep :∀(next:σ->Option ρ) (i:Nat) (x:α) (s:σ) (K':ASt->Prop),i<l.length->(l.map enc).getD i default=enc x->IntKind.i64.wrap ((i:Int)+1)=((i+1:Nat):Int)->bd next x i s=some r->
   (∀t v,Weak np t (St (i+1) v)->next v=some r->K' t)->body (onL K K') (St i s)):Aa done bd l 0 s0=some r->LoopP np body K st:=by
 intro h
 refine .mk fun hb _=>?_
 have hl:l.length<=9223372036854775807:=by simpa using hb slot sz _ hs
 refine⟨fun s n=>∃(i:Nat) (v:σ),n=l.length-i/\i<=l.length/\Aa done bd (l.drop i) i v=some r/\s=St i v,⟨St 0 s0,l.length,hw,0,s0,by simp,by simp,by simpa using h,rfl⟩,?_⟩
 rintro _ n ⟨i,v,hn,hi,hf,rfl⟩
 by_cases he:i=l.length
 ·subst he
  simp only[List.drop_length,Aa] at hf
  exact hend v _ hf
 have hlt:i<l.length:=by omega
 rw[List.drop_eq_getElem_cons hlt] at hf
 simp only[Aa] at hf
 exact hstep _ i l[i] v _ hlt (by simp[hlt]) (WN (by omega) ⟨by omega,by omega⟩) hf
  fun t v' hw' hn'=>⟨_,l.length-(i+1),by omega,hw',i+1,v',rfl,by omega,hn',rfl⟩
theorem IF {np:Nat}{body:(AE->ASt->Prop)->ASt->Prop}{K:AE->ASt->Prop}{st:ASt}{α σ ρ:Type}{done:σ->Option ρ}{bd:(σ->Option ρ)->α->Nat->σ->Option ρ}{l:List α}{s0:σ}{r:ρ}
  (slot e sz:Nat) (fz:FZ) (enc:α->D) (hs:st.ob.getD slot none=some (.row e sz (l.map enc) fz)) (St:Nat->σ->ASt) (hw:Weak np st (St 0 s0))
  (hend :∀(s:σ) (K':ASt->Prop),done s=some r->body (onL K K') (St l.length s))
  (hstep :∀(next:σ->Option ρ) (i:Nat) (x:α) (s:σ) (K':ASt->Prop),i<l.length->(l.map enc).getD i default=enc x->IntKind.i64.wrap ((i:Int)+1)=((i+1:Nat):Int)->bd next x i s=some r->
   (∀t v,Weak np t (St (i+1) v)->next v=some r->K' t)->body (onL K K') (St i s)):Aa done bd l 0 s0=some r->LoopP np body K st:=by
 intro h
 refine .mk fun _ hb=>?_
 have hl:l.length<=9223372036854775807:=by simpa using hb slot _ _ _ _ hs
 refine⟨fun s n=>∃(i:Nat) (v:σ),n=l.length-i/\i<=l.length/\Aa done bd (l.drop i) i v=some r/\s=St i v,⟨St 0 s0,l.length,hw,0,s0,by simp,by simp,by simpa using h,rfl⟩,?_⟩
 rintro _ n ⟨i,v,hn,hi,hf,rfl⟩
 by_cases he:i=l.length
 ·subst he
  simp only[List.drop_length,Aa] at hf
  exact hend v _ hf
 have hlt:i<l.length:=by omega
 rw[List.drop_eq_getElem_cons hlt] at hf
 simp only[Aa] at hf
 exact hstep _ i l[i] v _ hlt (by simp[hlt]) (WN (by omega) ⟨by omega,by omega⟩) hf
  fun t v' hw' hn'=>⟨_,l.length-(i+1),by omega,hw',i+1,v',rfl,by omega,hn',rfl⟩
theorem BO {α:Type}{l:List α}{i:Nat}(h:i<l.length):decide ((i:Int)<(l.length:Int))=true:=by simpa using h
theorem BV {α:Type}{l:List α}:decide ((l.length:Int)<(l.length:Int))=false:=by simp
theorem Aq {α β:Type}{f:α->β}{l:List α}{i:Nat}(h:i<l.length):0<=(i:Int)/\(i:Int)<((l.map f).length:Int):=⟨by omega,by simpa using h⟩
theorem BZ {np:Nat}{body:(AE->ASt->Prop)->ASt->Prop}{K:AE->ASt->Prop}{st:ASt}{σ ρ:Type}{bd:(σ->Option ρ)->σ->Option ρ}{n:Nat}{s0:σ}{r:ρ}
  (St:σ->ASt) (hw:Weak np st (St s0))
  (hstep :∀(next:σ->Option ρ) (s:σ) (K':ASt->Prop),bd next s=some r->(∀t v,Weak np t (St v)->next v=some r->K' t)->body (onL K K') (St s)):CY bd n s0=some r->LoopP np body K st:=by
 intro h
 refine .mk fun _ _=>⟨fun s n=>∃v,CY bd n v=some r/\s=St v,⟨St s0,n,hw,s0,h,rfl⟩,?_⟩
 rintro _ m ⟨v,hf,rfl⟩
 cases m with
 | zero=>cases hf
 | succ m=>exact hstep _ v _ hf fun t v' hw' hn'=>⟨_,m,Nat.lt_succ_self m,hw',v',hn',rfl⟩
def Ro (ps:List Nat)(acc:List Nat):Nat:=ps.foldl (fun m j=>m ||| 2^j ||| acc.getD (acc.length-1-j) 0) 0
def Yp:List Oper->List Nat->List Nat
 | [],acc=>acc
 | o::l,acc=>Yp l (Ro (CU o) acc::acc)
def T9 (ops:Array Oper)(o:Oper)(m:Nat):List Oper->Bool
 | []=>true
 | q::prev=>(m.testBit prev.length || q.apart ops o)&&T9 ops o m prev
def drawB.go (ops:Array Oper):List Oper->List Oper->List Nat->Bool
 | [],_,_=>true
 | o::l,prev,masks=>(CU o).all (fun j=>Nat.blt j prev.length)&&(match o.op with | .select _ _=>false | _=>true)&&T9 ops o (Ro (CU o) masks) prev &&
   drawB.go ops l (o::prev) (Ro (CU o) masks::masks)
def drawB (ops:Array Oper):Bool:=drawB.go ops ops.toList [] []
theorem LG :∀(a b:List Oper) (acc:List (List Nat)),IX (a++b) acc=IX b (IX a acc)
 | [],_,_=>rfl
 | o::a,b,acc=>LG a b _
theorem Pm :∀(l:List Oper) (acc:List (List Nat)),∃p,IX l acc=p++acc/\p.length=l.length
 | [],acc=>⟨[],rfl,rfl⟩
 | o::l,acc=>by
  obtain⟨p,h1,h2⟩:=Pm l (((CU o).flatMap fun j=>j::acc.getD (acc.length-1-j) [])::acc)
  exact⟨p++[(CU o).flatMap fun j=>j::acc.getD (acc.length-1-j) []],by rw[IX,h1];simp,by simp[h2]⟩
def MaskR (masks:List Nat)(acc:List (List Nat)):Prop:=masks.length=acc.length/\∀k j,(masks.getD k 0).testBit j=true->j∈acc.getD k []
theorem QU {masks:List Nat}{acc:List (List Nat)}(h:MaskR masks acc)(ps:List Nat)(j:Nat)(hj:(Ro ps masks).testBit j=true):j∈ps.flatMap fun j=>j::acc.getD (acc.length-1-j) []:=by
 have key :∀(ps:List Nat) (m:Nat),(ps.foldl (fun m j=>m ||| 2^j ||| masks.getD (masks.length-1-j) 0) m).testBit j=true->
   m.testBit j=true\/j∈ps.flatMap fun j=>j::acc.getD (acc.length-1-j) []:=by
  intro ps
  induction ps with
  | nil=>intro m h;exact .inl h
  | cons p ps ih=>
   intro m hm
   simp only[List.foldl_cons] at hm
   rcases ih _ hm with g | g
   ·simp only[Nat.testBit_or,Bool.or_eq_true,Nat.testBit_two_pow,decide_eq_true_eq] at g
    rcases g with (g | g)|g
    ·exact .inl g
    ·subst g;exact .inr (by simp)
    rw[h.1] at g
    have:=h.2 _ _ g
    exact .inr (by simp only[List.flatMap_cons,X23,List.mem_cons];exact .inl (.inr this))
   exact .inr (by simp only[List.flatMap_cons,X23];exact .inr g)
 rcases key ps 0 hj with g | g
 ·simp at g
 exact g
theorem MaskR.cons {masks:List Nat}{acc:List (List Nat)}(h:MaskR masks acc)(ps:List Nat):MaskR (Ro ps masks::masks) ((ps.flatMap fun j=>j::acc.getD (acc.length-1-j) [])::acc):=by
 refine⟨by simp[h.1],fun k j hk=>?_⟩
 cases k with
 | zero=>exact QU h ps j hk
 | succ k=>exact h.2 k j hk
theorem ZE :∀(l:List Oper) {masks:List Nat} {acc:List (List Nat)},MaskR masks acc->MaskR (Yp l masks) (IX l acc)
 | [],_,_,h=>h
 | o::l,_,_,h=>ZE l (h.cons (CU o))
theorem TO {ops:Array Oper}{o:Oper}{m:Nat} :∀{prev:List Oper},T9 ops o m prev=true->∀j q,j<prev.length->prev.reverse[j]?=some q->m.testBit j=true\/q.apart ops o=true
 | [],_,j,q,hj,_=>by simp at hj
 | p::prev,h,j,q,hj,hq=>by
  simp only[T9,X27,Bool.or_eq_true] at h
  simp only[List.reverse_cons] at hq
  by_cases he:j=prev.length
  ·subst he
   rw[List.getElem?_append_right (by simp)] at hq
   simp at hq
   subst hq
   exact h.1
  have hlt:j<prev.length:=by simp at hj;omega
  rw[List.getElem?_append_left (by simpa using hlt)] at hq
  exact TO h.2 j q hlt hq
theorem TL {ops:Array Oper} :∀(l prev:List Oper) (masks:List Nat),prev.reverse++l=ops.toList->MaskR masks (IX prev.reverse [])->drawB.go ops l prev masks=true->
  ∀i o,prev.length<=i->ops[i]?=some o->((CU o).all (fun j=>Nat.blt j i)&&(match o.op with | .select _ _=>false | _=>true) &&
   (List.range i).all fun j=>(GZ ops i).contains j || (match ops[j]? with
    | none=>false
    | some q=>q.apart ops o))=true
 | [],prev,masks,hl,_,_,i,o,hi,ho=>by
  have:ops.toList.length=prev.length:=by rw[<- hl];simp
  simp only[Array.length_toList] at this
  have:=(Array.getElem?_eq_some_iff.1 ho).1
  omega
 | q::l,prev,masks,hl,hR,h,i,o,hi,ho=>by
  simp only[drawB.go,X27] at h
  obtain⟨⟨⟨h1,h2⟩,h3⟩,h4⟩:=h
  by_cases he:i=prev.length
  ·subst he
   have ho':ops.toList[prev.length]?=some o:=by simpa using ho
   rw[<- hl,List.getElem?_append_right (by simp)] at ho'
   simp at ho'
   subst ho'
   have ha:GZ ops prev.length=(CU q).flatMap fun j=>j::(IX prev.reverse []).getD ((IX prev.reverse []).length-1-j) []:=by
    unfold GZ
    rw[<- hl,LG,IX]
    obtain⟨p,hp,hpl⟩:=Pm l (((CU q).flatMap fun j=>j::(IX prev.reverse []).getD ((IX prev.reverse []).length-1-j) [])::IX prev.reverse [])
    have hs:ops.size-1-prev.length=p.length:=by
     have:ops.toList.length=prev.length+(l.length+1):=by rw[<- hl];simp
     simp only[Array.length_toList] at this
     omega
    rw[hp,hs]
    simp
   simp only[X27]
   refine⟨⟨h1,h2⟩,?_⟩
   rw[List.all_eq_true]
   intro j hj
   have hj:=List.mem_range.1 hj
   have hjs :∃p,ops[j]?=some p/\prev.reverse[j]?=some p:=by
    have hlt:j<prev.reverse.length:=by simpa using hj
    refine⟨prev.reverse[j],?_,X15 hlt⟩
    have:ops.toList[j]?=some prev.reverse[j]:=by rw[<- hl,List.getElem?_append_left hlt,X15 hlt]
    simpa using this
   obtain⟨p,hp1,hp2⟩:=hjs
   rw[Bool.or_eq_true]
   rcases TO h3 j p hj hp2 with g | g
   ·left
    rw[ha]
    simpa using QU hR (CU q) j g
   right
   rw[hp1]
   exact g
  refine TL l (q::prev) _ (by simpa using hl) ?_ h4 i o (by simp;omega) ho
  rw[List.reverse_cons,LG]
  exact hR.cons (CU q)
theorem ZW {ops:Array Oper}(h:drawB ops=true):IG ops=true:=by
 unfold IG
 rw[List.all_eq_true]
 intro i hi
 have hi:=List.mem_range.1 hi
 have:=TL ops.toList [] [] (by simp) ⟨rfl,fun k j hk=>by simp at hk⟩ h i ops[i] (by simp) (by simp[hi])
 simp only[hi,getElem?_pos]
 exact this
def confB.conf (M:List Nat)(n i:Nat)(fp wr:List Nat):Nat->List (List Nat×List Nat)->Bool
 | _,[]=>true
 | j,(fp',wr')::l=>((M.getD (n-1-j) 0).testBit i || ((wr.all fun r=>!fp'.contains r)&&fp.all fun r=>!wr'.contains r))&&confB.conf M n i fp wr (j+1) l
def confB.go (M:List Nat)(n:Nat):Nat->List (List Nat×List Nat)->Bool
 | _,[]=>true
 | i,(fp,wr)::l=>confB.conf M n i fp wr (i+1) l&&confB.go M n (i+1) l
def confB (ops:Array Oper)(evs:List (List Nat×List Nat)):Bool:=confB.go (Yp ops.toList []) ops.size 0 evs
theorem Z1 {ops:Array Oper}{evs:List (List Nat×List Nat)}(h:confB ops evs=true):F9 ops 0 evs=true:=by
 have hR:=ZE ops.toList (masks:=[]) (acc:=[]) ⟨rfl,fun k j hk=>by simp at hk⟩
 have c :∀(l:List (List Nat×List Nat)) (i:Nat) (fp wr:List Nat) (j:Nat),confB.conf (Yp ops.toList []) ops.size i fp wr j l=true->F9.conf ops i fp wr j l=true:=by
  intro l
  induction l with
  | nil=>intro i fp wr j _;rfl
  | cons x l ih=>
   intro i fp wr j hc
   obtain⟨fp',wr'⟩:=x
   simp only[confB.conf,X27] at hc
   simp only[F9.conf,X27]
   refine⟨?_,ih _ _ _ _ hc.2⟩
   have hc1:=hc.1
   rw[Bool.or_eq_true] at hc1 ⊢
   rcases hc1 with g | g
   ·exact .inl (by simpa[GZ] using hR.2 _ _ g)
   exact .inr g
 have g :∀(l:List (List Nat×List Nat)) (i:Nat),confB.go (Yp ops.toList []) ops.size i l=true->F9 ops i l=true:=by
  intro l
  induction l with
  | nil=>intro i _;rfl
  | cons x l ih=>
   intro i hc
   obtain⟨fp,wr⟩:=x
   simp only[confB.go,X27] at hc
   simp only[F9,X27]
   exact⟨c _ _ _ _ _ hc.1,ih _ hc.2⟩
 exact g _ _ h
theorem dOB {ops:Array Oper}{K:Prop}(h:drawB ops=true)(k:K):IG ops=true/\K:=⟨ZW h,k⟩
theorem cOB {ops:Array Oper}{e:List (List Nat×List Nat)}{K:Prop}(h:confB ops e=true)(k:K):F9 ops 0 e=true/\K:=⟨Z1 h,k⟩
def M1 (x:Int):UInt8:=UInt8.ofNat (x%256).toNat
def BF (x:Int):UInt64:=UInt64.ofNat (x%18446744073709551616).toNat
theorem Uk (x:Int):IntKind.u8.wrap x=((M1 x).toNat:Int):=by
 have e:(2^IntKind.u8.bits:Int)=256:=by decide
 simp only[IntKind.wrap,IntKind.signed,e,M1,UInt8.toNat_ofNat']
 simp
 omega
theorem BK (x:Int):IntKind.u64.wrap x=((BF x).toNat:Int):=by
 have e:(2^IntKind.u64.bits:Int)=18446744073709551616:=by decide
 simp only[IntKind.wrap,IntKind.signed,e,BF,UInt64.toNat_ofNat']
 simp
 omega
theorem Rw {n:Int}(h:0<=n/\n<256):((M1 n).toNat:Int)=n:=by
 simp only[M1,UInt8.toNat_ofNat'];simp;omega
theorem PZ {n:Int}(h:0<=n/\n<18446744073709551616):((BF n).toNat:Int)=n:=by
 simp only[BF,UInt64.toNat_ofNat'];simp;omega
theorem Rm {n m:Nat}(s:Nat)(h:n<m):0<=(n:Int).fdiv (2^s)/\(n:Int).fdiv (2^s)<m:=by
 have e:(2^s:Int)=((2^s:Nat):Int):=by simp
 rw[e,Int.fdiv_eq_ediv_of_nonneg _ (Int.natCast_nonneg _),<- Int.natCast_ediv]
 have:=Nat.div_le_self n (2^s)
 generalize n/2^s=q at *
 omega
theorem cK (x:UInt8)(s:Nat):(x.toNat:Int).fdiv (2^s)=((M1 ((x.toNat:Int).fdiv (2^s))).toNat:Int):=(Rw (Rm s x.toNat_lt)).symm
theorem XN (x:UInt64)(s:Nat):(x.toNat:Int).fdiv (2^s)=((BF ((x.toNat:Int).fdiv (2^s))).toNat:Int):=(PZ (Rm s x.toNat_lt)).symm
end Go.AX
end
section
namespace Go.AX
open Go.RowKit Go.Deep Go.ChangeShapes Go.WideShapes Go.ChangeAt
section
variable {H:Type} {enc:TypeId×Value->H} {P:Program} {w:World} {L:Lim H P}
theorem ReadsL.map' {t:Nat}{α β:Type}{cells:α->List D}{ok:α->Prop}(h:ReadsL L enc w t cells ok){cells':β->List D}{ok':β->Prop}(g:α->β)(hc :∀a,ok a->cells' (g a)=cells a)(hk :∀a,ok a->ok' (g a)):ReadsL L enc w t cells' ok':=by
 intro fuel cs x hx hw
 obtain⟨a,h1,h2⟩:=h fuel cs x hx hw
 exact⟨g a,hk a h1,by rw[hc a h1];exact h2⟩
theorem RU {k:IntKind}{n:Int}(h:(Lit.int k n).wf=true):k.min<=n/\n<=k.max:=by simpa[Lit.wf] using h
theorem reads_i64 {t:Nat}(ht:P.underlying t=some (.int .i64)):ReadsL L enc w t (fun n:Int=>[D.i n]) I64:=
 (OZ ht).map' id (fun _ _=>rfl) fun a h=>by
  have:=RU h
  simpa[IntKind.min,IntKind.max,IntKind.signed,IntKind.bits,I64] using this
theorem reads_u8 {t:Nat}(ht:P.underlying t=some (.int .u8)):ReadsL L enc w t (fun n:UInt8=>[D.u8 n]) (fun _=>True):=
 (OZ ht).map' M1 (fun a h=>by
  have:=RU h
  have:=Rw (n:=a) (by simp[IntKind.min,IntKind.max,IntKind.signed,IntKind.bits] at this;omega)
  simp only[D.u8,this]) fun _ _=>trivial
theorem reads_u64 {t:Nat}(ht:P.underlying t=some (.int .u64)):ReadsL L enc w t (fun n:UInt64=>[D.u64 n]) (fun _=>True):=
 (OZ ht).map' BF (fun a h=>by
  have:=RU h
  have:=PZ (n:=a) (by simp[IntKind.min,IntKind.max,IntKind.signed,IntKind.bits] at this;omega)
  simp only[D.u64,this]) fun _ _=>trivial
theorem open_one {t:Nat}{td:TypeDesc}(ht:P.underlying t=some td)(hk:(match td with | .int _ | .bool | .string | .slice _=>true | _=>false)=true){α:Type}{c:α->D}{ok:α->Prop}(h:ReadsL L enc w t (fun a=>[c a]) ok){base:Nat}{v:Value}{d:DataW H}{p:List MemPlace}
  (hval:Value.okWide P w .any base t v) (hv:DataW.Trod enc P w 0 (fun _=>true) true t v d p) (hw:L.W t d) :∃x,ok x/\RepA (Old w) w (fun _=>none) (ofL []) (.d (c x)) v:=by
 obtain⟨fuel,hf⟩:=hv
 obtain⟨x,h1,h2⟩:=h fuel _ _ hf hw
 refine⟨x,h1,.d _ _ (RepI.val (?_:RepI w [c x] [v]))⟩
 have hna :∀cs,v≠.agg cs:=by
  rintro cs rfl
  unfold Value.okWide at hval
  rw[ht] at hval
  cases td<;>simp at hk<;>simp[Cell.okWide,Cell.ok,ht] at hval
 have:v.cells.toList=[v]:=by
  cases v<;>first | rfl | (rename_i cs;exact absurd rfl (hna cs))
 rwa [this] at h2
theorem open_struct {t:Nat}{F:Array Field}(ht:P.underlying t=some (.struct F)){α:Type}{c:α->List D}{ok:α->Prop}(h:ReadsL L enc w t c ok){base:Nat}{v:Value}{d:DataW H}{p:List MemPlace}
  (hval:Value.okWide P w .any base t v) (hv:DataW.Trod enc P w 0 (fun _=>true) true t v d p) (hw:L.W t d) :∃x,ok x/\RepA (Old w) w (fun _=>none) (ofL []) (.d (.agg (c x))) v:=by
 unfold Value.okWide at hval
 rw[ht] at hval
 obtain⟨cs,rfl,_⟩:=hval
 obtain⟨x,h1,h2⟩:=X5 h hv hw
 exact⟨x,h1,.d _ _ h2⟩
inductive Opened (w:World):List Value->List AV->Prop
 | nil:Opened w [] []
 | cons {v:Value} {x:D} {vs:List Value} {avs:List AV} (h:RepA (Old w) w (fun _=>none) (ofL []) (.d x) v) (t:Opened w vs avs):Opened w (v::vs) (.d x::avs)
theorem Opened.get {vs:List Value}{avs:List AV}(h:Opened w vs avs):vs.length=avs.length/\∀i (hi:i<avs.length),RepA (Old w) w (fun _=>none) (ofL []) avs[i] (vs.getD i undef)/\Closed (ofL []) avs[i]:=by
 induction h with
 | nil=>exact⟨rfl,fun i hi=>by simp at hi⟩
 | cons h t ih=>
  refine⟨by simp[ih.1],fun i hi=>?_⟩
  cases i with
  | zero=>exact⟨h,BJ _ _⟩
  | succ i=>simpa using ih.2 i (by simpa using hi)
theorem MA (hl:laidOutB P=true){W W':World}(hb:Below W.heap.size W W') :∀{ts:List TypeId} {vs:List Value} {ds:List (DataW H)} {ps:List MemPlace},
  (ts.all fun t=>P.readableRec t&&decide (t<P.types.size))=true->DataW.TrodAll enc P W 0 (fun _=>true) true ts vs ds ps->DataW.TrodAll enc P W' 0 (fun b=>decide (b<W.heap.size)) true ts vs ds ps
 | [],[],[],_,_,h=>h
 | t::ts,v::vs,d::ds,ps,hr,h=>by
  have hlt:=h.lt
  obtain⟨p,q,h1,h2,rfl⟩:=h
  simp only[List.all_cons,X27,decide_eq_true_eq] at hr
  exact⟨p,q,Below.trod hl hr.1.1 hr.1.2 h1 hb fun x hx=>hlt x (by simp[hx]),MA hl hb hr.2 h2,rfl⟩
 | [],[],_::_,_,_,h=>h.elim
 | [],_::_,_,_,_,h=>h.elim
 | _::_,[],_,_,_,h=>h.elim
 | _::_,_::_,[],_,_,h=>h.elim
theorem trodAll_length :∀{ts:List TypeId} {vs:List Value} {ds:List (DataW H)} {ps:List MemPlace} {sp:Nat->Bool},DataW.TrodAll enc P w 0 sp true ts vs ds ps->ds.length=ts.length/\vs.length=ts.length
 | [],[],[],_,_,_=>⟨rfl,rfl⟩
 | t::ts,v::vs,d::ds,_,_,h=>by
  obtain⟨p,q,_,h2,_⟩:=h
  obtain⟨a,b⟩:=trodAll_length h2
  exact⟨by simp[a],by simp[b]⟩
 | [],[],_::_,_,_,h=>h.elim
 | [],_::_,_,_,_,h=>h.elim
 | _::_,[],_,_,_,h=>h.elim
 | _::_,_::_,[],_,_,h=>h.elim
theorem frame_contractL {X:World->Prop}{wl:WL}{C:Checked}{L:Lim H C.prog}{f:FuncId}{fn:Func}{s:ChangeSpec}{b:TypeId}(hl:laidOutB C.prog=true)(hvars:s.vars=[])(hfn :∀ds:List (DataW H),ds.length=fn.params.size->s.fn H (ds++[])={ results:=[.lit (.bool true)],args:=ds })
  (hres:fn.resultTypes=#[b]) (hb:C.prog.underlying b=some .bool) (hread:(fn.params.toList.all fun t=>C.prog.readableRec t&&decide (t<C.prog.types.size))=true)
  (law :∀(W:World),X W->∀(base:Nat) (args:Array Value) (ds:List (DataW H)) (p:List MemPlace),(∀(j:Nat) t v,fn.params[j]?=some t->args[j]?=some v->Value.okWide C.prog W .any base t v)->
   DataW.TrodAll enc C.prog W 0 (fun _=>true) true fn.params.toList args.toList ds p->(∀(j:Nat) t d,fn.params.toList[j]?=some t->ds[j]?=some d->L.W t d)->∃avs,Opened W args.toList avs/\A4 wl C.prog f avs [] (.b true) []/\∃gb:Nat->Prop,wl.gf gb W/\∀b,gb b->b<W.heap.size) :
  ∀(W:World),X W->∀(base:Nat) (args:Array Value) (ds gs:List (DataW H)) (before:List MemPlace),
   (∀(j:Nat) t v,fn.params[j]?=some t->args[j]?=some v->Value.okWide C.prog W .any base t v)->
   DataW.Whole enc C.prog fn.params.toList s.vars false W args.toList ds gs before->
   (∀(j:Nat) t d,fn.params.toList[j]?=some t->ds[j]?=some d->L.W t d)->
   Calls C.prog f args W fun e W'=>∃v,e=.returned v/\s.post enc C.prog fn false true false false W args v W':=by
 intro W hX base args ds gs before hval hW hwt
 have hW':=hW
 obtain⟨p,q,hA,hV,rfl,hfz,hnd⟩:=hW
 rw[hvars] at hV
 obtain⟨rfl,rfl⟩:=trodVars_none hV
 have hd:ds.length=fn.params.size:=by simpa using (trodAll_length hA).1
 obtain⟨avs,h1,h2,gb,hgb⟩:=law W hX base args ds p hval hA hwt
 obtain⟨o1,o2⟩:=h1.get
 refine (X7 h2 W hgb args (by simpa using o1) fun i hi=>by simpa[<- Array.getElem?_toList] using o2 i hi).mono fun e W' ⟨he,bel⟩=>?_
 subst he
 refine⟨_,rfl,ds,[],p++[],[],p,[],hW',?_,?_,?_,bel.frame _,fun h=>by cases h⟩
 ·rw[hfn ds hd,hres]
  exact trodAll_mk1 (shut_bool hb _)
 ·rw[hfn ds hd]
  exact MA hl bel hread hA
 rw[hfn ds hd,hvars]
 rfl
theorem aM {P:Program}{ts vs:List TypeId}{ds gs:List (DataW H)}(h:(DataW.weightsEach P (ts++vs) (ds++gs)).all (·<=reachBytes)=true)(j:Nat)(t:TypeId)(d:DataW H)(ht:ts[j]?=some t)(hd:ds[j]?=some d):(Lim.reach H P).W t d:=
 List.all_eq_true.2 fun n hn=>List.all_eq_true.1 h n (DataW.weights_mem_each (j:=j) (by rw[List.getElem?_append_left (X16.1 ht).1];exact ht) (by rw[List.getElem?_append_left (X16.1 hd).1];exact hd) n hn)
end
end Go.AX
end
section
namespace Go.AX
open Go.WideElems
section
variable {H:Type} {enc:TypeId×Value->H} {P:Program} {w:World} {sp:Nat->Bool} {held:Bool} {t k e:TypeId}
theorem keyOf_int {kd:IntKind}(hk:P.underlying k=some (.int kd)){v:Value}{y:Lit}(h:keyOf P k v=some y) :∃n,v=.int kd n/\y=.int kd n:=by
 have h':mapKey P k v=some y:=by
  unfold keyOf at h
  rw[hk] at h
  exact h
 unfold mapKey at h'
 rw[hk] at h'
 cases v with
 | int q n=>
  simp only at h'
  split at h'
  ·rename_i hc
   obtain⟨rfl,_⟩:=hc
   exact⟨n,rfl,(X25 h').symm⟩
  cases h'
 | _=>simp at h'
theorem Zz {kd:IntKind}(ht:P.underlying t=some (.map k e))(hk:P.underlying k=some (.int kd)){fuel:Nat}{cs:List Value}{tab:List (Lit×DataW H)}{p:List MemPlace}
  (h:DataW.trod enc P w 0 sp held fuel t cs=some (.map tab,p)) (D2:Lit×DataW H->D×D)
  (hD :∀(n:Int) (v:Value) (d:DataW H) (m:Nat) (q:List MemPlace),(Lit.int kd n,d)∈tab->DataW.trod enc P w 0 sp held m e v.cells.toList=some (d,q)->v.formed P e=true->D2 (.int kd n,d)=(.val (.int kd n),.val v)/\v.oneCell'=true) :
  ∃b arr clock,cs=[.map (some b)]/\w.heap[b]?=some (.map arr clock)/\(arr.toList.map fun x=>(D.val x.key,D.val x.val)).Perm (tab.map D2)/\∀x∈arr.toList,x.key.oneCell'=true/\x.val.oneCell'=true:=by
 rcases open_map ht h with ⟨_,hx⟩|⟨b,arr,clock,n,_,hcs,hb,_,F,hx⟩
 ·simp at hx
 simp only[X26,DataW.map.injEq] at hx
 have hp:tab.Perm (arr.toList.map (rg P k (elemAt enc P w 0 sp held n e))):=by
  rw[hx.1];exact Go.WideShapes.sorted_perm _
 have hone :∀x∈arr.toList,D2 (rg P k (elemAt enc P w 0 sp held n e) x)=(D.val x.key,D.val x.val)/\x.key.oneCell'=true/\x.val.oneCell'=true:=by
  intro x hx
  obtain⟨⟨yl,yd⟩,hy⟩:=F.reads x hx
  have hmem:(yl,yd)∈tab:=hp.mem_iff.2 (List.mem_map.2 ⟨x,hx,rg_of hy⟩)
  rw[rg_of hy]
  have hkey:=rd_key hy
  obtain⟨m,h1,h2⟩:=keyOf_int hk hkey
  unfold rd at hy
  rw[hkey,Option.bind_some,Option.map_eq_some_iff] at hy
  obtain⟨⟨d,q⟩,hd,hy⟩:=hy
  simp only[X26,true_and] at hy
  subst hy
  unfold elemAt at hd
  split at hd
  ·rename_i hf
   dsimp only at h2
   subst h2
   obtain⟨g1,g2⟩:=hD m x.val d n q hmem hd hf
   rw[h1]
   exact⟨g1,rfl,g2⟩
  simp at hd
 refine⟨b,arr,clock,hcs,hb,?_,fun x hx=>(hone x hx).2⟩
 have e:(arr.toList.map fun x=>(D.val x.key,D.val x.val))=(arr.toList.map (rg P k (elemAt enc P w 0 sp held n e))).map D2:=by
  rw[List.map_map]
  exact List.map_congr_left fun x hx=>(hone x hx).1.symm
 rw[e]
 exact (hp.symm.map D2)
end
section
variable {H:Type} {enc:TypeId×Value->H} {P:Program} {w:World}
open Go.ChangeShapes Go.WideShapes Go.ChangeAt Go.RowKit
theorem frame_contractX {X:World->Prop}{wl:WL}{C:Checked}{f:FuncId}{fn:Func}{s:ChangeSpec}{b:TypeId}(hl:laidOutB C.prog=true)(hvars:s.vars=[])(hfn :∀ds:List (DataW H),ds.length=fn.params.size->s.fn H (ds++[])={ results:=[.lit (.bool true)],args:=ds })
  (hres:fn.resultTypes=#[b]) (hb:C.prog.underlying b=some .bool) (hread:(fn.params.toList.all fun t=>C.prog.readableRec t&&decide (t<C.prog.types.size))=true)
  (law :∀(W:World),X W->∀(base:Nat) (args:Array Value) (ds:List (DataW H)) (p:List MemPlace),(∀(j:Nat) t v,fn.params[j]?=some t->args[j]?=some v->Value.okWide C.prog W .any base t v)->
   DataW.TrodAll enc C.prog W 0 (fun _=>true) true fn.params.toList args.toList ds p->(∀(j:Nat) t d,fn.params.toList[j]?=some t->ds[j]?=some d->Wt C.prog t d)->∃avs,Opened W args.toList avs/\A4 wl C.prog f avs [] (.b true) []/\∃gb:Nat->Prop,wl.gf gb W/\∀b,gb b->b<W.heap.size) :
  ∀(W:World),X W->∀(base:Nat) (args:Array Value) (ds gs:List (DataW H)) (before:List MemPlace),
   (∀(j:Nat) t v,fn.params[j]?=some t->args[j]?=some v->Value.okWide C.prog W .any base t v)->
   DataW.Whole enc C.prog fn.params.toList s.vars false W args.toList ds gs before->
   (DataW.weightsEach C.prog (fn.params.toList++s.plain.varTypes C.prog) (ds++gs)).all (·<=reachBytes)=true->
   Calls C.prog f args W fun e W'=>∃v,e=.returned v/\s.post enc C.prog fn false true false false W args v W':=by
 intro W hX base args ds gs before hval hW hwt
 exact frame_contractL (L:=Lim.reach H C.prog) hl hvars hfn hres hb hread law W hX base args ds gs before hval hW (aM hwt)
end
theorem V7 {tk:TK}{x:D}{l m:List (D×D)}(hp:l.Perm m)(hk :∀p∈l,∃n,p.1=.val (.int .i64 n))(hd:l.Pairwise fun a b=>a.1≠b.1){q:Option D}(h:CQ tk x l=some q):CQ tk x m=some q:=by
 induction hp generalizing q with
 | nil=>exact h
 | cons p hp ih=>
  simp only[CQ] at h ⊢
  have h1:=List.pairwise_cons.1 hd
  split at h
  ·exact h
  ·exact ih (fun p hp=>hk p (X19 _ hp)) h1.2 h
  cases h
 | swap a b l=>
  obtain⟨i,hi⟩:=hk b (by simp)
  obtain⟨j,hj⟩:=hk a (by simp)
  have hne:b.1≠a.1:=(List.pairwise_cons.1 hd).1 a (by simp)
  simp only[CQ,hi,hj] at h ⊢
  rw[hi,hj] at hne
  have hij:i≠j:=fun e=>hne (by rw[e])
  cases hx1:E0 tk x (.val (.int .i64 i)) with
  | none=>rw[hx1] at h;cases h
  | some b1=>
   have hx2 :∃b2,E0 tk x (.val (.int .i64 j))=some b2/\(b1=true->b2=false):=by
    unfold E0 at hx1 ⊢
    split at hx1
    ·rename_i kk a' kk' bb heq
     cases heq
     split at hx1
     ·rename_i hkk
      rw[if_pos hkk]
      refine⟨_,rfl,fun hb=>?_⟩
      obtain rfl:=X25 hx1
      simp only[beq_iff_eq] at hb
      subst hb
      simpa using hij
     cases hx1
    ·rename_i heq;cases heq
    ·rename_i heq;cases heq
    cases hx1
   obtain⟨b2,hx2,hb⟩:=hx2
   rw[hx1,hx2] at h
   rw[hx2]
   cases b1
   ·cases b2<;>exact h
   rw[hb rfl]
   exact h
 | trans h1 h2 ih1 ih2=>
  refine ih2 (fun p hp=>hk p (h1.mem_iff.2 hp)) ((h1.pairwise_iff fun h e=>h e.symm).1 hd) (ih1 hk hd h)
theorem YY {w:World}{arr:List MapEntry}(h :∀x∈arr,x.key.oneCell'=true/\x.val.oneCell'=true):EntsOK (fun _ _=>False) w (arr.map fun x=>(D.val x.key,D.val x.val)) arr:=by
 refine⟨by simp,fun i hi=>?_⟩
 have hi':i<arr.length:=by simpa using hi
 refine⟨arr[i],X15 hi',⟨arr[i].key,by simp,rfl,(h _ (List.getElem_mem hi')).1⟩,?_⟩
 simp only[List.getElem_map]
 exact .val _ (h _ (List.getElem_mem hi')).2
end Go.AX
end
section
namespace Go.AX
theorem JR {σ ρ:Type}{body:(σ->Option ρ)->σ->Option ρ}(P:σ->Prop)(μ:σ->Nat)(F:σ->Option ρ)
  (hs :∀(next:σ->Option ρ) s,P s->(∀s',P s'->μ s'<μ s->next s'=F s')->body next s=F s) :
  ∀(n:Nat) (s:σ),P s->μ s<n->CY body n s=F s
 | 0,s,_,h=>absurd h (Nat.not_lt_zero _)
 | n+1,s,h,hm=>hs _ s h fun s' h' hlt=>JR P μ F hs n s' h' (by omega)
theorem TM {σ ρ:Type}{body:(σ->Option ρ)->σ->Option ρ}(P:σ->Prop)(μ:σ->Nat)(Q:ρ->Prop)
  (hs :∀(next:σ->Option ρ) s,P s->(∀s',P s'->μ s'<μ s->∃r,next s'=some r/\Q r)->∃r,body next s=some r/\Q r) :
  ∀(n:Nat) (s:σ),P s->μ s<n->∃r,CY body n s=some r/\Q r
 | 0,s,_,h=>absurd h (Nat.not_lt_zero _)
 | n+1,s,h,hm=>hs _ s h fun s' h' hlt=>TM P μ Q hs n s' h' (by omega)
theorem Vv {α:Type}{l:List α}{a b:Nat}(h1:a<=b)(h2:b<=l.length):part l (a:Int) (b:Int)=some ((l.drop a).take (b-a)):=by
 unfold part
 rw[if_pos (by omega)]
 simp
theorem TU {τ ρ:Type}(b:Prop)[Decidable b](x y:τ)(K:τ->Option ρ):AB (fun k=>if b then k x else k y) K=K (if b then x else y):=by
 unfold AB;split<;>rfl
theorem O5 (a:Array UInt8):(ByteArray.mk a).toList=a.toList:=ByteArray.toList_eq _
theorem EJ {n:Nat}(h:n<18446744073709551616):n<fuel:=h
theorem BX {α:Type}{b:Nat}{l m:List α}(hb:Nat.ble b 65536=true)(h:l.length+m.length<=1000000000):apnd b l m=some (l++m):=by
 unfold apnd
 have hb:=X29 hb
 rw[if_pos]
 refine⟨?_,by omega⟩
 calc _<=1000000000*65536:=Nat.mul_le_mul h hb
  _<=2^47:=by decide
theorem C7 {α:Type}{l:List α}{i:Nat}(h:i<l.length):geti l (i:Int)=some l[i]:=by
 unfold geti
 rw[if_pos (by omega)]
 simp[h]
theorem QR {α:Type}(pre:List α)(x:α)(t:List α):geti (pre++x::t) (pre.length:Int)=some x:=by
 rw[C7 (by simp)];simp
theorem A3 {x:Int}(h:-9223372036854775808<=x/\x<=9223372036854775807):A0 x=x:=WN rfl h
theorem AA {α β:Type}(a:α)(f:α->Option β):(some a).bind f=f a:=Eq.trans rfl rfl
theorem AC {τ ρ:Type}(m:(τ->Option ρ)->Option ρ)(k:τ->Option ρ):AB m k=m k:=Eq.trans rfl rfl
end Go.AX
end
section
namespace Go.AX
theorem wk {np:Nat}{s s':ASt}(par:((List.range np).all fun r=>!(s.ob.getD r none).isSome || (s'.ob.getD r none).isSome)=true:=by rfl)
  (tm:tmW s s' s.tm s'.tm:=by
   repeat' (first
    | exact AvW.refl _
    | refine And.intro ?_ ?_
    | exact True.intro
    | exact AvW.norm _
    | exact AvW.fresh _ _ _ rfl rfl
    | exact AvW.lst _ _ _ _ _ _ rfl (by first | rfl | (simp only[X10];omega)) (.inl rfl)
    | exact AvW.lst _ _ _ _ _ _ rfl (by first | rfl | (simp only[X10];omega)) (.inr rfl)
    | exact AvW.ownL _ _ _ (by first | rfl | (simp only[X10];omega)|(simp only[cpy,X10,X11,X18,X17];omega))
    | exact AvW.osl _ _ _ _ _ (by first | rfl | (simp only[X10];omega))
    | exact AvW.oslD _ _ _ _ _ _ _ _ _ rfl (by first | rfl | (simp only[X10];omega)) Zl (.inl rfl)
    | exact AvW.oslD _ _ _ _ _ _ _ _ _ rfl (by first | rfl | (simp only[X10];omega)) Zl (.inr rfl)
    | refine AvW.tupL ?_
    | refine AvW.daggL rfl ?_
    | refine AvW.aggL rfl ?_
    | refine AvW.aggDL ?_
    | refine AvW.box _ _ _ _ rfl rfl rfl (Nat.zero_lt_succ _) ?_
    | exact rfl))
  (ob:obW s s' s.ob s'.ob:=by
   repeat' (first
    | exact AvW.refl _
    | refine And.intro ?_ ?_
    | exact rfl
    | exact True.intro
    | refine Exists.intro _ (And.intro rfl ?_)
    | exact .inl ⟨_,rfl,id,True.intro⟩
    | exact .inl ⟨_,rfl,fun _=>rfl,True.intro⟩
    | exact .inl ⟨_,rfl,id,.inr ⟨_,_,rfl,rfl,(by first | rfl | (simp only[X10];omega))⟩⟩
    | exact .inl ⟨_,rfl,id,.inl (X29 rfl)⟩
    | exact .inl ⟨_,rfl,id,.inl (Nat.le_of_eq (by assumption))⟩
    | exact .inr ⟨rfl,rfl,by decide⟩
    | exact .inl rfl
    | exact .inr ⟨_,_,_,rfl⟩
    | exact .inl ⟨_,rfl,(by first | rfl | (simp only[X10];omega))⟩
    | exact AvW.norm _
    | exact AvW.fresh _ _ _ rfl rfl
    | exact AvW.lst _ _ _ _ _ _ rfl (by first | rfl | (simp only[X10];omega)) (.inl rfl)
    | exact AvW.lst _ _ _ _ _ _ rfl (by first | rfl | (simp only[X10];omega)) (.inr rfl)
    | exact AvW.ownL _ _ _ (by first | rfl | (simp only[X10];omega)|(simp only[cpy,X10,X11,X18,X17];omega))
    | refine AvW.tupL ?_
    | refine AvW.daggL rfl ?_
    | refine AvW.aggL rfl ?_
    | refine AvW.aggDL ?_
    | refine AvW.box _ _ _ _ rfl rfl rfl (Nat.zero_lt_succ _) ?_))
  (closed:Nb s'=true:=by rfl):Weak np s s':=.mk par tm ob closed
theorem Yw {α:Type}{b:Nat}{r:List α}(h:Option.bind (apnd (α:=α) b [] []) (fun v=>some v)=some r):(some []:Option (List α))=some r:=by
 simpa[apnd] using h
section
variable {α τ ρ:Type} {r:ρ} {np:Nat} {t:ASt} {St:τ->ASt} {k':τ->Option ρ} {v v':τ} {b:Bool} {X:Option ρ} {A:Prop} {F:Option α} {k:α->Option ρ}
theorem AH (h:k' v=some r)(hw:Weak np t (St v):=by exact wk) :∃s,Weak np t s/\∃v,k' v=some r/\s=St v:=JJ hw h
theorem Ae (h:(if b=true then X else k' v)=some r)(a:X=some r->A)(hw:Weak np t (St v):=by exact wk):KN b A (∃s,Weak np t s/\∃v,k' v=some r/\s=St v):=Ue a (fun h=>JJ hw h) h
theorem A6 (h:(if b=true then k' v else X)=some r)(a:X=some r->A)(hw:Weak np t (St v):=by exact wk):KN b (∃s,Weak np t s/\∃v,k' v=some r/\s=St v) A:=Ue (fun h=>JJ hw h) a h
theorem selC {τ':Type}{t':ASt}{St':τ'->ASt}{k2:τ'->Option ρ}{v2:τ'}(h:(if b=true then k' v else k2 v2)=some r)(hw:Weak np t (St v):=by exact wk)(hw':Weak np t' (St' v2):=by exact wk):KN b (∃s,Weak np t s/\∃v,k' v=some r/\s=St v) (∃s,Weak np t' s/\∃v,k2 v=some r/\s=St' v):=
 Ue (fun h=>JJ hw h) (fun h=>JJ hw' h) h
theorem AP {B:Prop}{Y:Option ρ}(h:(if b=true then X else Y)=some r)(h1:X=some r->A)(h2:Y=some r->B):KN b A B:=Ue h1 h2 h
theorem goC {X:(ASt->Prop)->Prop}{K:ASt->Prop}(h:X K):CutP np X K:=.go h
theorem AG {X:(ASt->Prop)->Prop}{K:ASt->Prop}{m:(τ->Option ρ)->Option ρ}{k:τ->Option ρ}(h:AB m k=some r)(St:τ->ASt)
  (h1 :∀k':τ->Option ρ,m k'=some r->X (fun t=>∃s,Weak np t s/\∃v,k' v=some r/\s=St v)) (h2 :∀v,k v=some r->K (St v)):CutP np X K:=ZK St h1 h2 h
variable {C:AV->List OB->Prop} {M:AV->List OB->Option (List Nat)->Prop} {M2:AV->List OB->Prop} {c:α->AV} {o:α->List OB}
theorem AD (h:Option.bind F k=some r)(j :∀v,F=some v->C (c v) (o v))(n :∀v,k v=some r->M (c v) (o v) (some [])) :∃res objs b,C res objs/\M res objs b:=by
 obtain⟨v,g,h⟩:=AW h
 exact⟨_,_,_,j v g,n v h⟩
theorem JE (l:List Nat)(h:Option.bind F k=some r)(j :∀v,F=some v->C (c v) (o v))(n :∀v,k v=some r->M (c v) (o v) (some l)) :∃res objs b,C res objs/\M res objs b:=by
 obtain⟨v,g,h⟩:=AW h
 exact⟨_,_,_,j v g,n v h⟩
theorem Ry (h:Option.bind F k=some r)(j :∀v,F=some v->C (c v) (o v))(n :∀v,k v=some r->M (c v) (o v) none) :∃res objs b,C res objs/\M res objs b:=by
 obtain⟨v,g,h⟩:=AW h
 exact⟨_,_,_,j v g,n v h⟩
theorem Ah {L:Nat}{N:Prop}(h:Option.bind F k=some r)(j :∀v,F=some v->C (c v) (o v))(e :∀v,(o v).length=L)(n :∀v,k v=some r->M2 (c v) (o v)) :∃res objs,C res objs/\(objs.length=L\/N)/\M2 res objs:=by
 obtain⟨v,g,h⟩:=AW h
 exact⟨_,_,j v g,.inl (e v),n v h⟩
variable {l m:List α} {f:α->D} {by' sz:Nat} {i i':Int} {kl:List α->Option ρ} {ML:List D->Prop} {MD:D->Prop}
theorem apO (h:Option.bind (apnd by' l m) kl=some r)(e:A)(n :∀v,kl v=some r->ML (v.map f)):A/\(((l.map f).length+(m.map f).length)*by'<=2^47/\(l.map f).length+(m.map f).length<=2^47)/\∃zs,l.map f++m.map f=zs/\ML zs:=by
 obtain⟨v,g,h⟩:=AW h
 exact⟨e,Ym g,_,cB g,n v h⟩
theorem apN {N:Prop}(h:Option.bind (apnd by' [] m) kl=some r)(n :∀v,kl v=some r->N):((m.map f).length*by'<=2^47/\(m.map f).length<=2^47)/\N:=by
 obtain⟨v,g,h⟩:=AW h
 exact⟨aV g,n v h⟩
theorem Cd (h:Option.bind (geti l i) k=some r)(e :∀v,(f v).cells.length=sz)(n :∀v,k v=some r->MD (f v)):(0<=i/\i<((l.map f).length:Int))/\∃x,(l.map f).getD i.toNat default=x/\x.cells.length=sz/\MD x:=by
 obtain⟨v,g,h⟩:=AW h
 exact⟨Ed g,_,EZ g,e v,n v h⟩
theorem ce (h:Option.bind (part l i i') kl=some r)(n :∀v,kl v=some r->ML (v.map f)):(0<=i/\i<=i'/\i'<=((l.map f).length:Int))/\∃ys,((l.map f).drop i.toNat).take (i'.toNat-i.toNat)=ys/\ML ys:=by
 obtain⟨v,g,h⟩:=AW h
 exact⟨Ws g,_,Un g,n v h⟩
theorem cz (h:Option.bind (part l i l.length) kl=some r)(n :∀v,kl v=some r->ML (v.map f)) :
  (0<=i/\i<=((l.map f).length:Int)/\((l.map f).length:Int)<=((l.map f).length:Int))/\∃ys,((l.map f).drop i.toNat).take (((l.map f).length:Int).toNat-i.toNat)=ys/\ML ys:=by
 obtain⟨v,g,h⟩:=AW h
 exact⟨Xg g,_,UQ g,n v h⟩
end
theorem HK {a b:Nat}(h:a=b:=by first | rfl | exact X10 _ | (simp only[X10];done)|(simp only[X10];omega)|(simp only[X10,X21];omega)|(simp only[cpy,X10,X21,X11,X18,X17,X20];omega)):a=b:=h
theorem fin {A:Prop}{ρ:Type}{a r:ρ}(h:some a=some r)(k:some a=some r->A:=by intro h;cases h;exact⟨rfl,rfl⟩):A:=k h
end Go.AX
end
section
namespace Go.AX
open Go
end Go.AX
end
section
namespace Go.AX.Q24
open Go Go.AX Go.Proofs
def ti3:TI:=⟨.int .i64,1,8,[.val (.int .i64 0)]⟩
def ti4:TI:=⟨.bool,1,1,[.val (.bool false)]⟩
def ti5:TI:=⟨.int .u8,1,1,[.val (.int .u8 0)]⟩
def ti9:TI:=⟨.str,1,16,[.val (.string ByteArray.empty)]⟩
def en:TI:=⟨.slice 3,1,24,[.nil 1]⟩
def fE:TI:=⟨.ptr,1,8,[.val (.pointer none)]⟩
def fP:TI:=⟨.slice 43,1,24,[.nil 4]⟩
def ey:TI:=⟨.slice 71,1,24,[.nil 2]⟩
def fG:TI:=⟨.slice 84,1,24,[.nil 3]⟩
def eT:TI:=⟨.slice 57,1,24,[.nil 6]⟩
def eY:TI:=⟨.struct [(0,1,27),(1,1,28)],2,48,[.nil 3,.nil 6]⟩
def eL:TI:=⟨.struct [(0,1,27),(1,1,28)],2,48,[.nil 3,.nil 6]⟩
def eM:TI:=⟨.struct [(0,1,3),(1,1,25),(2,1,3),(3,1,3),(4,1,3),(5,1,3),(6,1,3),(7,1,3),(8,1,25),(9,1,26),(10,1,22),(11,1,3),(12,2,30),(14,1,28)],15,232,[.val (.int .i64 0),.nil 4,.val (.int .i64 0),.val (.int .i64 0),.val (.int .i64 0),.val (.int .i64 0),.val (.int .i64 0),.val (.int .i64 0),.nil 4,.nil 2,.nil 1,.val (.int .i64 0),.nil 3,.nil 6,.nil 6]⟩
def fW:TI:=⟨.struct [(0,1,3),(1,1,25),(2,1,3),(3,1,3),(4,1,3),(5,1,3),(6,1,3),(7,1,3),(8,1,25),(9,1,26),(10,1,22),(11,1,3),(12,2,30),(14,1,28)],15,232,[.val (.int .i64 0),.nil 4,.val (.int .i64 0),.val (.int .i64 0),.val (.int .i64 0),.val (.int .i64 0),.val (.int .i64 0),.val (.int .i64 0),.nil 4,.nil 2,.nil 1,.val (.int .i64 0),.nil 3,.nil 6,.nil 6]⟩
def ez:TI:=⟨.slice 41,1,24,[.nil 3]⟩
def ej:TI:=⟨.struct [(0,1,3),(1,1,9),(2,1,3),(3,1,3),(4,1,34)],5,64,[.val (.int .i64 0),.val (.string ByteArray.empty),.val (.int .i64 0),.val (.int .i64 0),.nil 3]⟩
def eW:TI:=⟨.struct [(0,1,3),(1,1,9),(2,1,3),(3,1,3),(4,1,34)],5,64,[.val (.int .i64 0),.val (.string ByteArray.empty),.val (.int .i64 0),.val (.int .i64 0),.nil 3]⟩
def fV:TI:=⟨.int .u64,1,8,[.val (.int .u64 0)]⟩
def fb:TI:=⟨.struct [(0,1,4),(1,1,39),(2,1,39)],3,24,[.val (.bool false),.val (.int .u64 0),.val (.int .u64 0)]⟩
def eZ:TI:=⟨.struct [(0,1,4),(1,1,39),(2,1,39)],3,24,[.val (.bool false),.val (.int .u64 0),.val (.int .u64 0)]⟩
def fY:TI:=⟨.struct [(0,3,41),(3,1,3)],4,32,[.val (.bool false),.val (.int .u64 0),.val (.int .u64 0),.val (.int .i64 0)]⟩
def eQ:TI:=⟨.struct [(0,3,41),(3,1,3)],4,32,[.val (.bool false),.val (.int .u64 0),.val (.int .u64 0),.val (.int .i64 0)]⟩
def fU:TI:=⟨.slice 89,1,24,[.nil 2]⟩
def fN:TI:=⟨.slice 94,1,24,[.nil 2]⟩
def fR:TI:=⟨.slice 154,1,24,[.nil 3]⟩
def ef:TI:=⟨.slice 99,1,24,[.nil 3]⟩
def fO:TI:=⟨.struct [(0,1,3),(1,1,44),(2,3,41),(5,1,3),(6,1,3),(7,1,3),(8,1,45),(9,1,46),(10,1,47)],11,152,[.val (.int .i64 0),.nil 2,.val (.bool false),.val (.int .u64 0),.val (.int .u64 0),.val (.int .i64 0),.val (.int .i64 0),.val (.int .i64 0),.nil 2,.nil 3,.nil 3]⟩
def eU:TI:=⟨.struct [(0,1,3),(1,1,44),(2,3,41),(5,1,3),(6,1,3),(7,1,3),(8,1,45),(9,1,46),(10,1,47)],11,152,[.val (.int .i64 0),.nil 2,.val (.bool false),.val (.int .u64 0),.val (.int .u64 0),.val (.int .i64 0),.val (.int .i64 0),.val (.int .i64 0),.nil 2,.nil 3,.nil 3]⟩
def eV:TI:=⟨.struct [(0,4,43),(4,1,3),(5,11,49)],16,192,[.val (.bool false),.val (.int .u64 0),.val (.int .u64 0),.val (.int .i64 0),.val (.int .i64 0),.val (.int .i64 0),.nil 2,.val (.bool false),.val (.int .u64 0),.val (.int .u64 0),.val (.int .i64 0),.val (.int .i64 0),.val (.int .i64 0),.nil 2,.nil 3,.nil 3]⟩
def fC:TI:=⟨.struct [(0,4,43),(4,1,3),(5,11,49)],16,192,[.val (.bool false),.val (.int .u64 0),.val (.int .u64 0),.val (.int .i64 0),.val (.int .i64 0),.val (.int .i64 0),.nil 2,.val (.bool false),.val (.int .u64 0),.val (.int .u64 0),.val (.int .i64 0),.val (.int .i64 0),.val (.int .i64 0),.nil 2,.nil 3,.nil 3]⟩
def ep:TI:=⟨.struct [(0,4,43),(4,1,3),(5,1,3)],6,48,[.val (.bool false),.val (.int .u64 0),.val (.int .u64 0),.val (.int .i64 0),.val (.int .i64 0),.val (.int .i64 0)]⟩
def eR:TI:=⟨.struct [(0,4,43),(4,1,3),(5,1,3)],6,48,[.val (.bool false),.val (.int .u64 0),.val (.int .u64 0),.val (.int .i64 0),.val (.int .i64 0),.val (.int .i64 0)]⟩
def fS:TI:=⟨.slice 51,1,24,[.nil 16]⟩
def fM:TI:=⟨.struct [(0,1,3),(1,1,3)],2,16,[.val (.int .i64 0),.val (.int .i64 0)]⟩
def eN:TI:=⟨.struct [(0,1,3),(1,1,3)],2,16,[.val (.int .i64 0),.val (.int .i64 0)]⟩
def fA:TI:=⟨.slice 32,1,24,[.nil 15]⟩
def fB:TI:=⟨.slice 36,1,24,[.nil 5]⟩
def fH:TI:=⟨.struct [(0,1,22),(1,1,3)],2,32,[.nil 1,.val (.int .i64 0)]⟩
def fJ:TI:=⟨.struct [(0,1,22),(1,1,3)],2,32,[.nil 1,.val (.int .i64 0)]⟩
def fa:TI:=⟨.slice 9,1,24,[.nil 1]⟩
def ew:TI:=⟨.struct [(0,1,9),(1,1,22),(2,1,82)],3,64,[.val (.string ByteArray.empty),.nil 1,.nil 1]⟩
def er:TI:=⟨.struct [(0,1,9),(1,1,22),(2,1,82)],3,64,[.val (.string ByteArray.empty),.nil 1,.nil 1]⟩
def fD:TI:=⟨.struct [(0,1,4),(1,1,22)],2,32,[.val (.bool false),.nil 1]⟩
def eX:TI:=⟨.struct [(0,1,4),(1,1,22)],2,32,[.val (.bool false),.nil 1]⟩
def fF:TI:=⟨.struct [(0,1,3),(1,1,3)],2,16,[.val (.int .i64 0),.val (.int .i64 0)]⟩
def fX:TI:=⟨.struct [(0,1,3),(1,1,3)],2,16,[.val (.int .i64 0),.val (.int .i64 0)]⟩
def eh:TI:=⟨.slice 5,1,24,[.nil 1]⟩
def eu:TI:=⟨.struct [(0,1,3),(1,1,3),(2,1,97)],3,40,[.val (.int .i64 0),.val (.int .i64 0),.nil 1]⟩
def eo:TI:=⟨.struct [(0,1,3),(1,1,3),(2,1,97)],3,40,[.val (.int .i64 0),.val (.int .i64 0),.nil 1]⟩
def dD:TI:=⟨.int .i64,1,8,[.val (.int .i64 0)]⟩
def dz:TI:=⟨.fn,1,8,[.val .nilFunc]⟩
def eE:TI:=⟨.fn,1,8,[.val .nilFunc]⟩
def cj:TI:=⟨.fn,1,8,[.val .nilFunc]⟩
def eI:TI:=⟨.fn,1,8,[.val .nilFunc]⟩
def dZ:TI:=⟨.fn,1,8,[.val .nilFunc]⟩
def de:TI:=⟨.int .u64,1,8,[.val (.int .u64 0)]⟩
def dS:TI:=⟨.ptr,1,8,[.val (.pointer none)]⟩
def dF:TI:=⟨.struct [(0,15,32),(15,5,36),(20,16,51),(36,1,22),(37,1,3),(38,1,4)],39,528,[.val (.int .i64 0),.nil 4,.val (.int .i64 0),.val (.int .i64 0),.val (.int .i64 0),.val (.int .i64 0),.val (.int .i64 0),.val (.int .i64 0),.nil 4,.nil 2,.nil 1,.val (.int .i64 0),.nil 3,.nil 6,.nil 6,.val (.int .i64 0),.val (.string ByteArray.empty),.val (.int .i64 0),.val (.int .i64 0),.nil 3,.val (.bool false),.val (.int .u64 0),.val (.int .u64 0),.val (.int .i64 0),.val (.int .i64 0),.val (.int .i64 0),.nil 2,.val (.bool false),.val (.int .u64 0),.val (.int .u64 0),.val (.int .i64 0),.val (.int .i64 0),.val (.int .i64 0),.nil 2,.nil 3,.nil 3,.nil 1,.val (.int .i64 0),.val (.bool false)]⟩
def dG:TI:=⟨.struct [(0,15,32),(15,5,36),(20,16,51),(36,1,22),(37,1,3),(38,1,4)],39,528,[.val (.int .i64 0),.nil 4,.val (.int .i64 0),.val (.int .i64 0),.val (.int .i64 0),.val (.int .i64 0),.val (.int .i64 0),.val (.int .i64 0),.nil 4,.nil 2,.nil 1,.val (.int .i64 0),.nil 3,.nil 6,.nil 6,.val (.int .i64 0),.val (.string ByteArray.empty),.val (.int .i64 0),.val (.int .i64 0),.nil 3,.val (.bool false),.val (.int .u64 0),.val (.int .u64 0),.val (.int .i64 0),.val (.int .i64 0),.val (.int .i64 0),.nil 2,.val (.bool false),.val (.int .u64 0),.val (.int .u64 0),.val (.int .i64 0),.val (.int .i64 0),.val (.int .i64 0),.nil 2,.nil 3,.nil 3,.nil 1,.val (.int .i64 0),.val (.bool false)]⟩
def dC:TI:=⟨.slice 133,1,24,[.nil 2]⟩
def db:TI:=⟨.fn,1,8,[.val .nilFunc]⟩
def cn:TI:=⟨.struct [(0,1,3),(1,1,131)],2,16,[.val (.int .i64 0),.val .nilFunc]⟩
def dV:TI:=⟨.struct [(0,1,3),(1,1,131)],2,16,[.val (.int .i64 0),.val .nilFunc]⟩
def dT:TI:=⟨.map 9 4,1,8,[.val (.map none)]⟩
def eC:TI:=⟨.fn,1,8,[.val .nilFunc]⟩
def dN:TI:=⟨.struct [(0,1,3),(1,1,3),(2,1,3)],3,24,[.val (.int .i64 0),.val (.int .i64 0),.val (.int .i64 0)]⟩
def cy:TI:=⟨.struct [(0,1,3),(1,1,3),(2,1,3)],3,24,[.val (.int .i64 0),.val (.int .i64 0),.val (.int .i64 0)]⟩
def dt:TI:=⟨.fn,1,8,[.val .nilFunc]⟩
def dE:TI:=⟨.fn,1,8,[.val .nilFunc]⟩
def dy:TI:=⟨.fn,1,8,[.val .nilFunc]⟩
def da:TI:=⟨.fn,1,8,[.val .nilFunc]⟩
def dX:TI:=⟨.fn,1,8,[.val .nilFunc]⟩
def dB:TI:=⟨.fn,1,8,[.val .nilFunc]⟩
def dx:TI:=⟨.arr 5 3,5,40,[.val (.int .i64 0),.val (.int .i64 0),.val (.int .i64 0),.val (.int .i64 0),.val (.int .i64 0)]⟩
def dJ:TI:=⟨.map 9 84,1,8,[.val (.map none)]⟩
def dn:TI:=⟨.map 3 4,1,8,[.val (.map none)]⟩
def ch:TI:=⟨.fn,1,8,[.val .nilFunc]⟩
def eF:TI:=⟨.fn,1,8,[.val .nilFunc]⟩
def cq:TI:=⟨.fn,1,8,[.val .nilFunc]⟩
def dW:TI:=⟨.fn,1,8,[.val .nilFunc]⟩
def cm:TI:=⟨.map 3 3,1,8,[.val (.map none)]⟩
def tt:TT:=(.node 83 ew (.node 42 fY (.node 29 eY (.node 23 fE (.node 5 ti5 (.node 4 ti4 (.node 3 ti3 .tip .tip) .tip) (.node 22 en (.node 9 ti9 .tip .tip) .tip)) (.node 27 fG (.node 26 ey (.node 25 fP .tip .tip) .tip) (.node 28 eT .tip .tip))) (.node 35 ej (.node 32 fW (.node 31 eM (.node 30 eL .tip .tip) .tip) (.node 34 ez .tip .tip)) (.node 40 fb (.node 39 fV (.node 36 eW .tip .tip) .tip) (.node 41 eZ .tip .tip)))) (.node 56 ep (.node 47 ef (.node 45 fN (.node 44 fU (.node 43 eQ .tip .tip) .tip) (.node 46 fR .tip .tip)) (.node 50 eV (.node 49 eU (.node 48 fO .tip .tip) .tip) (.node 51 fC .tip .tip))) (.node 72 fA (.node 70 fM (.node 66 fS (.node 57 eR .tip .tip) .tip) (.node 71 eN .tip .tip)) (.node 80 fJ (.node 79 fH (.node 74 fB .tip .tip) .tip) (.node 82 fa .tip .tip))))) (.node 132 cn (.node 111 eE (.node 97 eh (.node 89 eX (.node 88 fD (.node 84 er .tip .tip) .tip) (.node 94 fX (.node 93 fF .tip .tip) .tip)) (.node 103 dD (.node 99 eo (.node 98 eu .tip .tip) .tip) (.node 108 dz .tip .tip))) (.node 126 dS (.node 121 dZ (.node 115 eI (.node 113 cj .tip .tip) .tip) (.node 125 de .tip .tip)) (.node 129 dC (.node 128 dG (.node 127 dF .tip .tip) .tip) (.node 131 db .tip .tip)))) (.node 185 dX (.node 154 cy (.node 151 eC (.node 148 dT (.node 133 dV .tip .tip) .tip) (.node 153 dN .tip .tip)) (.node 179 dy (.node 177 dE (.node 157 dt .tip .tip) .tip) (.node 181 da .tip .tip))) (.node 197 ch (.node 194 dJ (.node 188 dx (.node 187 dB .tip .tip) .tip) (.node 195 dn .tip .tip)) (.node 202 dW (.node 201 cq (.node 198 eF .tip .tip) .tip) (.node 215 cm .tip .tip))))))
theorem Vf:TabOk Tryz.prog tt:=UH (by kernel_rfl)
end Go.AX.Q24
end
section
namespace Go.AX
section
variable {P:Program} {E:Env} {w w':World} {S:Sc} {φ:Nat->Option (Nat×Rp)} {ob:Nat->Option OB}
structure Grown (wl:Prop)(w w':World):Prop where
 hp :∀b,b<w.heap.size->w'.heap[b]?=w.heap[b]?
 sz:w.heap.size<=w'.heap.size
 os:w'.os=w.os
 out:w'.output=w.output
 tape:w'.tape=w.tape
 dr:wl\/w.drawn<=w'.drawn
theorem Grown.refl (wl:Prop)(w:World):Grown wl w w:=⟨fun _ _=>rfl,Nat.le_refl _,rfl,rfl,rfl,.inr (Nat.le_refl _)⟩
theorem Grown.trans {wl:Prop}{a b c:World}(h:Grown wl a b)(k:Grown wl b c):Grown wl a c:=
 ⟨fun n hn=>(k.hp n (Nat.lt_of_lt_of_le hn h.sz)).trans (h.hp n hn),Nat.le_trans h.sz k.sz,k.os.trans h.os,k.out.trans h.out,k.tape.trans h.tape,h.dr.elim .inl fun x=>k.dr.imp_right fun y=>Nat.le_trans x y⟩
theorem Grown.alloc {wl:Prop}(w:World)(o:Obj):Grown wl w (w.alloc o):=⟨fun b hb=>G4 w o hb,by simp,rfl,rfl,rfl,.inr (Nat.le_refl _)⟩
theorem Grown.drewN {wl:Prop}(w:World)(n:Nat):Grown wl w (w.drewN n):=⟨fun _ _=>rfl,Nat.le_refl _,rfl,rfl,rfl,.inr (Nat.le_add_right _ _)⟩
theorem Grown.below {w w':World}(h:Go.RowKit.Below w.heap.size w w'):Grown True w w':=⟨h.block,h.size,h.os,h.output,h.tape,.inl trivial⟩
theorem Mem.grow (m:Mem E w S φ ob)(h:Grown E.wl.wl w w'):Mem E w' S φ ob/\Kept w S φ ob w' S φ ob:=
 m.grown h.hp h.sz ⟨h.os,h.out,h.tape,h.dr⟩
theorem Mem.addS (m:Mem E w S φ ob)(b o:Nat)(hb:b<w.heap.size)(hb0:E.w0.heap.size<=b)(hfree :∀r c,ob r≠none->φ r≠some (b,c)) :
  Mem E w (fun x y=>S x y\/(x=b/\y=o)) φ ob/\Kept w S φ ob w (fun x y=>S x y\/(x=b/\y=o)) φ ob:=by
 have hk:Kept w S φ ob w (fun x y=>S x y\/(x=b/\y=o)) φ ob:=⟨fun _ _ h=>⟨.inl h,rfl⟩,fun r _=>.refl φ ob r,fun _ h=>h⟩
 refine⟨⟨fun r x hx=>(m.obj r x hx).keep hk rfl (fun b' c hb'=>⟨rfl,fun y hy=>?_⟩) (m.men r x hx),m.inj,m.men,fun b o h=>.inl (m.sS b o h),m.kS,?_,?_,m.fr,m.sz,m.ow,m.os⟩,hk⟩
 ·rcases hy with hy | ⟨e,_⟩
  ·exact hy
  subst e
  exact absurd hb' (hfree r c (by rw[hx];simp))
 ·rintro x y (h | ⟨rfl,rfl⟩)
  ·exact m.bS x y h
  exact hb
 rintro x y (h | ⟨rfl,rfl⟩) h1 h2
 ·exact m.nS x y h h1 h2
 omega
theorem Mem.attach (m:Mem E w S φ ob)(r b:Nat)(c:Rp)(x:OB)(hr:ob r=none)(hb:b<w.heap.size)(hb0:E.w0.heap.size<=b)(hfree :∀r' c',ob r'≠none->φ r'≠some (b,c'))(hx:x.refs=[])
  (hok:Kept w S φ ob w S (upd φ r (some (b,c))) (upd ob r (some x))->ObjOK S w (upd φ r (some (b,c))) (upd ob r (some x)) r x) :
  Mem E w S (upd φ r (some (b,c))) (upd ob r (some x))/\Kept w S φ ob w S (upd φ r (some (b,c))) (upd ob r (some x)):=by
 have hne :∀r',ob r'≠none->r'≠r:=fun r' h e=>h (e ▸ hr)
 have hk:Kept w S φ ob w S (upd φ r (some (b,c))) (upd ob r (some x)):=by
  refine⟨fun b o h=>⟨h,rfl⟩,fun r' h=>.inl ?_,fun r' h=>?_⟩
  ·rw[AK _ _ _ _ (hne r' h),AK _ _ _ _ (hne r' h)]
   exact⟨rfl,rfl,id⟩
  rw[AK _ _ _ _ (hne r' h)]
  exact h
 refine⟨⟨?_,?_,?_,m.sS,m.kS,m.bS,m.nS,m.fr,m.sz,?_,m.os⟩,hk⟩
 ·intro r' o h
  by_cases hh:r'=r
  ·subst hh
   simp only[upd_same,X24] at h
   subst h
   exact hok hk
  rw[AK _ _ _ _ hh] at h
  exact (m.obj r' o h).keep hk (AK _ _ _ _ hh) (fun b c hb=>⟨rfl,fun _ h=>h⟩) (m.men r' o h)
 ·intro r1 r2 b' c1 c2 h1 h2 g1 g2
  by_cases e1:r1=r
  ·by_cases e2:r2=r
   ·rw[e1,e2]
   subst e1
   rw[upd_same] at g1
   rw[AK _ _ _ _ e2] at g2 h2
   simp only[X24,X26] at g1
   rw[<- g1.1] at g2
   exact absurd g2 (hfree r2 c2 h2)
  by_cases e2:r2=r
  ·subst e2
   rw[upd_same] at g2
   rw[AK _ _ _ _ e1] at g1 h1
   simp only[X24,X26] at g2
   rw[<- g2.1] at g1
   exact absurd g1 (hfree r1 c1 h1)
  rw[AK _ _ _ _ e1] at g1 h1
  rw[AK _ _ _ _ e2] at g2 h2
  exact m.inj r1 r2 b' c1 c2 h1 h2 g1 g2
 ·intro r' o h r'' hm
  by_cases hh:r'=r
  ·subst hh
   simp only[upd_same,X24] at h
   subst h
   rw[hx] at hm
   simp at hm
  rw[AK _ _ _ _ hh] at h
  exact hk.c _ (m.men r' o h r'' hm)
 intro r' b' c' h g
 by_cases hh:r'=r
 ·subst hh
  simp only[upd_same,X24,X26] at g
  rw[<- g.1]
  exact⟨hb,.inl hb0⟩
 rw[AK _ _ _ _ hh] at g h
 exact m.ow r' b' c' h g
theorem Mem.ownsRow1 (m:Mem E w S φ ob)(r:Nat)(hr:ob r=none){base e:Nat}{v:Value}{xs:List Value}(h1 :∀x∈xs,x.oneCell'=true)(hown:w.ownsRow base e 1 v xs.length xs)(hb0:E.w0.heap.size<=base)
  (hfree :∀r' b c,ob r'≠none->φ r'=some (b,c)->b<base) (hS :∀b o,S b o->b<base) :
  ∃φ',Mem E w S φ' (upd ob r (some (.row e 1 (xs.map .val) .no)))/\Kept w S φ ob w S φ' (upd ob r (some (.row e 1 (xs.map .val) .no)))/\RepA S w φ' (upd ob r (some (.row e 1 (xs.map .val) .no))) (.own r xs.length) v:=by
 rcases hown.2 with ⟨hv,hz⟩|⟨g,cap,cur,hv,hg,hgb,c1,c2,c3,c4⟩
 ·obtain rfl:xs=[]:=List.eq_nil_of_length_eq_zero hz
  obtain⟨m1,k1⟩:=m.empty r e 1 hr (by omega)
  refine⟨_,m1,k1,?_⟩
  rw[hv]
  refine .own r 0 _ 0 0 none rfl rfl (fun e' sz' es' f' hx=>?_) fun cs hx=>by simp at hx
  simp only[upd_same,X24,OB.row.injEq] at hx
  obtain⟨rfl,rfl,rfl,rfl⟩:=hx
  exact⟨Nat.le_refl _,fun _=>.inl ⟨upd_same _ _ _,rfl,_,rfl⟩⟩
 have hlt:=lt_of_heap hgb
 obtain⟨m1,k1⟩:=m.attach r g (cap,0) (.row e 1 (xs.map .val) .no) hr hlt (by omega) (fun r' c' h1 h2=>by have:=hfree r' g c' h1 h2;omega) rfl (fun hk=>by
  refine⟨by omega,fun i hi=>by simp[D.cells],fun i hi j hj=>?_,.inr ⟨g,(cap,0),cur,fun i _=>xs.getD i undef,upd_same _ _ _,hgb,by simpa using c1,c2,by simp;omega,fun i j hi hj=>?_,fun i hi j hj=>?_,fun o _ hSo=>by have:=hS g o hSo;omega,fun _ _ _ _ h=>nomatch h⟩⟩
  ·have h0:j=0:=by simp[D.cells] at hj;exact hj
   subst h0
   simp[D.cells,D.isAgg]
  ·have hi':i<xs.length:=by simpa using hi
   have h0:j=0:=by omega
   subst h0
   have hl:i<(cur.toList.take (xs.length*1)).length:=by rw[c4];exact hi'
   have e1:cur.toList[i]?=some xs[i]:=by
    have:(cur.toList.take (xs.length*1))[i]?=some xs[i]:=by rw[c4];exact X15 hi'
    rwa [List.getElem?_take_of_lt (by omega)] at this
   simp[hi'] at e1 ⊢
   exact e1
  have h0:j=0:=by simp[D.cells] at hj;exact hj
  subst h0
  have hi':i<xs.length:=by simpa using hi
  simp only[List.getElem_map,D.cells,List.getElem_cons_zero,List.getD_eq_getElem?_getD,X15 hi',Option.getD_some]
  exact .val _ (h1 _ (List.getElem_mem hi')))
 refine⟨_,m1,k1,?_⟩
 rw[hv]
 refine .own r xs.length _ xs.length cap _ rfl rfl (fun e' sz' es' f' hx=>?_) fun cs hx=>by simp at hx
 simp only[upd_same,X24,OB.row.injEq] at hx
 obtain⟨rfl,rfl,rfl,rfl⟩:=hx
 exact⟨by simp,fun _=>.inr ⟨g,(cap,0),upd_same _ _ _,rfl⟩⟩
end
def WE (P : Program)(f : FuncId) : Prop := ∃ fn, P.funcs[f]? = some fn ∧ fn.name ≠ "runtime.NumGoroutine" ∧ fn.body.isSome = true
theorem YF {P : Program}{f : FuncId}{fn : Func}(h : P.funcs[f]? = some fn)(hn : (fn.name == "runtime.NumGoroutine") = false)(hb : fn.body.isSome = true) : WE P f := ⟨fn, h, by simpa using hn, hb⟩
theorem Yz {wl:WL}{P:Program}{f:FuncId}{args:List AV}{objs:List OB}{res:AV}(hf:WE P f)(hcl:Closed (ofL objs) res)
  (h :∀(w:World) (S:Sc) (φ:Nat->Option (Nat×Rp)) (gb:Nat->Prop) (hg:GlobOK wl gb (Iz φ objs.length) S w) (vals:Array Value),vals.size=args.length->(∀i (hi:i<args.length),RepA S w φ (ofL objs) args[i] (vals.getD i undef))->
   Mem ⟨w,S,Iz φ objs.length,wl,gb,hg⟩ w S φ (ofL objs)->Calls P f vals w fun e w'=>∃v,e=.returned v/\Grown wl.wl w w'/\RepA S w' φ (ofL objs) res v):A4 wl P f args objs res objs:=by
 refine⟨hf,fun w S φ gb hg vals hs hr hn m=>(h w S φ gb hg vals hs (fun i hi=>(hr i hi).1) m).mono fun e w' he=>?_⟩
 obtain⟨v,rfl,hg,hv⟩:=he
 obtain⟨m',k'⟩:=m.grow hg
 exact⟨v,rfl,S,φ,m',k',hv,hcl⟩
end Go.AX
end
section
namespace Go.AX
open Go.Proofs
def Sz (s cut:ByteArray):Option ByteArray:=
 if s.size<=9223372036854775807/\2<=cut.size/\cut.size<4294967281/\cut.data.toList.all (fun b=>decide (b.toNat<128))=true then some ⟨(Lib.trimS s.data.toList cut.data.toList).toArray⟩ else none
theorem Z6 {wl:WL}{P:Program}{ρ:Go.Shelf.Ren}(L:Lays.n160 P ρ)(hf:WE P (ρ.f 160))(h116:(P.info? (ρ.t 116)).map (fun i=>(i.zero,i.size))=some (some (.agg (Array.replicate 256 (.bool false))),256))
  {s cut r:ByteArray} (h:Sz s cut=some r):A4 wl P (ρ.f 160) [.d (D.s s),.d (D.s cut)] [] (.d (D.s r)) []:=by
 unfold Sz at h
 split at h
 ·rename_i hc
  obtain⟨h1,h2,h3,h4⟩:=hc
  obtain rfl:=X25 h
  refine Yz hf (BJ _ _) fun w S φ gb hg vals hs hr m=>?_
  have r0:=(hr 0 (by simp)).str
  have r1:=(hr 1 (by simp)).str
  have hv:vals=#[.string s,.string cut]:=by
   match vals,hs with
   | ⟨[a,b]⟩,_=>
    simp at r0 r1
    rw[r0,r1]
  rw[hv]
  by_cases h0:s.size=0
  ·refine (Any.strings_Trim_empty L s cut w (.inl h0)).mono fun e w' ⟨he,hw⟩=>⟨_,he,hw ▸ .refl wl.wl w,?_⟩
   have hl:s.data.toList=[]:=List.eq_nil_of_length_eq_zero (by rw[<- Lib.size_eq];exact h0)
   have:(⟨(Lib.trimS s.data.toList cut.data.toList).toArray⟩:ByteArray)=s:=by
    rw[hl]
    conv=>rhs;rw[<- Lib.mk_data s,hl]
    rfl
   rw[this]
   exact .d _ _ (.val _ rfl)
  refine (Any.strings_Trim_set L (zero_of_info h116).1 (zero_of_info h116).2 s cut w h2 (by omega) h1 h3 (ascii_of_all h4)).mono fun e w' ⟨he,q,hw⟩=>⟨_,he,?_,.d _ _ (.val _ rfl)⟩
  rw[hw]
  exact ((Grown.alloc w _).trans (.alloc _ _)).trans (.drewN _ q)
 simp at h
end Go.AX
end
section
namespace Go.AX
open Go.Proofs Go.Maps Go.Sort Go.Shelf Go.RowKit
theorem Us {vals:Array Value}{v:Value}(hs:vals.size=1)(h:vals.getD 0 undef=v):vals=#[v]:=by
 match vals,hs with
 | ⟨[a]⟩,_=>
  simp at h
  rw[h]
theorem TA {wl:WL}{P:Program}{f g:FuncId}{t:Nat}(hf:WE P f)(hc :∀(b:Nat) (w:World),Calls P f #[.map (some b)] w fun e w'=>e=.returned (.func (.func g) #[] #[.pointer (some ⟨w.heap.size,0,none⟩)])/\w'=w.alloc (.cells #[.map (some b)] t))
  {k e:Nat} {es:List (D×D)}:A4 wl P f [.mp 0] [.map k e es] (.it g 0) [.map k e es]:=by
 refine⟨hf,fun w S φ gb hg vals hs hr hn m=>?_⟩
 have r0:=(hr 0 (by simp)).1
 simp only[List.getElem_cons_zero] at r0
 generalize hv:vals.getD 0 undef=v at r0
 have hv:=Us hs hv
 cases r0 with | mp _ b c hφ hb hcc=>
 rw[hv]
 refine (hc b w).mono fun e' w' ⟨he,hw⟩=>?_
 have hob:ofL [OB.map k e es] 0≠none:=by simp[ofL]
 obtain⟨m1,k1⟩:=m.grow (w':=w') (by rw[hw];exact .alloc w _)
 have hsz:w'.heap.size=w.heap.size+1:=by rw[hw];simp
 obtain⟨m2,k2⟩:=m1.addS w.heap.size 0 (by omega) (Nat.le_refl _) (fun r c' h1 h2=>by have:=(m.ow r _ _ h1 h2).1;omega)
 refine⟨_,he,_,_,m2,k1.trans k2,.it g 0 b c _ hφ hb hcc (.inr ⟨rfl,rfl⟩) ?_,fun r hr'=>?_⟩
 ·rw[hw,cellAt,World.cell?_alloc_at _ _ _ _ rfl]
  rfl
 simp only[AV.refs,X14] at hr'
 rw[hr'];exact hob
def Of {V:Type}(m:List (Int×V)):Option (List Int):=
 if (m.map (·.1)).Nodup/\(m.all fun p=>decide (-9223372036854775808<=p.1/\p.1<=9223372036854775807))=true/\m.length<=1000000000000 then some ((m.map (·.1)).mergeSort fun x y=>decide (x<=y)) else none
theorem QN {l l':List Int}(h:l.Perm l'):(l.mergeSort fun x y=>decide (x<=y))=l'.mergeSort fun x y=>decide (x<=y):=by
 have ht :∀a b c:Int,decide (a<=b)=true->decide (b<=c)=true->decide (a<=c)=true:=fun a b c h1 h2=>by simp at *;omega
 have hto :∀a b:Int,(decide (a<=b) || decide (b<=a))=true:=fun a b=>by simp;omega
 refine List.Perm.eq_of_pairwise (le:=fun x y=>decide (x<=y)=true) (fun a b _ _ h1 h2=>by simp at *;omega) (List.pairwise_mergeSort ht hto l) (List.pairwise_mergeSort ht hto l') ?_
 exact (List.mergeSort_perm l _).trans (h.trans (List.mergeSort_perm l' _).symm)
theorem Qh {wl:WL}{P:Program}{ρk ρs:Ren}(LK:SlLaysZI.n7 P ρk)(LS:SlLaysZI.n6 P ρs)(hf:WE P (ρs.f 6))(hsort :∀m,AnyZI.SortsIn P ρs Fence.wide m)
  (e9 :∀args w,(callFunc (ρs.f 9) args).run P w=.ok (.enter (ρs.f 9) args) w) (eg :∀args w,(callFunc (ρk.f 10) args).run P w=.ok (.enter (ρk.f 10) args) w)
  {V:Type} {ev:V->D} {m:List (Int×V)} {r:List Int} (h:Of m=some r) {k e:Nat} :
  A4 wl.high P (ρs.f 6) [.it (ρk.f 10) 0] [.map k e (Av D.i ev m)] (.own 1 (List.map D.i r).length) [.map k e (Av D.i ev m),.row (ρs.t 26) 1 (List.map D.i r) .no]:=by
 unfold Of at h
 split at h
 rotate_left
 ·simp at h
 rename_i hcond
 obtain⟨hnd,hrg,hlen⟩:=hcond
 obtain rfl:=X25 h
 refine⟨hf,fun w S φ gb hg vals hs hr hn mm=>?_⟩
 have r0:=(hr 0 (by simp)).1
 simp only[List.getElem_cons_zero] at r0
 generalize hv:vals.getD 0 undef=v at r0
 have hv:=Us hs hv
 cases r0 with | it _ _ b c B hφ hb hcc hS hcell=>
 rw[hv]
 obtain⟨b',c',arr,clock,q1,q2,⟨q3,q4⟩,q5,q6⟩:=mm.obj 0 _ (show ofL [OB.map k e (Av D.i ev m)] 0=some _ from rfl)
 rw[hφ] at q1
 simp only[X24,X26] at q1
 obtain⟨rfl,rfl⟩:=q1
 have hsz:arr.size=m.length:=by rw[q3];simp[Av]
 have hkey :∀i (hi:i<m.length),arr[i]?.map (·.key)=some (.int .i64 m[i].1):=by
  intro i hi
  obtain⟨x,g1,⟨u,g2,g3,_⟩,_⟩:=q6 i (by simpa[Av] using hi)
  simp only[Av,List.getElem_map] at g2
  rw[g1]
  simp only[Option.map_some,g3]
  injection g2 with g2
  rw[<- g2]
 have hkeys:arr.toList.map (·.key)=m.map fun p=>Value.int .i64 p.1:=by
  apply List.ext_getElem?
  intro i
  by_cases hi:i<m.length
  ·have:=hkey i hi
   simp only[List.getElem?_map,Array.getElem?_toList,X15 hi,Option.map_some]
   exact this
  rw[List.getElem?_eq_none (by simp;omega),List.getElem?_eq_none (by simp;omega)]
 let R:Value->Option (DataW Unit×List MemPlace):=fun _=>some (.nil,[])
 have hu:P.underlying (ρk.t 26)=some (.int .i64):=LK.t26
 have hko :∀x∈arr.toList,∃n:Int,x.key=.int .i64 n/\keyOf P (ρk.t 26) x.key=some (.int .i64 n):=by
  intro x hx
  have:x.key∈arr.toList.map (·.key):=List.mem_map.2 ⟨x,hx,rfl⟩
  rw[hkeys] at this
  obtain⟨p,hp,he⟩:=List.mem_map.1 this
  have hw:(Lit.int .i64 p.1).wf=true:=by
   have:=List.all_eq_true.1 hrg p hp
   simp only[decide_eq_true_eq] at this
   simp[Lit.wf,IntKind.min,IntKind.max,IntKind.signed,IntKind.bits]
   omega
  exact⟨p.1,he.symm,by rw[<- he];simp[keyOf,hu,mapKey,hw]⟩
 have F:WideElems.Fit P (ρk.t 26) R arr clock:=by
  refine⟨by unfold maxLen;omega,⟨q4.1,q4.2,?_⟩,fun x hx=>?_⟩
  ·rw[hkeys]
   have:(m.map fun p=>Value.int .i64 p.1)=(m.map (·.1)).map (Value.int .i64):=by simp
   rw[this]
   exact List.pairwise_map.2 (hnd.imp fun h e=>h (by injection e))
  obtain⟨n,_,h2⟩:=hko x hx
  exact⟨_,by simp[WideElems.rd,h2,R];rfl⟩
 have hD :∃D0:DataW Unit,w.ownsMap P (ρk.t 26) R b arr.size D0/\(intKeys D0).Perm (m.map (·.1))/\Maps.size D0=m.length:=by
  refine⟨_,⟨arr,clock,q2,F,Nat.le_refl _,rfl⟩,?_,?_⟩
  ·have h1:=(Go.WideShapes.sorted_perm (arr.toList.map (WideElems.rg P (ρk.t 26) R))).map fun p=>Go.intOf p.1
   refine h1.trans ?_
   have:(arr.toList.map (WideElems.rg P (ρk.t 26) R)).map (fun p=>Go.intOf p.1)=m.map (·.1):=by
    have h2:arr.toList.map (fun x=>(WideElems.rg P (ρk.t 26) R x).1)=(arr.toList.map (·.key)).map fun v=>match v with | .int _ n=>Lit.int .i64 n | _=>.bool false:=by
     rw[List.map_map]
     apply List.map_congr_left
     intro x hx
     obtain⟨n,g1,g2⟩:=hko x hx
     rw[g1] at g2
     simp[WideElems.rg,WideElems.rd,g2,R,g1]
    have h3:(arr.toList.map (WideElems.rg P (ρk.t 26) R)).map (fun p=>Go.intOf p.1)=(arr.toList.map (fun x=>(WideElems.rg P (ρk.t 26) R x).1)).map Go.intOf:=by simp
    rw[h3,h2,hkeys]
    simp[Go.intOf]
   rw[this]
  have:=(Go.WideShapes.sorted_perm (arr.toList.map (WideElems.rg P (ρk.t 26) R))).length_eq
  simp only[X10,Array.length_toList] at this
  simp only[Maps.size]
  omega
 obtain⟨D0,hown,hperm,hsize⟩:=hD
 have hbl:=(mm.ow 0 b c (by simp[ofL]) hφ).1
 have hBl:=mm.bS B 0 hS
 have hseq:SeqGives Fence.wide 2 P (ρk.f 10) #[.pointer (some ⟨B,0,none⟩)] encZ (fun ss=>ss.Perm (intKeys D0)) (Maps.size D0) w:=
  AnyZI.keys_gives (ρ:=ρk) { LK with } Fence.wide _ trivial rfl (by omega) B b arr.size D0 w hBl hcell hown
 have cS:=AnyZI.sorted_in LS Fence.wide 5 trivial trivial trivial trivial rfl (by omega) (hsort _) e9 (ρk.f 10) #[.pointer (some ⟨B,0,none⟩)] trivial eg _ _ (by unfold maxLen;omega) (by omega) w hseq
 refine (callsIn_wide.1 cS).mono fun e' w' ⟨v,ss,he,hss,hrow,hnil,hbelow⟩=>?_
 have hms:(ss.mergeSort fun x y=>decide (x<=y))=(m.map (·.1)).mergeSort fun x y=>decide (x<=y):=QN (hss.trans hperm)
 obtain⟨m1,k1⟩:=mm.grow (w':=w') (.below hbelow)
 have hlen2:((m.map (·.1)).mergeSort fun x y=>decide (x<=y)).length=ss.length:=by rw[<- hms,List.length_mergeSort]
 rw[hms] at hrow
 obtain⟨φ',m2,k2,hrep⟩:=m1.ownsRow1 1 (by simp[ofL]) (e:=ρs.t 26) (v:=v) (xs:=(((m.map (·.1)).mergeSort fun x y=>decide (x<=y)).map encZ)) (base:=w.heap.size) (fun x hx=>by
   obtain⟨n,_,rfl⟩:=List.mem_map.1 hx
   rfl) (by rw[X10,hlen2];exact hrow) (Nat.le_refl _) (fun r' b' c' h1 h2=>(mm.ow r' b' c' h1 h2).1) (fun b' o' h=>mm.bS b' o' h)
 have hob:upd (ofL [OB.map k e (Av D.i ev m)]) 1 (some (.row (ρs.t 26) 1 ((((m.map (·.1)).mergeSort fun x y=>decide (x<=y)).map encZ).map .val) .no)) =
   ofL [OB.map k e (Av D.i ev m),.row (ρs.t 26) 1 (List.map D.i ((m.map (·.1)).mergeSort fun x y=>decide (x<=y))) .no]:=by
  funext q
  match q with
  | 0=>rfl
  | 1=>simp[upd,ofL,Function.comp_def]
  | q+2=>simp[upd,ofL]
 rw[hob] at m2 k2 hrep
 refine⟨v,he,S,φ',m2,k1.trans k2,?_,fun q hq=>?_⟩
 ·simpa using hrep
 simp only[AV.refs,X14] at hq
 rw[hq]
 simp[ofL]
def O7 {V:Type}(m:List (ByteArray×V)):Option (List ByteArray):=
 if (m.map (·.1)).Nodup/\(m.all fun p=>decide (p.1.size<=maxLen))=true/\m.length<=1000000000000 then some (((m.map (·.1.data.toList)).mergeSort fun x y=>decide (x<=y)).map fun l=>⟨l.toArray⟩) else none
theorem Qr {wl:WL}{P:Program}{ρk ρs:Ren}(LK:SlLaysZ.n7 P ρk)(LS:SlLaysZ.n6 P ρs)(hf:WE P (ρs.f 6))(hsort :∀m,AnyZ.SortsIn P ρs Fence.wide m)
  (e9 :∀args w,(callFunc (ρs.f 9) args).run P w=.ok (.enter (ρs.f 9) args) w) (eg :∀args w,(callFunc (ρk.f 10) args).run P w=.ok (.enter (ρk.f 10) args) w)
  {V:Type} {ev:V->D} {m:List (ByteArray×V)} {r:List ByteArray} (h:O7 m=some r) {k e:Nat} :
  A4 wl.high P (ρs.f 6) [.it (ρk.f 10) 0] [.map k e (Av D.s ev m)] (.own 1 (List.map D.s r).length) [.map k e (Av D.s ev m),.row (ρs.t 26) 1 (List.map D.s r) .no]:=by
 unfold O7 at h
 split at h
 rotate_left
 ·simp at h
 rename_i hcond
 obtain⟨hnd,hrg,hlen⟩:=hcond
 obtain rfl:=X25 h
 refine⟨hf,fun w S φ gb hg vals hs hr hn mm=>?_⟩
 have r0:=(hr 0 (by simp)).1
 simp only[List.getElem_cons_zero] at r0
 generalize hv:vals.getD 0 undef=v at r0
 have hv:=Us hs hv
 cases r0 with | it _ _ b c B hφ hb hcc hS hcell=>
 rw[hv]
 obtain⟨b',c',arr,clock,q1,q2,⟨q3,q4⟩,q5,q6⟩:=mm.obj 0 _ (show ofL [OB.map k e (Av D.s ev m)] 0=some _ from rfl)
 rw[hφ] at q1
 simp only[X24,X26] at q1
 obtain⟨rfl,rfl⟩:=q1
 have hsz:arr.size=m.length:=by rw[q3];simp[Av]
 have hkey :∀i (hi:i<m.length),arr[i]?.map (·.key)=some (.string m[i].1):=by
  intro i hi
  obtain⟨x,g1,⟨u,g2,g3,_⟩,_⟩:=q6 i (by simpa[Av] using hi)
  simp only[Av,List.getElem_map] at g2
  rw[g1]
  simp only[Option.map_some,g3]
  injection g2 with g2
  rw[<- g2]
 have hkeys:arr.toList.map (·.key)=m.map fun p=>Value.string p.1:=by
  apply List.ext_getElem?
  intro i
  by_cases hi:i<m.length
  ·have:=hkey i hi
   simp only[List.getElem?_map,Array.getElem?_toList,X15 hi,Option.map_some]
   exact this
  rw[List.getElem?_eq_none (by simp;omega),List.getElem?_eq_none (by simp;omega)]
 let R:Value->Option (DataW Unit×List MemPlace):=fun _=>some (.nil,[])
 have hu:P.underlying (ρk.t 26)=some .string:=LK.t26
 have hko :∀x∈arr.toList,∃n:ByteArray,x.key=.string n/\keyOf P (ρk.t 26) x.key=some (.string n.data.toList):=by
  intro x hx
  have:x.key∈arr.toList.map (·.key):=List.mem_map.2 ⟨x,hx,rfl⟩
  rw[hkeys] at this
  obtain⟨p,hp,he⟩:=List.mem_map.1 this
  have hw:p.1.size<=maxLen:=by
   have:=List.all_eq_true.1 hrg p hp
   simpa using this
  exact⟨p.1,he.symm,by rw[<- he];simp[keyOf,hu,mapKey,hw]⟩
 have F:WideElems.Fit P (ρk.t 26) R arr clock:=by
  refine⟨by unfold maxLen;omega,⟨q4.1,q4.2,?_⟩,fun x hx=>?_⟩
  ·rw[hkeys]
   have:(m.map fun p=>Value.string p.1)=(m.map (·.1)).map Value.string:=by simp
   rw[this]
   exact List.pairwise_map.2 (hnd.imp fun h e=>h (by injection e))
  obtain⟨n,_,h2⟩:=hko x hx
  exact⟨_,by simp[WideElems.rd,h2,R];rfl⟩
 have hD :∃D0:DataW Unit,w.ownsMap P (ρk.t 26) R b arr.size D0/\(strKeys D0).Perm (m.map (·.1.data.toList))/\Maps.size D0=m.length:=by
  refine⟨_,⟨arr,clock,q2,F,Nat.le_refl _,rfl⟩,?_,?_⟩
  ·have h1:=(Go.WideShapes.sorted_perm (arr.toList.map (WideElems.rg P (ρk.t 26) R))).map fun p=>strOf p.1
   refine h1.trans ?_
   have:(arr.toList.map (WideElems.rg P (ρk.t 26) R)).map (fun p=>strOf p.1)=m.map (·.1.data.toList):=by
    have h2:arr.toList.map (fun x=>(WideElems.rg P (ρk.t 26) R x).1)=(arr.toList.map (·.key)).map fun v=>match v with | .string n=>Lit.string n.data.toList | _=>.bool false:=by
     rw[List.map_map]
     apply List.map_congr_left
     intro x hx
     obtain⟨n,g1,g2⟩:=hko x hx
     rw[g1] at g2
     simp[WideElems.rg,WideElems.rd,g2,R,g1]
    have h3:(arr.toList.map (WideElems.rg P (ρk.t 26) R)).map (fun p=>strOf p.1)=(arr.toList.map (fun x=>(WideElems.rg P (ρk.t 26) R x).1)).map strOf:=by simp
    rw[h3,h2,hkeys]
    simp[strOf,Function.comp_def]
   rw[this]
  have:=(Go.WideShapes.sorted_perm (arr.toList.map (WideElems.rg P (ρk.t 26) R))).length_eq
  simp only[X10,Array.length_toList] at this
  simp only[Maps.size]
  omega
 obtain⟨D0,hown,hperm,hsize⟩:=hD
 have hbl:=(mm.ow 0 b c (by simp[ofL]) hφ).1
 have hBl:=mm.bS B 0 hS
 have hseq:SeqGives Fence.wide 2 P (ρk.f 10) #[.pointer (some ⟨B,0,none⟩)] encStr (fun ss=>ss.Perm (strKeys D0)) (Maps.size D0) w:=
  AnyZ.keys_gives (ρ:=ρk) { LK with } Fence.wide _ trivial rfl (by omega) B b arr.size D0 w hBl hcell hown
 have cS:=AnyZ.sorted_in LS Fence.wide 5 trivial trivial trivial trivial rfl (by omega) (hsort _) e9 (ρk.f 10) #[.pointer (some ⟨B,0,none⟩)] trivial eg _ _ (by unfold maxLen;omega) (by omega) w hseq
 refine (callsIn_wide.1 cS).mono fun e' w' ⟨v,ss,he,hss,hrow,hnil,hbelow⟩=>?_
 have hms:(ss.mergeSort fun x y=>decide (x<=y))=(m.map (·.1.data.toList)).mergeSort fun x y=>decide (x<=y):=mergeSort_of_perm (hss.trans hperm)
 obtain⟨m1,k1⟩:=mm.grow (w':=w') (.below hbelow)
 have hlen2:((m.map (·.1.data.toList)).mergeSort fun x y=>decide (x<=y)).length=ss.length:=by rw[<- hms,List.length_mergeSort]
 rw[hms] at hrow
 obtain⟨φ',m2,k2,hrep⟩:=m1.ownsRow1 1 (by simp[ofL]) (e:=ρs.t 26) (v:=v) (xs:=(((m.map (·.1.data.toList)).mergeSort fun x y=>decide (x<=y)).map encStr)) (base:=w.heap.size) (fun x hx=>by
   obtain⟨n,_,rfl⟩:=List.mem_map.1 hx
   rfl) (by rw[X10,hlen2];exact hrow) (Nat.le_refl _) (fun r' b' c' h1 h2=>(mm.ow r' b' c' h1 h2).1) (fun b' o' h=>mm.bS b' o' h)
 have hob:upd (ofL [OB.map k e (Av D.s ev m)]) 1 (some (.row (ρs.t 26) 1 ((((m.map (·.1.data.toList)).mergeSort fun x y=>decide (x<=y)).map encStr).map .val) .no)) =
   ofL [OB.map k e (Av D.s ev m),.row (ρs.t 26) 1 (List.map D.s (((m.map (·.1.data.toList)).mergeSort fun x y=>decide (x<=y)).map fun l=>(⟨l.toArray⟩:ByteArray))) .no]:=by
  funext q
  match q with
  | 0=>rfl
  | 1=>simp[upd,ofL,Function.comp_def]
  | q+2=>simp[upd,ofL]
 rw[hob] at m2 k2 hrep
 refine⟨v,he,S,φ',m2,k1.trans k2,?_,fun q hq=>?_⟩
 ·simpa using hrep
 simp only[AV.refs,X14] at hq
 rw[hq]
 simp[ofL]
end Go.AX
end
section
namespace Go.AX
open Go.Sort
def ltC {X:Type}(cmp:X->X->Option Int)(a b:X):Bool:=match cmp a b with
 | some r=>decide (r<0)
 | none=>false
def Tj {X:Type}(cmp:X->X->Option Int)(l:List X):Bool:=
 (l.all fun a=>l.all fun b=>(cmp a b).isSome)&&(l.all fun a=>!ltC cmp a a) &&
 (l.all fun a=>l.all fun b=>l.all fun c=>!(ltC cmp a b) || !(ltC cmp b c) || ltC cmp a c) &&
 (l.all fun a=>l.all fun b=>l.all fun c=>ltC cmp a b || ltC cmp b c || !(ltC cmp a c))&&decide (l.length<=1000000000)
def ixL {X:Type}(l:List X)(i:Nat):Option X:=l[min i (l.length-1)]?
def cfI {X:Type}(cmp:X->X->Option Int)(l:List X)(i j:Nat):Int:=match ixL l i,ixL l j with
 | some a,some b=>(cmp a b).getD 0
 | _,_=>0
def Gw {X:Type}(cmp:X->X->Option Int)(l:List X):Array Nat:=Sort.pdq (Proofs.ltOf (cfI cmp l)) (Array.range l.length) 0 l.length (Lib.bitLen l.length) true true
def I7 {X:Type}(cmp:X->X->Option Int)(l:List X):Option (List X):=match Tj cmp l with
 | true=>some ((Gw cmp l).toList.filterMap fun i=>l[i]?)
 | false=>none
section
variable {X:Type} {cmp:X->X->Option Int} {l:List X}
theorem Jq (h:0<l.length)(i:Nat) :∃x∈l,ixL l i=some x:=by
 have hi:min i (l.length-1)<l.length:=by omega
 exact⟨l[min i (l.length-1)],List.getElem_mem hi,by unfold ixL;exact X15 hi⟩
theorem O2 (h:Tj cmp l=true):(∀a∈l,∀b∈l,∃r,cmp a b=some r)/\(∀a∈l,ltC cmp a a=false)/\
  (∀a∈l,∀b∈l,∀c∈l,ltC cmp a b=true->ltC cmp b c=true->ltC cmp a c=true)/\(∀a∈l,∀b∈l,∀c∈l,ltC cmp a b=false->ltC cmp b c=false->ltC cmp a c=false)/\l.length<=1000000000:=by
 simp only[Tj,X27,List.all_eq_true,decide_eq_true_eq] at h
 obtain⟨⟨⟨⟨h1,h2⟩,h3⟩,h4⟩,h5⟩:=h
 refine⟨fun a ha b hb=>Option.isSome_iff_exists.1 (h1 a ha b hb),fun a ha=>by simpa using h2 a ha,fun a ha b hb c hc g1 g2=>?_,fun a ha b hb c hc g1 g2=>?_,h5⟩
 ·have:=h3 a ha b hb c hc
  simpa[g1,g2] using this
 have:=h4 a ha b hb c hc
 simpa[g1,g2] using this
theorem aJ (h1 :∀a∈l,∀b∈l,∃r,cmp a b=some r)(h2 :∀a∈l,ltC cmp a a=false)
  (h3 :∀a∈l,∀b∈l,∀c∈l,ltC cmp a b=true->ltC cmp b c=true->ltC cmp a c=true) (h4 :∀a∈l,∀b∈l,∀c∈l,ltC cmp a b=false->ltC cmp b c=false->ltC cmp a c=false) (h5:l.length<=1000000000):Tj cmp l=true:=by
 simp only[Tj,X27,List.all_eq_true,decide_eq_true_eq]
 refine⟨⟨⟨⟨fun a ha b hb=>Option.isSome_iff_exists.2 (h1 a ha b hb),fun a ha=>by simp[h2 a ha]⟩,fun a ha b hb c hc=>?_⟩,fun a ha b hb c hc=>?_⟩,h5⟩
 ·cases g1:ltC cmp a b
  ·simp
  cases g2:ltC cmp b c
  ·simp
  simp[h3 a ha b hb c hc g1 g2]
 cases g1:ltC cmp a b
 ·cases g2:ltC cmp b c
  ·simp[h4 a ha b hb c hc g1 g2]
  simp
 simp
theorem HO (i j:Nat)(a b:X)(ha:ixL l i=some a)(hb:ixL l j=some b):Proofs.ltOf (cfI cmp l) i j=ltC cmp a b:=by
 unfold Proofs.ltOf cfI ltC
 rw[ha,hb]
 cases h:cmp a b<;>simp[h]
theorem Xl (h:Tj cmp l=true)(hl:0<l.length):SWO (Proofs.ltOf (cfI cmp l)):=by
 obtain⟨_,h2,h3,h4,_⟩:=O2 h
 refine⟨fun x=>?_,fun x y z=>?_,fun x y z=>?_⟩
 ·obtain⟨a,ha,ea⟩:=Jq hl x
  rw[HO x x a a ea ea]
  exact h2 a ha
 ·obtain⟨a,ha,ea⟩:=Jq hl x
  obtain⟨b,hb,eb⟩:=Jq hl y
  obtain⟨c,hc,ec⟩:=Jq hl z
  rw[HO _ _ _ _ ea eb,HO _ _ _ _ eb ec,HO _ _ _ _ ea ec]
  exact h3 a ha b hb c hc
 obtain⟨a,ha,ea⟩:=Jq hl x
 obtain⟨b,hb,eb⟩:=Jq hl y
 obtain⟨c,hc,ec⟩:=Jq hl z
 rw[HO _ _ _ _ ea eb,HO _ _ _ _ eb ec,HO _ _ _ _ ea ec]
 exact h4 a ha b hb c hc
theorem Oc (h:Tj cmp l=true)(hl:0<l.length):(Gw cmp l).size=l.length/\(Gw cmp l).toList.Perm (List.range l.length)/\∀i j,i<j->j<l.length->Proofs.ltOf (cfI cmp l) (Gw cmp l)[j]! (Gw cmp l)[i]! = false:=by
 obtain⟨⟨h1,_,h2⟩,h3⟩:=pdq_sorts (Proofs.ltOf (cfI cmp l)) (Xl h hl) (Array.range l.length) 0 l.length (Lib.bitLen l.length) true true (Nat.zero_le _) (by simp) (Or.inl rfl)
 have h1:(Gw cmp l).size=l.length:=by simpa[Gw] using h1
 refine⟨h1,?_,fun i j hij hj=>h3 i j (Nat.zero_le _) hij hj⟩
 have e1:((Gw cmp l).extract 0 l.length)=Gw cmp l:=by rw[<- h1];exact Array.extract_size
 have e2:((Array.range l.length).extract 0 l.length)=Array.range l.length:=by
  have:(Array.range l.length).size=l.length:=by simp
  conv=>lhs;arg 3;rw[<- this]
  exact Array.extract_size
 have h2':((Gw cmp l).extract 0 l.length).toList.Perm ((Array.range l.length).extract 0 l.length).toList:=h2
 rw[e1,e2] at h2'
 simpa using h2'
theorem P7 (l:List X):(List.range l.length).filterMap (fun i=>l[i]?)=l:=by
 have :∀(n:Nat),n<=l.length->(List.range n).filterMap (fun i=>l[i]?)=l.take n:=by
  intro n
  induction n with
  | zero=>intro _;simp
  | succ n ih=>
   intro hn
   have hlt:n<l.length:=by omega
   rw[List.range_succ,List.filterMap_append,ih (by omega),List.take_add_one]
   simp[X15 hlt]
 rw[this _ (Nat.le_refl _),List.take_length]
theorem Sr {r:List X}(h:I7 cmp l=some r)(hl:0<l.length):r.length=l.length/\∀i,i<l.length->(Gw cmp l)[i]!<l.length/\r[i]?=l[(Gw cmp l)[i]!]?:=by
 unfold I7 at h
 split at h
 ·rename_i hs
  obtain⟨h1,h2,h3⟩:=Oc hs hl
  obtain rfl:=X25 h
  have hm :∀i∈(Gw cmp l).toList,i<l.length:=fun i hi=>by simpa using h2.mem_iff.1 hi
  have key :∀(q:List Nat),(∀i∈q,i<l.length)->(q.filterMap fun i=>l[i]?).length=q.length/\∀j (hj:j<q.length),(q.filterMap fun i=>l[i]?)[j]?=l[q[j]]?:=by
   intro q
   induction q with
   | nil=>intro _;exact⟨rfl,fun j hj=>by simp at hj⟩
   | cons x q ih=>
    intro hq
    obtain⟨g1,g2⟩:=ih fun i hi=>hq i (X19 _ hi)
    have hx:=hq x (List.mem_cons_self ..)
    have e:(x::q).filterMap (fun i=>l[i]?)=l[x]::q.filterMap fun i=>l[i]?:=by
     rw[List.filterMap_cons,X15 hx]
    rw[e]
    refine⟨by simp[g1],fun j hj=>?_⟩
    cases j with
    | zero=>simp[X15 hx]
    | succ j=>simpa using g2 j (by simpa using hj)
  obtain⟨g1,g2⟩:=key (Gw cmp l).toList hm
  refine⟨by rw[g1];simpa using h1,fun i hi=>?_⟩
  have hi':i<(Gw cmp l).toList.length:=by simpa[h1] using hi
  have hget:(Gw cmp l)[i]! = (Gw cmp l).toList[i]:=by
   rw[getElem!_pos _ i (by simpa using hi')]
   simp
  rw[hget]
  exact⟨hm _ (List.getElem_mem hi'),g2 i hi'⟩
 simp at h
theorem M5 {r:List X}(h:I7 cmp l=some r):r.Perm l/\r.Pairwise fun a b=>ltC cmp b a=false:=by
 by_cases hl:0<l.length
 ·have h0:=h
  obtain⟨hlen,hget⟩:=Sr h hl
  unfold I7 at h
  split at h
  ·rename_i hs
   obtain⟨h1,h2,h3⟩:=Oc hs hl
   obtain rfl:=X25 h
   refine⟨?_,?_⟩
   ·have:=h2.filterMap fun i=>l[i]?
    rwa [P7] at this
   rw[List.pairwise_iff_getElem]
   intro i j hi hj hij
   have hi':i<l.length:=by omega
   have hj':j<l.length:=by omega
   obtain⟨p1,p2⟩:=hget i hi'
   obtain⟨q1,q2⟩:=hget j hj'
   rw[X15 hi,X15 p1] at p2
   rw[X15 hj,X15 q1] at q2
   have:=h3 i j hij hj'
   rw[HO (cmp:=cmp) (l:=l) _ _ _ _ (by unfold ixL;rw[Nat.min_eq_left (by omega)];exact X15 q1) (by unfold ixL;rw[Nat.min_eq_left (by omega)];exact X15 p1)] at this
   rw[X25 p2,X25 q2]
   exact this
  simp at h
 have:l=[]:=List.eq_nil_of_length_eq_zero (by omega)
 subst this
 unfold I7 at h
 split at h
 ·obtain rfl:=X25 h
  have:(Gw cmp ([]:List X)).toList.filterMap (fun i=>([]:List X)[i]?)=[]:=by simp
  rw[this]
  exact⟨.refl _,.nil⟩
 simp at h
theorem Yh {r:List X}(h:I7 cmp l=some r):r.length=l.length:=(M5 h).1.length_eq
theorem W0 (h:Tj cmp l=true) :∃r,I7 cmp l=some r:=by
 unfold I7
 rw[h]
 exact⟨_,rfl⟩
end
end Go.AX
end
