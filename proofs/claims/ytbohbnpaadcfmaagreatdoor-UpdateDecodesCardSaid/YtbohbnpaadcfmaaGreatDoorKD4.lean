/-
  Texts of one proof, packed.
-/
import Derived.Test.YtbohbnpaadcfmaaGreatDoorKD3
import Derived.Below
import Derived.Carry
import Derived.ChangeOld
import Derived.Deep.Draws
import Derived.Deep.Slices
import Derived.IntWalk
import Derived.KernelRfl
import Derived.LaidHandle
import Derived.LaidMore
import Derived.Lib.MakeNoZero
import Derived.MakeChecks
import Derived.OpenShut
import Derived.ProofKit
import Derived.Shelf.SlSortCmp.Insertion
import Derived.SizedLaws
import Derived.Sort.AssemblyPlain
import Derived.Test.YtbohbnpaadcfmaaGreatDoorProg
import Derived.WalkKit
import Derived.WideKeyElems2
set_option linter.all false
set_option maxRecDepth 100000
set_option maxHeartbeats 4000000
open List renaming length_map→X10,length_append→X11,mem_singleton→X14,getElem?_eq_getElem→X15,getElem?_eq_some_iff→X16,length_drop→X17,length_take→X18,mem_cons_of_mem→X19,length_replicate→X20,length_set→X21,mem_append→X23
open Option.some renaming injEq→X24,inj→X25
open Prod.mk renaming injEq→X26
open Bool renaming and_eq_true→X27
open Nat renaming le_of_ble_eq_true→X29,eq_of_beq_eq_true→X30,mul_le_mul_right→X31
section
namespace Go.AX
def ar:D->Value->Bool
 | .val (.int k n),.int k' n'=>decide (k=k')&&decide (n=n')
 | .val (.bool b),.bool b'=>b==b'
 | .val (.string s),.string s'=>Nat.beq s.data.toList.length 0&&Nat.beq s'.data.toList.length 0
 | .val (.pointer none),.pointer none=>true
 | .val .nilFunc,.nilFunc=>true
 | .val .nilIface,.nilIface=>true
 | .val (.map none),.map none=>true
 | .nil _,.slice none 0 0=>true
 | _,_=>false
theorem Zo {d:D}{v:Value}(h:ar d v=true):Ia d v:=by
 unfold ar at h
 split at h
 ·simp only[X27,decide_eq_true_eq] at h
  obtain⟨rfl,rfl⟩:=h
  exact⟨rfl,rfl⟩
 ·have h:=eq_of_beq h
  subst h
  exact⟨rfl,rfl⟩
 ·rename_i s s'
  simp only[X27,B2,List.length_eq_zero_iff] at h
  have e:s=s':=by
   cases s;cases s'
   congr
   apply Array.toList_inj.1
   rw[h.1,h.2]
  subst e
  exact⟨rfl,rfl⟩
 all_goals first | exact⟨rfl,rfl⟩|rfl | simp at h
def OQ:List D->List Value->Bool
 | [],[]=>true
 | d::ds,v::vs=>ar d v&&OQ ds vs
 | _,_=>false
theorem Ss :∀{ds:List D} {vs:List Value},OQ ds vs=true->ds.length=vs.length/\∀j (hj:j<ds.length) v,vs[j]?=some v->Ia ds[j] v
 | [],[],_=>⟨rfl,fun j hj=>by simp at hj⟩
 | d::ds,v::vs,h=>by
  simp only[OQ,X27] at h
  obtain⟨h1,h2⟩:=Ss h.2
  refine⟨by simp[h1],fun j hj u hu=>?_⟩
  cases j with
  | zero=>
   simp only[List.getElem?_cons_zero,X24] at hu
   subst hu
   exact Zo h.1
  | succ j=>exact h2 j (by simpa using hj) u (by simpa using hu)
 | [],_::_,h=>by simp[OQ] at h
 | _::_,[],h=>by simp[OQ] at h
def fieldsB (P:Program):List Field->List (Nat×Nat×Nat)->Bool
 | [],[]=>true
 | f::fs,(o,s,t)::l=>Nat.beq f.offset o&&Nat.beq f.type t&&(match P.info? f.type with
  | some i=>Nat.beq i.size s
  | none => false) && !(f.name == "_") && fieldsB P fs l
 | _,_=>false
theorem Rx {P:Program} :∀{F:List Field} {l:List (Nat×Nat×Nat)},fieldsB P F l=true->
  F.map (fun f => (f.offset, (P.info? f.type).map (·.size), f.type)) = l.map (fun x => (x.1, some x.2.1, x.2.2)) ∧ ∀ f ∈ F, f.name ≠ "_"
 | [],[],_=>⟨rfl,fun f hf=>by simp at hf⟩
 | f::fs,(o,s,t)::l,h=>by
  simp only[fieldsB,X27,B2] at h
  obtain⟨⟨⟨⟨h1,h2⟩,h3⟩,h4⟩,h5⟩:=h
  obtain⟨g1,g2⟩:=Rx h5
  refine⟨?_,fun g hg=>?_⟩
  ·simp only[List.map_cons,g1,List.cons.injEq,X26,and_true]
   refine⟨h1,?_,h2⟩
   split at h3
   ·rename_i i hi
    rw[hi]
    simpa using h3
   simp at h3
  rcases List.mem_cons.1 hg with rfl | hg
  ·simpa using h4
  exact g2 g hg
 | [],_::_,h=>by simp[fieldsB] at h
 | _::_,[],h=>by simp[fieldsB] at h
def aX (P:Program)(t:Nat)(k:TK):Bool:=match k,P.underlying t with
 | .bool,some .bool=>true
 | .int k,some (.int k')=>decide (k'=k)
 | .str,some .string=>true
 | .ptr,some (.pointer _)=>true
 | .fn,some (.func _ _ _)=>true
 | .slice e,some (.slice e')=>Nat.beq e' e
 | .arr n e,some (.array n' e')=>Nat.beq n' n&&Nat.beq e' e
 | .map k e,some (.map k' e')=>Nat.beq k' k&&Nat.beq e' e
 | .struct fs,some (.struct F)=>!P.stoodInHeld t&&!P.eqGuardType P.depth t&&fieldsB P F.toList fs
 | .other,_=>true
 | _,_=>false
theorem aW {P:Program}{t:Nat}{k:TK}(h:aX P t k=true):KindOk P t k:=by
 unfold aX at h
 split at h<;>simp only[KindOk]
 ·assumption
 ·rename_i hu;rw[hu,of_decide_eq_true h]
 ·assumption
 ·exact⟨_,by assumption⟩
 ·exact⟨_,_,_,by assumption⟩
 ·rename_i hu;rw[hu,X30 h]
 ·rename_i hu
  simp only[X27,B2] at h
  rw[hu,h.1,h.2]
 ·rename_i hu
  simp only[X27,B2] at h
  rw[hu,h.1,h.2]
 ·rename_i fs F hu
  simp only[X27,Bool.not_eq_true'] at h
  exact⟨h.1.1,h.1.2,F,hu,Rx h.2⟩
 simp at h
def dJ (k:TK)(z:Value):Bool:=match z,k.cls with
 | .agg _,some false=>false
 | .agg _,_=>true
 | _,some true=>false
 | _,_=>true
def tiB (P:Program)(t:Nat)(ti:TI):Bool:=match P.info? t with
 | some i=>(match i.zero with
  | some z=>Nat.beq i.size ti.size&&Nat.beq i.bytes ti.bytes&&Nat.beq ti.zero.length ti.size&&OQ ti.zero z.cells.toList&&aX P t ti.kind&&dJ ti.kind z
  | none=>false)
 | none=>false
theorem dM {P:Program}{t:Nat}{ti:TI}(h:tiB P t ti=true):TiOk P t ti:=by
 unfold tiB at h
 split at h
 ·rename_i i hi
  split at h
  ·rename_i z hz
   simp only[X27,B2] at h
   obtain⟨⟨⟨⟨⟨h1,h2⟩,h3⟩,h4⟩,h5⟩,h6⟩:=h
   obtain⟨g1,g2⟩:=Ss h4
   exact⟨⟨i,z,hi,h1,h2,hz,by rw[<- Array.length_toList,<- g1,h3],h3,fun j hj v hv=>g2 j hj v (by simpa using hv)⟩,aW h5,fun i' z' hi' hz'=>by
    rw[hi] at hi'
    obtain rfl:=X25 hi'
    rw[hz] at hz'
    obtain rfl:=X25 hz'
    refine⟨fun hc=>?_,fun hc cs e=>?_⟩
    ·cases z<;>first | exact⟨_,rfl⟩|(simp[dJ,hc] at h6)
    subst e;simp[dJ,hc] at h6⟩
  simp at h
 simp at h
def bX (P:Program):TT->Bool
 | .tip=>true
 | .node k v l r=>(v.kind.cls.isNone || tiB P k v)&&bX P l&&bX P r
theorem U3 {P:Program} :∀{T:TT},bX P T=true->TabOk P T
 | .tip,_=>fun t=>.inl rfl
 | .node k v l r,h=>fun t=>by
  simp only[bX,X27,Bool.or_eq_true] at h
  simp only[TT.get]
  cases hb:Nat.beq t k with
  | true=>
   have:=X30 hb
   subst this
   simp only
   rcases h.1.1 with h | h
   ·exact .inl (by simpa using h)
   exact .inr (dM h)
  | false=>
   simp only
   cases Nat.blt t k with
   | true=>exact U3 h.1.2 t
   | false=>exact U3 h.2 t
abbrev mcx (wl:WL)(P:Program)(T:TT)(keep:FuncId->List Bool)(inl:FuncId->Bool)(ex np:Nat):Cx:=⟨T,np,CallsOK wl P,keep,wl.G,inl,YR wl P,ex⟩
theorem ce {wl:WL}{P:Program}{T:TT}(hT:TabOk P T)(hm:P.follows .mixedOrders=true)(keep:FuncId->List Bool)(inl:FuncId->Bool)(ex:Nat){f:FuncId}{fn:Func}{args:List AV}{objs:List OB}{res:AV}{objs':List OB}
  (hf : P.funcs[f]? = some fn) (hn : (fn.name == "runtime.NumGoroutine") = false) (h : ZG (mcx wl P T keep inl ex objs.length) fn args objs fun r o => r = res ∧ o = objs') : CallsOK wl P f args objs res objs' :=
 XZ (cx:=mcx wl P T keep inl ex objs.length) hT ⟨rfl,fun _ _ _ _ _ h=>h,fun _ _ _ _ h=>h⟩ (NX hT ⟨rfl,fun _ _ _ _ _ h=>h,fun _ _ _ _ h=>h⟩ hm) hf (by simpa using hn) h
theorem dF {wl:WL}{P:Program}{T:TT}(hT:TabOk P T)(hm:P.follows .mixedOrders=true)(keep:FuncId->List Bool)(inl:FuncId->Bool)(np:Nat){f:FuncId}{fn:Func}{args:List AV}{ob:List (Option OB)}{K:AV->List (Option OB)->Prop}
  (hf : P.funcs[f]? = some fn) (hn : (fn.name == "runtime.NumGoroutine") = false) (h : dl (mcx wl P T keep inl 0 np) fn args ob K) : YR wl P f args ob K :=
 .inl <| W2 (cx:=mcx wl P T keep inl 0 np) hT ⟨rfl,fun _ _ _ _ _ h=>h,fun _ _ _ _ h=>h⟩ (NX hT ⟨rfl,fun _ _ _ _ _ h=>h,fun _ _ _ _ h=>h⟩ hm) hf (by simpa using hn) h
def I64 (x:Int):Prop:=-9223372036854775808<=x/\x<=9223372036854775807
theorem U2 {a b:Int}(h1:a=b)(h2:I64 b):IntKind.i64.wrap a=b:=by
 subst h1
 exact IntWalk.i64_in a h2
theorem I64.of {x:Int}(h:-9223372036854775808<=x/\x<=9223372036854775807):I64 x:=h
end Go.AX
end
section
namespace Go.AX
open Go.RowKit
def Old (w:World):Sc:=fun b o=>∃v,cellAt w b o=some v
theorem bI {P:Program}{f:FuncId}{args:List AV}{res:AV}{wl:WL}(h:CallsOK wl P f args [] res [])(w:World){gb:Nat->Prop}(hg:wl.gf gb w/\∀b,gb b->b<w.heap.size)(vals:Array Value)(hs:vals.size=args.length)
  (hr :∀i (hi:i<args.length),RepA (Old w) w (fun _=>none) (ofL []) args[i] (vals.getD i undef)/\Closed (ofL []) args[i]) :
  Calls P f vals w fun e w'=>(∃v S φ,e=.returned v/\RepA S w' φ (ofL []) res v)/\Below w.heap.size w w':=by
 have hn :∀r,ofL [] r=none:=fun r=>by simp[ofL]
 refine (h.2 w (Old w) (fun _=>none) gb ⟨hg.1,hg.2,(by rintro b hb ⟨r,c,h1,_⟩;simp at h1),fun b o _ hc=>by
  cases hv:cellAt w b o with
  | none=>exact absurd hv hc
  | some v=>exact⟨v,hv⟩⟩ vals hs hr (fun _ _=>rfl) ⟨fun r o ho=>by rw[hn] at ho;simp at ho,fun r _ _ _ _ hr=>absurd (hn r) hr,fun r o ho=>by rw[hn] at ho;simp at ho,fun _ _ h=>h,fun _ _ _=>rfl,fun b o hS=>?_,fun _ _ h _ _=>h,fun _ _ _=>rfl,Nat.le_refl _,fun r _ _ hr=>absurd (hn r) hr,⟨rfl,rfl,rfl,.inr (Nat.le_refl _)⟩⟩).mono fun e w' he=>?_
 ·obtain⟨v,hv⟩:=hS
  refine Nat.lt_of_not_le fun hge=>?_
  simp[cellAt,World.cell?,hge] at hv
 obtain⟨v,rfl,S',φ',m,_,hv,_⟩:=he
 refine⟨⟨v,S',φ',rfl,hv⟩,m.os.1,m.os.2.2.1,m.os.2.1,m.sz,fun k hk=>m.fr k hk ?_⟩
 rintro⟨r,c,hr,_⟩
 exact absurd hr (by simp)
theorem ZP {P:Program}{f:FuncId}{args:List AV}{wl:WL}(h:CallsOK wl P f args [] (.b true) [])(w:World){gb:Nat->Prop}(hg:wl.gf gb w/\∀b,gb b->b<w.heap.size)(vals:Array Value)(hs:vals.size=args.length)
  (hr :∀i (hi:i<args.length),RepA (Old w) w (fun _=>none) (ofL []) args[i] (vals.getD i undef)/\Closed (ofL []) args[i]) :
  Calls P f vals w fun e w'=>e=.returned (.bool true)/\Below w.heap.size w w':=
 (bI h w hg vals hs hr).mono fun e w' ⟨⟨v,S,φ,he,hv⟩,hb⟩=>⟨by rw[he,hv.bool],hb⟩
end Go.AX
end
section
namespace Go.AX
open Go.RowKit Go.Deep Go.ChangeShapes Go.WideShapes
section
variable {H:Type} {enc:TypeId×Value->H} {P:Program} {w:World}
def RepI (w:World)(ds:List D)(cs:List Value):Prop:=
 ds.length=cs.length/\(∀d∈ds,d.isAgg=false)/\∀j (hj:j<ds.length) v,cs[j]?=some v->RepD (Old w) w ds[j] v
def Wt (P:Program)(t:Nat)(d:DataW H):Prop:=(d.weights P t).all (·<=reachBytes)=true
theorem weightsAll_mem {e:Nat} :∀{l:List (DataW H)} {d:DataW H},d∈l->∀n∈d.weights P e,n∈DataW.weightsAll P e l
 | x::l,d,hd,n,hn=>by
  simp only[DataW.weightsAll,X23]
  rcases List.mem_cons.1 hd with rfl | hd
  ·exact .inl hn
  exact .inr (weightsAll_mem hd n hn)
theorem Wt.slice {t e:Nat}{el sp:List (DataW H)}(ht:P.underlying t=some (.slice e))(h:Wt P t (.slice el sp)):(el.length+sp.length)*P.bytesOf e<=reachBytes/\∀d∈el,Wt P e d:=by
 have h:=List.all_eq_true.1 h
 simp only[DataW.weights,ht,List.mem_cons,X23] at h
 refine⟨by simpa using h _ (.inl rfl),fun d hd=>List.all_eq_true.2 fun n hn=>h n (.inr (.inl (weightsAll_mem hd n hn)))⟩
theorem Wt.string {t:Nat}{b:List UInt8}(h:Wt (H:=H) P t (.lit (.string b))):b.length<=reachBytes:=by
 have h:=List.all_eq_true.1 h
 simp only[DataW.weights] at h
 simpa using h _ (X14.2 rfl)
theorem Wt.agg {t:Nat}{F:Array Field}{ds:List (DataW H)}(ht:P.underlying t=some (.struct F))(h:Wt P t (.agg ds)){i:Nat}{f:Field}{d:DataW H}(hf:F[i]?=some f)(hd:ds[i]?=some d):Wt P f.type d:=by
 have h:=List.all_eq_true.1 h
 simp only[DataW.weights,ht] at h
 exact List.all_eq_true.2 fun n hn=>h n (DataW.weights_mem_each (ts:=F.toList.map (·.type)) (j:=i) (by simp[hf]) hd n hn)
structure Lim (H:Type)(P:Program) where
 W:Nat->DataW H->Prop
 S:Nat->Nat->Prop
 B:Nat
 slice :∀{t e:Nat} {el sp:List (DataW H)},P.underlying t=some (.slice e)->W t (.slice el sp)->S e el.length/\∀d∈el,W e d
 string :∀{t:Nat} {b:List UInt8},W t (.lit (.string b))->b.length<=B
 agg :∀{t:Nat} {F:Array Field} {ds:List (DataW H)},P.underlying t=some (.struct F)->W t (.agg ds)->∀{i:Nat} {f:Field} {d:DataW H},F[i]?=some f->ds[i]?=some d->W f.type d
def Lim.reach (H:Type)(P:Program):Lim H P where
 W:=Wt P
 S e n:=n*P.bytesOf e<=reachBytes
 B:=reachBytes
 slice ht h:=⟨Nat.le_trans (X31 _ (by simp)) (Wt.slice ht h).1,(Wt.slice ht h).2⟩
 string h:=Wt.string h
 agg ht h _ _ _ hf hd:=Wt.agg ht h hf hd
def ReadsL (L:Lim H P)(enc:TypeId×Value->H)(w:World)(t:Nat){α:Type}(cells:α->List D)(ok:α->Prop):Prop:=
 ∀fuel cs x,DataW.trod enc P w 0 (fun _=>true) true fuel t cs=some x->L.W t x.1->∃a,ok a/\RepI w (cells a) cs
abbrev Reads (enc:TypeId×Value->H)(P:Program)(w:World)(t:Nat){α:Type}(cells:α->List D)(ok:α->Prop):Prop:=ReadsL (Lim.reach H P) enc w t cells ok
variable {L:Lim H P}
theorem RepI.one {d:D}{v:Value}(hd:d.isAgg=false)(h:RepD (Old w) w d v):RepI w [d] [v]:=
 ⟨rfl,fun x hx=>by simp only[X14] at hx;rw[hx];exact hd,fun j hj u hu=>by
  have:j=0:=by simpa using hj
  subst this
  simp only[List.getElem?_cons_zero,X24] at hu
  subst hu
  exact h⟩
theorem RepI.append {ds es:List D}{cs ks:List Value}(h:RepI w ds cs)(k:RepI w es ks):RepI w (ds++es) (cs++ks):=by
 obtain⟨h1,h2,h3⟩:=h
 obtain⟨k1,k2,k3⟩:=k
 refine⟨by simp[h1,k1],fun d hd=>?_,fun j hj v hv=>?_⟩
 ·rcases X23.1 hd with hd | hd
  ·exact h2 d hd
  exact k2 d hd
 rw[List.getElem_append]
 split
 ·rename_i hlt
  rw[List.getElem?_append_left (by omega)] at hv
  exact h3 j hlt v hv
 rename_i hge
 rw[List.getElem?_append_right (by omega),<- h1] at hv
 exact k3 (j-ds.length) (by simp at hj;omega) v hv
theorem ReadsL.map {t:Nat}{α β:Type}{cells:α->List D}{ok:α->Prop}(h:ReadsL L enc w t cells ok){cells':β->List D}{ok':β->Prop}(g:α->β)(hc :∀a,cells' (g a)=cells a)(hk :∀a,ok a->ok' (g a)):ReadsL L enc w t cells' ok':=by
 intro fuel cs x hx hw
 obtain⟨a,h1,h2⟩:=h fuel cs x hx hw
 exact⟨g a,hk a h1,by rw[hc];exact h2⟩
theorem TY {t:Nat}{k:IntKind}(ht:P.underlying t=some (.int k)):ReadsL L enc w t (fun n:Int=>[.val (.int k n)]) (fun n=>(Lit.int k n).wf=true):=by
 intro fuel cs x h _
 obtain⟨n,rfl,_,hw⟩:=DataW.trod_int ht h
 exact⟨n,hw,RepI.one rfl (.val _ rfl)⟩
theorem UU {t e sz:Nat}{α:Type}{el:α->D}{ok:α->Prop}{sok:Nat->Prop}(ht:P.underlying t=some (.slice e))(hsz:P.cellsOf e=sz)(hpos:0<sz)(hs0:sok 0)(hsok :∀n,L.S e n->sok n)(h:ReadsL L enc w e (fun a=>(el a).cells) ok) :
  ReadsL L enc w t (fun l:List α=>[.lst sz (l.map el)]) (fun l=>l.length<=maxLen/\sok l.length/\∀a∈l,ok a):=by
 intro fuel cs x hx hw
 rcases open_slice ht hx with ⟨rfl,_⟩|⟨a,len,cap,m,n,D,Pl,rfl,_,hlc,hm,hmm,rfl,hel⟩
 ·exact⟨[],⟨by simp,hs0,by simp⟩,RepI.one rfl (.lst0 _ _ _)⟩
 obtain⟨hw1,hw2⟩:=L.slice ht hw
 have hw1:sok len:=hsok _ (by simpa using hw1)
 have hmm:m=cap:=hmm.trans (if_pos rfl)
 subst hmm
 rw[hsz] at hel
 have one :∀i,i<len->∃q:α×List Value,ok q.1/\RepI w (el q.1).cells q.2/\w.cells? 0 (a.add (i*sz)) sz=some q.2:=by
  intro i hi
  obtain⟨cs',h1,h2⟩:=hel i (by omega)
  obtain⟨b,h3,h4⟩:=h n cs' _ h2 (hw2 _ (List.mem_map.2 ⟨i,List.mem_range.2 hi,rfl⟩))
  exact⟨(b,cs'),h3,h4,h1⟩
 by_cases h0:len=0
 ·subst h0
  exact⟨[],⟨by simp,hs0,by simp⟩,RepI.one rfl (.lst0 _ _ _)⟩
 obtain⟨q0,_⟩:=one 0 (by omega)
 haveI:Inhabited (α×List Value):=⟨q0⟩
 obtain⟨f,hf⟩:=choose_lt one
 have hspot:a.spot=none:=by
  obtain⟨_,_,h3⟩:=hf 0 (by omega)
  obtain⟨_,hl,hc⟩:=World.cells?_some h3
  have:=hc 0 hpos
  rw[Nat.zero_mul] at this
  have e:(a.add 0).add 0=a:=by simp[Addr.add]
  rw[e] at this
  have hlt:0<(f 0).2.length:=by omega
  rw[X15 hlt] at this
  unfold World.cell? at this
  split at this
  ·cases hs:a.spot with
   | none=>rfl
   | some s=>simp[hs] at this
  simp at this
 obtain⟨b,o,sp⟩:=a
 simp only at hspot
 subst hspot
 have hadd :∀i j,((⟨b,o,none⟩:Addr).add i).add j=⟨b,o+i+j,none⟩:=by
  intro i j
  rw[Addr.add_none,Addr.add_none]
 have hcell :∀i j,i<len->j<sz->∃v,(f i).2[j]?=some v/\cellAt w b (o+i*sz+j)=some v:=by
  intro i j hi hj
  obtain⟨_,_,h3⟩:=hf i hi
  obtain⟨_,hl,hc⟩:=World.cells?_some h3
  have:=hc j hj
  rw[hadd] at this
  have hlt:j<(f i).2.length:=by omega
  exact⟨(f i).2[j],X15 hlt,by rw[X15 hlt] at this;exact this⟩
 have hlenq :∀i,i<len->(el (f i).1).cells.length=sz:=by
  intro i hi
  obtain⟨_,h2,h3⟩:=hf i hi
  obtain⟨_,hl,_⟩:=World.cells?_some h3
  rw[h2.1,hl]
 refine⟨(List.range len).map fun i=>(f i).1,⟨by simp;omega,by simpa using hw1,fun a ha=>?_⟩,RepI.one rfl ?_⟩
 ·obtain⟨i,hi,rfl⟩:=List.mem_map.1 ha
  exact (hf i (List.mem_range.1 hi)).1
 have hL:(((List.range len).map fun i=>(f i).1).map el).length=len:=by simp
 have:=RepD.lst (S:=Old w) (w:=w) sz (((List.range len).map fun i=>(f i).1).map el) b o m (fun i j=>((f i).2[j]?).getD undef) (by rw[hL];exact Nat.le_trans hlc hm) (by rw[hL];exact hlc) (fun i hi=>?_) (fun i j hi hj=>?_) (fun i hi j hj=>?_) (fun i hi j hj=>?_)
 ·rw[hL] at this
  exact this
 ·rw[hL] at hi
  simpa using hlenq i hi
 ·rw[hL] at hi
  obtain⟨v,h1,h2⟩:=hcell i j hi hj
  exact⟨⟨v,h2⟩,by rw[h2,h1];rfl⟩
 ·rw[hL] at hi
  obtain⟨_,h2,_⟩:=hf i hi
  exact h2.2.1 _ (by simp)
 rw[hL] at hi
 obtain⟨_,h2,_⟩:=hf i hi
 simp only[List.getElem_map,List.getElem_range] at hj ⊢
 have hj':j<sz:=by rw[hlenq i hi] at hj;exact hj
 obtain⟨v,h1,_⟩:=hcell i j hi hj'
 rw[h1]
 exact h2.2.2 j hj v h1
theorem reads_slice {t e sz by':Nat}{α:Type}{el:α->D}{ok:α->Prop}(ht:P.underlying t=some (.slice e))(hsz:P.cellsOf e=sz)(hpos:0<sz)(hby:P.bytesOf e=by')(h:Reads enc P w e (fun a=>(el a).cells) ok) :
  Reads enc P w t (fun l:List α=>[.lst sz (l.map el)]) (fun l=>l.length<=maxLen/\l.length*by'<=reachBytes/\∀a∈l,ok a):=
 UU (sok:=fun n=>n*by'<=reachBytes) ht hsz hpos (by simp) (fun _ h=>hby ▸ h) h
theorem RepI.val {d:D}{v:Value}(h:RepI w [d] [v]):RepD (Old w) w d v:=h.2.2 0 (by simp) v (by simp)
theorem RepI.agg {ds:List D}{cs:Array Value}(h:RepI w ds cs.toList):RepD (Old w) w (.agg ds) (.agg cs):=by
 obtain⟨h1,h2,h3⟩:=h
 refine .agg ds cs (fun i=>cs.getD i undef) (by simpa using h1.symm) (fun i hi=>?_) (fun i hi=>h2 _ (by simp)) fun i hi=>h3 i hi _ ?_
 ·have:i<cs.size:=by have:=h1;simp at this;omega
  simp[this]
 have:i<cs.size:=by have:=h1;simp at this;omega
 simp[this]
end
end Go.AX
end
section
namespace Go.AX
def AC {τ ρ:Type}(m:(τ->Option ρ)->Option ρ)(k:τ->Option ρ):Option ρ:=m k
def geti {α:Type}(l:List α)(i:Int):Option α:=if 0<=i/\i<l.length then l[i.toNat]? else none
def seti {α:Type}(l:List α)(i:Int)(x:α):Option (List α):=if 0<=i/\i<l.length then some (l.set i.toNat x) else none
def apnd {α:Type}(b:Nat)(l m:List α):Option (List α):=if (l.length+m.length)*b<=2^47/\l.length+m.length<=2^47 then some (l++m) else none
def part {α:Type}(l:List α)(a b:Int):Option (List α):=if 0<=a/\a<=b/\b<=l.length then some ((l.drop a.toNat).take (b.toNat-a.toNat)) else none
def chk (p:Prop)[Decidable p]:Option Unit:=if p then some () else none
abbrev AD (x:Int):Int:=IntKind.i64.wrap x
def Ak {α σ ρ:Type}(done:σ->Option ρ)(body:(σ->Option ρ)->α->Nat->σ->Option ρ):List α->Nat->σ->Option ρ
 | [],_,s=>done s
 | x::t,i,s=>body (Ak done body t (i+1)) x i s
def Ao {σ ρ:Type}(body:(σ->Option ρ)->σ->Option ρ):Nat->σ->Option ρ
 | 0,_=>none
 | n+1,s=>body (Ao body n) s
def fuel:Nat:=2^64
abbrev D.u8 (x:UInt8):D:=.val (.int .u8 (x.toNat:Int))
abbrev D.fn (n:Nat):D:=.val (.func (.func n) #[] #[])
abbrev D.u32 (x:UInt32):D:=.val (.int .u32 (x.toNat:Int))
abbrev D.u64 (x:UInt64):D:=.val (.int .u64 (x.toNat:Int))
abbrev D.l {α:Type}(sz:Nat)(f:α->D)(l:List α):D:=.lst sz (l.map f)
theorem AH {α ρ:Type}{x:Option α}{f:α->Option ρ}{r:ρ}(h:x.bind f=some r) :∃a,x=some a/\f a=some r:=by
 cases x with
 | none=>cases h
 | some a=>exact⟨a,rfl,h⟩
theorem Uj {b:Bool}{ρ:Type}{X Y:Option ρ}{r:ρ}{A B:Prop}(h1:X=some r->A)(h2:Y=some r->B):(if b=true then X else Y)=some r->J7 b A B:=by
 intro h
 cases b
 ·exact h2 h
 exact h1 h
theorem BB {b:Bool}{A B:Prop}(hb:b=true)(h:A):J7 b A B:=by subst hb;exact h
theorem BI {b:Bool}{A B:Prop}(hb:b=false)(h:B):J7 b A B:=by subst hb;exact h
theorem BM {α β:Type}{f:α->β}{l:List α}{i:Int}{v:α}(h:geti l i=some v):0<=i/\i<((l.map f).length:Int):=by
 unfold geti at h
 split at h
 ·rename_i hb;simpa using hb
 cases h
theorem BW {α:Type}{f:α->D}{l:List α}{i:Int}{v:α}(h:geti l i=some v):(l.map f).getD i.toNat default=f v:=by
 unfold geti at h
 split at h
 ·rename_i hb;simp[h]
 cases h
def bs (l:List UInt8):ByteArray:=⟨l.toArray⟩
theorem KE {α:Type}{f:α->D}{l l':List α}{i:Int}{v:α}(h:seti l i v=some l'):(l.map f).set i.toNat (f v)=l'.map f:=by
 unfold seti at h
 split at h
 ·cases h;rw[List.map_set]
 cases h
theorem G8 {α:Type}{l l':List α}{i:Int}{v:α}(h:seti l i v=some l'):l'.length=l.length:=by
 unfold seti at h
 split at h
 ·cases h;simp
 cases h
theorem Zh {α:Type}{b:Nat}{l m l':List α}(h:apnd b l m=some l'):l'=l++m:=by
 unfold apnd at h
 split at h
 ·cases h;rfl
 cases h
theorem UD {α:Type}{b:Nat}{l m l':List α}{f g:α->D}(h:apnd b l m=some l'):((l.map f).length+(m.map g).length)*b<=2^47/\(l.map f).length+(m.map g).length<=2^47:=by
 unfold apnd at h
 split at h
 ·rename_i hb;simpa using hb
 cases h
theorem cS {α:Type}{b:Nat}{m l':List α}{g:α->D}(h:apnd b [] m=some l'):(m.map g).length*b<=2^47/\(m.map g).length<=2^47:=by
 simpa using UD (f:=g) (g:=g) h
theorem Zv {α:Type}{b:Nat}{l m l':List α}{f:α->D}(h:apnd b l m=some l'):l.map f++m.map f=l'.map f:=by
 rw[Zh h,List.map_append]
theorem XQ {α:Type}{f:α->D}{l l':List α}{a b:Int}(h:part l a b=some l'):0<=a/\a<=b/\b<=((l.map f).length:Int):=by
 unfold part at h
 split at h
 ·rename_i hb;simpa using hb
 cases h
theorem Xn {α:Type}{f:α->D}{l l':List α}{a:Int}(h:part l a l.length=some l'):0<=a/\a<=((l.map f).length:Int)/\((l.map f).length:Int)<=((l.map f).length:Int):=by
 have:=XQ (f:=f) h
 simp at this ⊢
 exact this
theorem MJ {α:Type}{f:α->D}{l l':List α}{a b:Int}(h:part l a b=some l'):((l.map f).drop a.toNat).take (b.toNat-a.toNat)=l'.map f:=by
 unfold part at h
 split at h
 ·cases h;rw[List.map_take,List.map_drop]
 cases h
theorem YT {α:Type}{f:α->D}{l l':List α}{a:Int}(h:part l a l.length=some l'):((l.map f).drop a.toNat).take (((l.map f).length:Int).toNat-a.toNat)=l'.map f:=by
 have:=MJ (f:=f) h
 simpa using this
theorem Xa {n c:Int}{b:Nat}{u:Unit}(h:chk (0<=n/\n<=c/\c<=1048576)=some u)(hb:b<=65536):0<=n/\n<=c/\c<=1048576/\b<=65536:=by
 unfold chk at h
 split at h
 ·rename_i q;exact⟨q.1,q.2.1,q.2.2,hb⟩
 cases h
theorem Rn {α:Type}{f:α->D}{k:Nat}{n:Int}{b:Nat}{l l':List α}{z:α}{u:Unit}(hk:k=(l.map f).length)(h:chk (0<=n/\n<=1048576)=some u)(hb:b<=65536)(hg:apnd b l (List.replicate n.toNat z)=some l') :
  k=(l.map f).length/\0<=n/\n<=1048576/\b<=65536/\((l.map f).length+n.toNat)*b<=2^47/\(l.map f).length+n.toNat<=2^47:=by
 have h1:=UD (f:=f) (g:=f) hg
 simp only[X10,X20] at h1 hk ⊢
 unfold chk at h
 split at h
 ·rename_i hc;exact⟨hk,hc.1,hc.2,hb,h1.1,h1.2⟩
 exact nomatch h
theorem Q8 {α:Type}{f:α->D}{n:Int}{b:Nat}{l l':List α}{z:α}(hg:apnd b l (List.replicate n.toNat z)=some l'):l.map f++List.replicate n.toNat (f z)=l'.map f:=by
 rw[Zh hg,List.map_append,List.map_replicate]
theorem eY {n:Int}{b:Nat}{u:Unit}(h:chk (0<n/\n<=1048576)=some u)(hb:b<=65536):0<n/\n<=1048576/\b<=65536:=by
 unfold chk at h
 split at h
 ·rename_i q;exact⟨q.1,q.2,hb⟩
 cases h
def BV {K V:Type}[BEq K]:List (K×V)->K->Option V
 | [],_=>none
 | p::l,k=>if k==p.1 then some p.2 else BV l k
def Cf {K V:Type}[BEq K]:List (K×V)->K->V->List (K×V)
 | [],k,v=>[(k,v)]
 | p::l,k,v=>if k==p.1 then (k,v)::l else p::Cf l k v
def Bv {K V:Type}(ek:K->D)(ev:V->D)(l:List (K×V)):List (D×D):=l.map fun p=>(ek p.1,ev p.2)
theorem BZ {K V:Type}[BEq K]{tk:TK}{ek:K->D}{ev:V->D}{l:List (K×V)}{k:K}(h :∀a b,D5 tk (ek a) (ek b)=some (a==b)):Bm tk (ek k) (Bv ek ev l)=some ((BV l k).map ev):=by
 induction l with
 | nil=>rfl
 | cons p l ih=>
  simp only[Bv,List.map_cons,Bm,h,BV]
  cases k==p.1
  ·simpa[Bv] using ih
  simp
theorem EF {K V:Type}[BEq K]{tk:TK}{ek:K->D}{ev:V->D}{l:List (K×V)}{k:K}{v:V}(h :∀a b,D5 tk (ek a) (ek b)=some (a==b)):FV tk (ek k) (ev v) (Bv ek ev l)=some (Bv ek ev (Cf l k v)):=by
 induction l with
 | nil=>rfl
 | cons p l ih=>
  simp only[Bv,List.map_cons,FV,h,Cf]
  cases k==p.1
  ·simp only[Bv] at ih
   simp[ih]
  simp
theorem Pe {K V:Type}[BEq K]{tk:TK}{ek:K->D}{ev:V->D}{l:List (K×V)}{k:K}{u:Unit}(h :∀a b,D5 tk (ek a) (ek b)=some (a==b))(g:chk ((BV l k).isNone=true)=some u):Bm tk (ek k) (Bv ek ev l)=some none:=by
 rw[BZ h]
 unfold chk at g
 split at g
 ·rename_i q
  cases hm:BV l k with
  | none=>rfl
  | some v=>rw[hm] at q;simp at q
 simp at g
theorem dP {V:Type}{f:V->D}{o:Option V}{z:V}{zD:D}(hz:zD=f z):(o.map f).getD zD=f (o.getD z):=by
 cases o<;>simp[hz]
theorem dt {V:Type}{f:V->D}{o:Option V}:(o.map f).isSome=o.isSome:=by
 cases o<;>rfl
theorem Ds {V:Type}{f:V->D}{o:Option V}{z v:V}{zD:D}(hz:zD=f z)(g:some (o.getD z)=some v):(o.map f).getD zD=f v:=by
 rw[dP hz,X25 g]
theorem bv {V:Type}{f:V->D}{o:Option V}{b:Bool}(g:some o.isSome=some b):(o.map f).isSome=b:=by
 rw[dt,X25 g]
theorem BO (a b:Int):D5 (.int .i64) (D.i a) (D.i b)=some (a==b):=by simp[D5]
theorem Ce {p:Prop}[Decidable p]{u:Unit}(h:chk p=some u):p:=by
 unfold chk at h
 split at h
 ·assumption
 cases h
theorem aL {τ ρ:Type}{np:Nat}{X:(ASt->Prop)->Prop}{K:ASt->Prop}{m:(τ->Option ρ)->Option ρ}{k:τ->Option ρ}{r:ρ}(St:τ->ASt)
  (h1 :∀k':τ->Option ρ,m k'=some r->X (fun t=>∃s,Weak np t s/\∃v,k' v=some r/\s=St v)) (h2 :∀v,k v=some r->K (St v)):AC m k=some r->CutP np X K:=
 fun h=>.cut (fun s=>∃v,k v=some r/\s=St v) (h1 k h) fun _ ⟨v,hv,hs⟩=>hs ▸ h2 v hv
theorem QV {α:Type}{l:List α}{a b:Int}{u:Unit}{f:α->D}(h:chk (0<=a/\a<=b/\b<=(l.length:Int))=some u):0<=a/\a<=b/\b<=((l.map f).length:Int):=by
 rw[X10];exact Ce h
theorem Gx {α:Type}{l:List α}{a:Int}{u:Unit}{f:α->D}(h:chk (0<=a/\a<=(l.length:Int)/\(l.length:Int)<=(l.length:Int))=some u):0<=a/\a<=((l.map f).length:Int)/\((l.map f).length:Int)<=((l.map f).length:Int):=by
 rw[X10];exact Ce h
theorem KT {α:Type}{l:List α}{a n:Nat}{f:α->D}:((l.map f).drop a).take n=List.map f ((l.drop a).take n):=by simp
theorem Ja {α:Type}{l:List α}{a n:Nat}{i:Int}{v:α}(h:geti ((l.drop a).take n) i=some v):0<=i/\i<(n:Int):=by
 unfold geti at h
 split at h
 ·rename_i hq
  have:((l.drop a).take n).length<=n:=List.length_take_le _ _
  omega
 simp at h
theorem JV {α:Type}{l:List α}{a n:Nat}{i:Int}{v:α}{f:α->D}(h:geti ((l.drop a).take n) i=some v):(l.map f).getD (a+i.toNat) default=f v:=by
 unfold geti at h
 split at h
 ·rename_i hq
  rw[List.getElem?_take,if_pos (by have:((l.drop a).take n).length<=n:=List.length_take_le _ _;omega),List.getElem?_drop] at h
  simp[List.getD_eq_getElem?_getD,h]
 simp at h
theorem Zc {α:Type}{f:α->D}{l:List α}{a n:Nat}:((l.map f).drop a).take n=((l.drop a).take n).map f:=by simp
theorem RU {α:Type}{l v:List α}{a b:Int}{f:α->D}(h:part l a b=some v):0<=a/\a<=b/\b<=b/\b<=((l.map f).length:Int):=by
 have:=XQ (f:=f) h
 exact⟨this.1,this.2.1,Int.le_refl _,this.2.2⟩
theorem bQ {α:Type}{l v:List α}{a:Int}{f:α->D}(h:part l a l.length=some v):0<=a/\a<=((l.map f).length:Int)/\((l.map f).length:Int)<=((l.map f).length:Int)/\((l.map f).length:Int)<=((l.map f).length:Int):=by
 have:=Xn (f:=f) h
 exact⟨this.1,this.2.1,Int.le_refl _,Int.le_refl _⟩
theorem UH {α:Type}{l:List α}{a n:Nat}{z:α}{f:α->D}:(l.map f).take a++List.replicate n (f z)++(l.map f).drop (a+n)=List.map f (l.take a++List.replicate n z++l.drop (a+n)):=by simp
def cpy {α:Type}(l:List α)(a n:Nat)(s:List α):List α:=l.take a++s.take n++l.drop (a+min s.length n)
theorem cq {α:Type}{l s:List α}{f:α->D}:(l.map f).take 0++(s.map f).take (l.map f).length++(l.map f).drop (0+min (s.map f).length (l.map f).length)=List.map f (cpy l 0 l.length s):=by simp[cpy]
theorem dU {α:Type}{l s:List α}{f:α->D}:min (s.map f).length (l.map f).length=min s.length l.length:=by simp
def cw (s s':ASt):List AV->List D->Prop
 | [],[]=>True
 | a::l,y::l'=>(y.isAgg=false/\AvW s s' a (.d y))/\cw s s' l l'
 | _,_=>False
theorem RO {s s':ASt} :∀{cs:List AV} {ys:List D},cw s s' cs ys->ys.length=cs.length
 | [],[],_=>rfl
 | _::_,_::_,h=>by simp[RO h.2]
theorem Qs {s s':ASt} :∀{cs:List AV} {ys:List D},cw s s' cs ys->∀i (hi:i<cs.length) (hi':i<ys.length),ys[i].isAgg=false/\AvW s s' cs[i] (.d ys[i])
 | [],[],_,i,hi,_=>by simp at hi
 | _::_,_::_,h,0,_,_=>h.1
 | _::_,_::_,h,i+1,hi,hi'=>Qs h.2 i (by simpa using hi) (by simpa using hi')
theorem _root_.Go.AX.AvW.box {s s':ASt}(r:Nat)(cs:List AV)(ys:List D)(sz:Nat)(h:s.ob.getD r none=some (.box cs))(h':s'.ob.getD r none=none)(hsz:sz=cs.length)(hp:0<cs.length)(hc:cw s s' cs ys):AvW s s' (.own r 1) (.d (.lst sz [.agg ys])):=
 .lstB r cs ys sz h h' hsz (RO hc) hp (fun i hi hi'=>(Qs hc i hi hi').2) fun i hi=>(Qs hc i (by rw[<- RO hc];exact hi) hi).1
def aw (s s':ASt):List AV->List AV->Prop
 | [],[]=>True
 | a::l,y::l'=>AvW s s' a y/\aw s s' l l'
 | _,_=>False
def ZR:List AV->Bool
 | []=>true
 | a::l=>a.one&&ZR l
def dw (s s':ASt):List D->List AV->Prop
 | [],[]=>True
 | a::l,y::l'=>AvW s s' (.d a) y/\dw s s' l l'
 | _,_=>False
theorem OV {s s':ASt} :∀{cs cs':List AV},aw s s' cs cs'->cs.length=cs'.length/\∀i (hi:i<cs.length) (hi':i<cs'.length),AvW s s' cs[i] cs'[i]
 | [],[],_=>⟨rfl,fun i hi=>by simp at hi⟩
 | _::_,_::_,h=>⟨by simp[(OV h.2).1],fun i hi hi'=>match i,hi,hi' with
  | 0,_,_=>h.1
  | i+1,hi,hi'=>(OV h.2).2 i (by simpa using hi) (by simpa using hi')⟩
theorem U4 {s s':ASt} :∀{cs:List D} {cs':List AV},dw s s' cs cs'->cs.length=cs'.length/\∀i (hi:i<cs.length) (hi':i<cs'.length),AvW s s' (.d cs[i]) cs'[i]
 | [],[],_=>⟨rfl,fun i hi=>by simp at hi⟩
 | _::_,_::_,h=>⟨by simp[(U4 h.2).1],fun i hi hi'=>match i,hi,hi' with
  | 0,_,_=>h.1
  | i+1,hi,hi'=>(U4 h.2).2 i (by simpa using hi) (by simpa using hi')⟩
theorem Rm :∀{cs:List AV},ZR cs=true->∀i (hi:i<cs.length),cs[i].one=true
 | _::_,h,0,_=>by simp only[ZR,X27] at h;exact h.1
 | _::_,h,i+1,hi=>by simp only[ZR,X27] at h;exact Rm h.2 i (by simpa using hi)
theorem _root_.Go.AX.AvW.tupL {s s':ASt}{cs cs':List AV}(h:aw s s' cs cs'):AvW s s' (.tup cs) (.tup cs'):=.tup cs cs' (OV h).1 (OV h).2
theorem _root_.Go.AX.AvW.aggL {s s':ASt}{cs cs':List AV}(h1:ZR cs'=true)(h:aw s s' cs cs'):AvW s s' (.agg cs) (.agg cs'):=.agg cs cs' (OV h).1 (OV h).2 (Rm h1)
theorem _root_.Go.AX.AvW.daggL {s s':ASt}{cs:List D}{cs':List AV}(h1:ZR cs'=true)(h:dw s s' cs cs'):AvW s s' (.d (.agg cs)) (.agg cs'):=.dagg cs cs' (U4 h).1 (U4 h).2 (Rm h1)
theorem _root_.Go.AX.AvW.aggDL {s s':ASt}{cs:List AV}{ys:List D}(h:cw s s' cs ys):AvW s s' (.agg cs) (.d (.agg ys)):=.aggD cs ys (RO h).symm (fun i hi hi'=>(Qs h i hi hi').2) fun i hi=>(Qs h i (by rw[<- RO h];exact hi) hi).1
theorem eP {α:Type}{g:α->D}{b n:Nat}{l ys r:List α}(h:apnd b (List.take n l) ys=some r)(hn:n<=l.length):(n+(List.map g ys).length)*b<=2^47/\n+(List.map g ys).length<=2^47:=by
 have:=UD (f:=g) (g:=g) h
 simp only[X10,X18,Nat.min_eq_left hn] at this ⊢
 exact this
theorem ew {α:Type}{f:α->D}{b n:Nat}{l ys r:List α}(h:apnd b (List.take n l) ys=some r):List.take n (List.map f l)++List.map f ys=List.map f r:=by
 have:=Zv (f:=f) h
 rw[<- this,List.map_take]
theorem Zz {x:Int}:Bm (.int .i64) (D.i x) []=some none:=rfl
theorem G2 {x k:Int}{v:D}{l:List (D×D)}(h:(x==k)=true):Bm (.int .i64) (D.i x) ((D.i k,v)::l)=some (some v):=by
 have e:D5 (.int .i64) (D.i x) (D.i k)=some true:=by simp[D5,D.i,h]
 simp only[Bm,e]
theorem Ar {x k:Int}{v:D}{l:List (D×D)}{q:Option (Option D)}(h:¬ (x==k)=true)(hq:Bm (.int .i64) (D.i x) l=q):Bm (.int .i64) (D.i x) ((D.i k,v)::l)=q:=by
 have h:(x==k)=false:=by simpa using h
 have e:D5 (.int .i64) (D.i x) (D.i k)=some false:=by simp[D5,D.i,h]
 simp only[Bm,e]
 exact hq
theorem PO {c:Prop}[Decidable c]{α:Type}{a b r:α}(g:c)(h:(if c then a else b)=r):a=r:=by rwa [if_pos g] at h
theorem PE {c:Prop}[Decidable c]{α:Type}{a b r:α}(g:¬ c)(h:(if c then a else b)=r):b=r:=by rwa [if_neg g] at h
theorem Xr {α:Type}{f:α->D}{l:List α}{i:Int}{v:α}(h:geti l i=some v):Int.toNat i<(List.map f l).length:=by
 have:=BM (f:=f) h
 omega
theorem BH {τ ρ:Type}{np:Nat}{t:ASt}{St:τ->ASt}{k:τ->Option ρ}{r:ρ}{v:τ}(hw:Weak np t (St v))(h:k v=some r) :∃s,Weak np t s/\∃v,k v=some r/\s=St v:=
 ⟨_,hw,v,h,rfl⟩
theorem Aa {np:Nat}{body:(AE->ASt->Prop)->ASt->Prop}{K:AE->ASt->Prop}{st:ASt}{α σ ρ:Type}{done:σ->Option ρ}{bd:(σ->Option ρ)->α->Nat->σ->Option ρ}{l:List α}{s0:σ}{r:ρ}
  (slot sz:Nat) (enc:α->D) (hs:st.tm.getD slot .dead=.d (.lst sz (l.map enc))) (St:Nat->σ->ASt) (hw:Weak np st (St 0 s0))
  (hend :∀(s:σ) (K':ASt->Prop),done s=some r->body (onL K K') (St l.length s))
  (hstep :∀(next:σ->Option ρ) (i:Nat) (x:α) (s:σ) (K':ASt->Prop),i<l.length->(l.map enc).getD i default=enc x->IntKind.i64.wrap ((i:Int)+1)=((i+1:Nat):Int)->bd next x i s=some r->
   (∀t v,Weak np t (St (i+1) v)->next v=some r->K' t)->body (onL K K') (St i s)):Ak done bd l 0 s0=some r->LoopP np body K st:=by
 intro h
 refine .mk fun hb _=>?_
 have hl:l.length<=9223372036854775807:=by simpa using hb slot sz _ hs
 refine⟨fun s n=>∃(i:Nat) (v:σ),n=l.length-i/\i<=l.length/\Ak done bd (l.drop i) i v=some r/\s=St i v,⟨St 0 s0,l.length,hw,0,s0,by simp,by simp,by simpa using h,rfl⟩,?_⟩
 rintro _ n ⟨i,v,hn,hi,hf,rfl⟩
 by_cases he:i=l.length
 ·subst he
  simp only[List.drop_length,Ak] at hf
  exact hend v _ hf
 have hlt:i<l.length:=by omega
 rw[List.drop_eq_getElem_cons hlt] at hf
 simp only[Ak] at hf
 exact hstep _ i l[i] v _ hlt (by simp[hlt]) (U2 (by omega) ⟨by omega,by omega⟩) hf
  fun t v' hw' hn'=>⟨_,l.length-(i+1),by omega,hw',i+1,v',rfl,by omega,hn',rfl⟩
theorem Nh {np:Nat}{body:(AE->ASt->Prop)->ASt->Prop}{K:AE->ASt->Prop}{st:ASt}{α σ ρ:Type}{done:σ->Option ρ}{bd:(σ->Option ρ)->α->Nat->σ->Option ρ}{l:List α}{s0:σ}{r:ρ}
  (slot e sz:Nat) (fz:FZ) (enc:α->D) (hs:st.ob.getD slot none=some (.row e sz (l.map enc) fz)) (St:Nat->σ->ASt) (hw:Weak np st (St 0 s0))
  (hend :∀(s:σ) (K':ASt->Prop),done s=some r->body (onL K K') (St l.length s))
  (hstep :∀(next:σ->Option ρ) (i:Nat) (x:α) (s:σ) (K':ASt->Prop),i<l.length->(l.map enc).getD i default=enc x->IntKind.i64.wrap ((i:Int)+1)=((i+1:Nat):Int)->bd next x i s=some r->
   (∀t v,Weak np t (St (i+1) v)->next v=some r->K' t)->body (onL K K') (St i s)):Ak done bd l 0 s0=some r->LoopP np body K st:=by
 intro h
 refine .mk fun _ hb=>?_
 have hl:l.length<=9223372036854775807:=by simpa using hb slot _ _ _ _ hs
 refine⟨fun s n=>∃(i:Nat) (v:σ),n=l.length-i/\i<=l.length/\Ak done bd (l.drop i) i v=some r/\s=St i v,⟨St 0 s0,l.length,hw,0,s0,by simp,by simp,by simpa using h,rfl⟩,?_⟩
 rintro _ n ⟨i,v,hn,hi,hf,rfl⟩
 by_cases he:i=l.length
 ·subst he
  simp only[List.drop_length,Ak] at hf
  exact hend v _ hf
 have hlt:i<l.length:=by omega
 rw[List.drop_eq_getElem_cons hlt] at hf
 simp only[Ak] at hf
 exact hstep _ i l[i] v _ hlt (by simp[hlt]) (U2 (by omega) ⟨by omega,by omega⟩) hf
  fun t v' hw' hn'=>⟨_,l.length-(i+1),by omega,hw',i+1,v',rfl,by omega,hn',rfl⟩
theorem CO {α:Type}{l:List α}{i:Nat}(h:i<l.length):decide ((i:Int)<(l.length:Int))=true:=by simpa using h
theorem CX {α:Type}{l:List α}:decide ((l.length:Int)<(l.length:Int))=false:=by simp
theorem BD {α β:Type}{f:α->β}{l:List α}{i:Nat}(h:i<l.length):0<=(i:Int)/\(i:Int)<((l.map f).length:Int):=⟨by omega,by simpa using h⟩
theorem AZ {np:Nat}{body:(AE->ASt->Prop)->ASt->Prop}{K:AE->ASt->Prop}{st:ASt}{σ ρ:Type}{bd:(σ->Option ρ)->σ->Option ρ}{n:Nat}{s0:σ}{r:ρ}
  (St:σ->ASt) (hw:Weak np st (St s0))
  (hstep :∀(next:σ->Option ρ) (s:σ) (K':ASt->Prop),bd next s=some r->(∀t v,Weak np t (St v)->next v=some r->K' t)->body (onL K K') (St s)):Ao bd n s0=some r->LoopP np body K st:=by
 intro h
 refine .mk fun _ _=>⟨fun s n=>∃v,Ao bd n v=some r/\s=St v,⟨St s0,n,hw,s0,h,rfl⟩,?_⟩
 rintro _ m ⟨v,hf,rfl⟩
 cases m with
 | zero=>cases hf
 | succ m=>exact hstep _ v _ hf fun t v' hw' hn'=>⟨_,m,Nat.lt_succ_self m,hw',v',hn',rfl⟩
def Qn (ps:List Nat)(acc:List Nat):Nat:=ps.foldl (fun m j=>m ||| 2^j ||| acc.getD (acc.length-1-j) 0) 0
def ZX:List Oper->List Nat->List Nat
 | [],acc=>acc
 | o::l,acc=>ZX l (Qn (Cj o) acc::acc)
def UV (ops:Array Oper)(o:Oper)(m:Nat):List Oper->Bool
 | []=>true
 | q::prev=>(m.testBit prev.length || q.apart ops o)&&UV ops o m prev
def drawB.go (ops:Array Oper):List Oper->List Oper->List Nat->Bool
 | [],_,_=>true
 | o::l,prev,masks=>(Cj o).all (fun j=>Nat.blt j prev.length)&&(match o.op with | .select _ _=>false | _=>true)&&UV ops o (Qn (Cj o) masks) prev &&
   drawB.go ops l (o::prev) (Qn (Cj o) masks::masks)
def drawB (ops:Array Oper):Bool:=drawB.go ops ops.toList [] []
theorem KW :∀(a b:List Oper) (acc:List (List Nat)),IC (a++b) acc=IC b (IC a acc)
 | [],_,_=>rfl
 | o::a,b,acc=>KW a b _
theorem PR :∀(l:List Oper) (acc:List (List Nat)),∃p,IC l acc=p++acc/\p.length=l.length
 | [],acc=>⟨[],rfl,rfl⟩
 | o::l,acc=>by
  obtain⟨p,h1,h2⟩:=PR l (((Cj o).flatMap fun j=>j::acc.getD (acc.length-1-j) [])::acc)
  exact⟨p++[(Cj o).flatMap fun j=>j::acc.getD (acc.length-1-j) []],by rw[IC,h1];simp,by simp[h2]⟩
def MaskR (masks:List Nat)(acc:List (List Nat)):Prop:=masks.length=acc.length/\∀k j,(masks.getD k 0).testBit j=true->j∈acc.getD k []
theorem RH {masks:List Nat}{acc:List (List Nat)}(h:MaskR masks acc)(ps:List Nat)(j:Nat)(hj:(Qn ps masks).testBit j=true):j∈ps.flatMap fun j=>j::acc.getD (acc.length-1-j) []:=by
 have key :∀(ps:List Nat) (m:Nat),(ps.foldl (fun m j=>m ||| 2^j ||| masks.getD (masks.length-1-j) 0) m).testBit j=true->
   m.testBit j=true\/j∈ps.flatMap fun j=>j::acc.getD (acc.length-1-j) []:=by
  intro ps
  induction ps with
  | nil=>intro m h;exact .inl h
  | cons p ps ih=>
   intro m hm
   simp only[List.foldl_cons] at hm
   rcases ih _ hm with g | g
   ·simp only[Nat.testBit_or,Bool.or_eq_true,Nat.testBit_two_pow,decide_eq_true_eq] at g
    rcases g with (g | g)|g
    ·exact .inl g
    ·subst g;exact .inr (by simp)
    rw[h.1] at g
    have:=h.2 _ _ g
    exact .inr (by simp only[List.flatMap_cons,X23,List.mem_cons];exact .inl (.inr this))
   exact .inr (by simp only[List.flatMap_cons,X23];exact .inr g)
 rcases key ps 0 hj with g | g
 ·simp at g
 exact g
theorem MaskR.cons {masks:List Nat}{acc:List (List Nat)}(h:MaskR masks acc)(ps:List Nat):MaskR (Qn ps masks::masks) ((ps.flatMap fun j=>j::acc.getD (acc.length-1-j) [])::acc):=by
 refine⟨by simp[h.1],fun k j hk=>?_⟩
 cases k with
 | zero=>exact RH h ps j hk
 | succ k=>exact h.2 k j hk
theorem ZZ :∀(l:List Oper) {masks:List Nat} {acc:List (List Nat)},MaskR masks acc->MaskR (ZX l masks) (IC l acc)
 | [],_,_,h=>h
 | o::l,_,_,h=>ZZ l (h.cons (Cj o))
theorem Td {ops:Array Oper}{o:Oper}{m:Nat} :∀{prev:List Oper},UV ops o m prev=true->∀j q,j<prev.length->prev.reverse[j]?=some q->m.testBit j=true\/q.apart ops o=true
 | [],_,j,q,hj,_=>by simp at hj
 | p::prev,h,j,q,hj,hq=>by
  simp only[UV,X27,Bool.or_eq_true] at h
  simp only[List.reverse_cons] at hq
  by_cases he:j=prev.length
  ·subst he
   rw[List.getElem?_append_right (by simp)] at hq
   simp at hq
   subst hq
   exact h.1
  have hlt:j<prev.length:=by simp at hj;omega
  rw[List.getElem?_append_left (by simpa using hlt)] at hq
  exact Td h.2 j q hlt hq
theorem TP {ops:Array Oper} :∀(l prev:List Oper) (masks:List Nat),prev.reverse++l=ops.toList->MaskR masks (IC prev.reverse [])->drawB.go ops l prev masks=true->
  ∀i o,prev.length<=i->ops[i]?=some o->((Cj o).all (fun j=>Nat.blt j i)&&(match o.op with | .select _ _=>false | _=>true) &&
   (List.range i).all fun j=>(GE ops i).contains j || (match ops[j]? with
    | none=>false
    | some q=>q.apart ops o))=true
 | [],prev,masks,hl,_,_,i,o,hi,ho=>by
  have:ops.toList.length=prev.length:=by rw[<- hl];simp
  simp only[Array.length_toList] at this
  have:=(Array.getElem?_eq_some_iff.1 ho).1
  omega
 | q::l,prev,masks,hl,hR,h,i,o,hi,ho=>by
  simp only[drawB.go,X27] at h
  obtain⟨⟨⟨h1,h2⟩,h3⟩,h4⟩:=h
  by_cases he:i=prev.length
  ·subst he
   have ho':ops.toList[prev.length]?=some o:=by simpa using ho
   rw[<- hl,List.getElem?_append_right (by simp)] at ho'
   simp at ho'
   subst ho'
   have ha:GE ops prev.length=(Cj q).flatMap fun j=>j::(IC prev.reverse []).getD ((IC prev.reverse []).length-1-j) []:=by
    unfold GE
    rw[<- hl,KW,IC]
    obtain⟨p,hp,hpl⟩:=PR l (((Cj q).flatMap fun j=>j::(IC prev.reverse []).getD ((IC prev.reverse []).length-1-j) [])::IC prev.reverse [])
    have hs:ops.size-1-prev.length=p.length:=by
     have:ops.toList.length=prev.length+(l.length+1):=by rw[<- hl];simp
     simp only[Array.length_toList] at this
     omega
    rw[hp,hs]
    simp
   simp only[X27]
   refine⟨⟨h1,h2⟩,?_⟩
   rw[List.all_eq_true]
   intro j hj
   have hj:=List.mem_range.1 hj
   have hjs :∃p,ops[j]?=some p/\prev.reverse[j]?=some p:=by
    have hlt:j<prev.reverse.length:=by simpa using hj
    refine⟨prev.reverse[j],?_,X15 hlt⟩
    have:ops.toList[j]?=some prev.reverse[j]:=by rw[<- hl,List.getElem?_append_left hlt,X15 hlt]
    simpa using this
   obtain⟨p,hp1,hp2⟩:=hjs
   rw[Bool.or_eq_true]
   rcases Td h3 j p hj hp2 with g | g
   ·left
    rw[ha]
    simpa using RH hR (Cj q) j g
   right
   rw[hp1]
   exact g
  refine TP l (q::prev) _ (by simpa using hl) ?_ h4 i o (by simp;omega) ho
  rw[List.reverse_cons,KW]
  exact hR.cons (Cj q)
theorem VC {ops:Array Oper}(h:drawB ops=true):HJ ops=true:=by
 unfold HJ
 rw[List.all_eq_true]
 intro i hi
 have hi:=List.mem_range.1 hi
 have:=TP ops.toList [] [] (by simp) ⟨rfl,fun k j hk=>by simp at hk⟩ h i ops[i] (by simp) (by simp[hi])
 simp only[hi,getElem?_pos]
 exact this
def confB.conf (M:List Nat)(n i:Nat)(fp wr:List Nat):Nat->List (List Nat×List Nat)->Bool
 | _,[]=>true
 | j,(fp',wr')::l=>((M.getD (n-1-j) 0).testBit i || ((wr.all fun r=>!fp'.contains r)&&fp.all fun r=>!wr'.contains r))&&confB.conf M n i fp wr (j+1) l
def confB.go (M:List Nat)(n:Nat):Nat->List (List Nat×List Nat)->Bool
 | _,[]=>true
 | i,(fp,wr)::l=>confB.conf M n i fp wr (i+1) l&&confB.go M n (i+1) l
def confB (ops:Array Oper)(evs:List (List Nat×List Nat)):Bool:=confB.go (ZX ops.toList []) ops.size 0 evs
theorem af {ops:Array Oper}{evs:List (List Nat×List Nat)}(h:confB ops evs=true):FT ops 0 evs=true:=by
 have hR:=ZZ ops.toList (masks:=[]) (acc:=[]) ⟨rfl,fun k j hk=>by simp at hk⟩
 have c :∀(l:List (List Nat×List Nat)) (i:Nat) (fp wr:List Nat) (j:Nat),confB.conf (ZX ops.toList []) ops.size i fp wr j l=true->FT.conf ops i fp wr j l=true:=by
  intro l
  induction l with
  | nil=>intro i fp wr j _;rfl
  | cons x l ih=>
   intro i fp wr j hc
   obtain⟨fp',wr'⟩:=x
   simp only[confB.conf,X27] at hc
   simp only[FT.conf,X27]
   refine⟨?_,ih _ _ _ _ hc.2⟩
   have hc1:=hc.1
   rw[Bool.or_eq_true] at hc1 ⊢
   rcases hc1 with g | g
   ·exact .inl (by simpa[GE] using hR.2 _ _ g)
   exact .inr g
 have g :∀(l:List (List Nat×List Nat)) (i:Nat),confB.go (ZX ops.toList []) ops.size i l=true->FT ops i l=true:=by
  intro l
  induction l with
  | nil=>intro i _;rfl
  | cons x l ih=>
   intro i hc
   obtain⟨fp,wr⟩:=x
   simp only[confB.go,X27] at hc
   simp only[FT,X27]
   exact⟨c _ _ _ _ _ hc.1,ih _ hc.2⟩
 exact g _ _ h
theorem dOB {ops:Array Oper}{K:Prop}(h:drawB ops=true)(k:K):HJ ops=true/\K:=⟨VC h,k⟩
theorem tOB {ops:Array Oper}{K:Prop}(h:(drawB ops&&UT ops)=true)(k:K):(HJ ops=true/\UT ops=true)/\K:=by
 simp only[X27] at h
 exact⟨⟨VC h.1,h.2⟩,k⟩
theorem cOB {ops:Array Oper}{e:List (List Nat×List Nat)}{K:Prop}(h:confB ops e=true)(k:K):FT ops 0 e=true/\K:=⟨af h,k⟩
theorem BG (x:UInt8):IntKind.i64.wrap (x.toNat:Int)=(x.toNat:Int):=by
 have:=x.toNat_lt
 exact U2 rfl ⟨by omega,by omega⟩
def Am (x:Int):UInt8:=UInt8.ofNat (x%256).toNat
def Ad (x:Int):UInt64:=UInt64.ofNat (x%18446744073709551616).toNat
theorem Ae (x:Int):IntKind.u8.wrap x=((Am x).toNat:Int):=by
 have e:(2^IntKind.u8.bits:Int)=256:=by decide
 simp only[IntKind.wrap,IntKind.signed,e,Am,UInt8.toNat_ofNat']
 simp
 omega
theorem Aw (x:Int):IntKind.u64.wrap x=((Ad x).toNat:Int):=by
 have e:(2^IntKind.u64.bits:Int)=18446744073709551616:=by decide
 simp only[IntKind.wrap,IntKind.signed,e,Ad,UInt64.toNat_ofNat']
 simp
 omega
theorem RS {n:Int}(h:0<=n/\n<256):((Am n).toNat:Int)=n:=by
 simp only[Am,UInt8.toNat_ofNat'];simp;omega
theorem Wb {n:Int}(h:0<=n/\n<18446744073709551616):((Ad n).toNat:Int)=n:=by
 simp only[Ad,UInt64.toNat_ofNat'];simp;omega
theorem Q6 {n m:Nat}(s:Nat)(h:n<m):0<=(n:Int).fdiv (2^s)/\(n:Int).fdiv (2^s)<m:=by
 have e:(2^s:Int)=((2^s:Nat):Int):=by simp
 rw[e,Int.fdiv_eq_ediv_of_nonneg _ (Int.natCast_nonneg _),<- Int.natCast_ediv]
 have:=Nat.div_le_self n (2^s)
 generalize n/2^s=q at *
 omega
theorem dn (x:UInt8)(s:Nat):(x.toNat:Int).fdiv (2^s)=((Am ((x.toNat:Int).fdiv (2^s))).toNat:Int):=(RS (Q6 s x.toNat_lt)).symm
theorem N4 (x:UInt64)(s:Nat):(x.toNat:Int).fdiv (2^s)=((Ad ((x.toNat:Int).fdiv (2^s))).toNat:Int):=(Wb (Q6 s x.toNat_lt)).symm
end Go.AX
end
section
namespace Go.AX
open Go.RowKit Go.Deep Go.ChangeShapes Go.WideShapes Go.ChangeAt
section
variable {H:Type} {enc:TypeId×Value->H} {P:Program} {w:World} {L:Lim H P}
theorem ReadsL.map' {t:Nat}{α β:Type}{cells:α->List D}{ok:α->Prop}(h:ReadsL L enc w t cells ok){cells':β->List D}{ok':β->Prop}(g:α->β)(hc :∀a,ok a->cells' (g a)=cells a)(hk :∀a,ok a->ok' (g a)):ReadsL L enc w t cells' ok':=by
 intro fuel cs x hx hw
 obtain⟨a,h1,h2⟩:=h fuel cs x hx hw
 exact⟨g a,hk a h1,by rw[hc a h1];exact h2⟩
theorem Vv {k:IntKind}{n:Int}(h:(Lit.int k n).wf=true):k.min<=n/\n<=k.max:=by simpa[Lit.wf] using h
theorem reads_i64 {t:Nat}(ht:P.underlying t=some (.int .i64)):ReadsL L enc w t (fun n:Int=>[D.i n]) I64:=
 (TY ht).map' id (fun _ _=>rfl) fun a h=>by
  have:=Vv h
  simpa[IntKind.min,IntKind.max,IntKind.signed,IntKind.bits,I64] using this
theorem reads_u8 {t:Nat}(ht:P.underlying t=some (.int .u8)):ReadsL L enc w t (fun n:UInt8=>[D.u8 n]) (fun _=>True):=
 (TY ht).map' Am (fun a h=>by
  have:=Vv h
  have:=RS (n:=a) (by simp[IntKind.min,IntKind.max,IntKind.signed,IntKind.bits] at this;omega)
  simp only[D.u8,this]) fun _ _=>trivial
theorem open_one {t:Nat}{td:TypeDesc}(ht:P.underlying t=some td)(hk:(match td with | .int _ | .bool | .string | .slice _=>true | _=>false)=true){α:Type}{c:α->D}{ok:α->Prop}(h:ReadsL L enc w t (fun a=>[c a]) ok){base:Nat}{v:Value}{d:DataW H}{p:List MemPlace}
  (hval:Value.okWide P w .any base t v) (hv:DataW.Trod enc P w 0 (fun _=>true) true t v d p) (hw:L.W t d) :∃x,ok x/\RepA (Old w) w (fun _=>none) (ofL []) (.d (c x)) v:=by
 obtain⟨fuel,hf⟩:=hv
 obtain⟨x,h1,h2⟩:=h fuel _ _ hf hw
 refine⟨x,h1,.d _ _ (RepI.val (?_:RepI w [c x] [v]))⟩
 have hna :∀cs,v≠.agg cs:=by
  rintro cs rfl
  unfold Value.okWide at hval
  rw[ht] at hval
  cases td<;>simp at hk<;>simp[Cell.okWide,Cell.ok,ht] at hval
 have:v.cells.toList=[v]:=by
  cases v<;>first | rfl | (rename_i cs;exact absurd rfl (hna cs))
 rwa [this] at h2
inductive Opened (w:World):List Value->List AV->Prop
 | nil:Opened w [] []
 | cons {v:Value} {x:D} {vs:List Value} {avs:List AV} (h:RepA (Old w) w (fun _=>none) (ofL []) (.d x) v) (t:Opened w vs avs):Opened w (v::vs) (.d x::avs)
theorem Opened.get {vs:List Value}{avs:List AV}(h:Opened w vs avs):vs.length=avs.length/\∀i (hi:i<avs.length),RepA (Old w) w (fun _=>none) (ofL []) avs[i] (vs.getD i undef)/\Closed (ofL []) avs[i]:=by
 induction h with
 | nil=>exact⟨rfl,fun i hi=>by simp at hi⟩
 | cons h t ih=>
  refine⟨by simp[ih.1],fun i hi=>?_⟩
  cases i with
  | zero=>exact⟨h,BL _ _⟩
  | succ i=>simpa using ih.2 i (by simpa using hi)
theorem Lq (hl:laidOutB P=true){W W':World}(hb:Below W.heap.size W W') :∀{ts:List TypeId} {vs:List Value} {ds:List (DataW H)} {ps:List MemPlace},
  (ts.all fun t=>P.readableRec t&&decide (t<P.types.size))=true->DataW.TrodAll enc P W 0 (fun _=>true) true ts vs ds ps->DataW.TrodAll enc P W' 0 (fun b=>decide (b<W.heap.size)) true ts vs ds ps
 | [],[],[],_,_,h=>h
 | t::ts,v::vs,d::ds,ps,hr,h=>by
  have hlt:=h.lt
  obtain⟨p,q,h1,h2,rfl⟩:=h
  simp only[List.all_cons,X27,decide_eq_true_eq] at hr
  exact⟨p,q,Below.trod hl hr.1.1 hr.1.2 h1 hb fun x hx=>hlt x (by simp[hx]),Lq hl hb hr.2 h2,rfl⟩
 | [],[],_::_,_,_,h=>h.elim
 | [],_::_,_,_,_,h=>h.elim
 | _::_,[],_,_,_,h=>h.elim
 | _::_,_::_,[],_,_,h=>h.elim
theorem trodAll_length :∀{ts:List TypeId} {vs:List Value} {ds:List (DataW H)} {ps:List MemPlace} {sp:Nat->Bool},DataW.TrodAll enc P w 0 sp true ts vs ds ps->ds.length=ts.length/\vs.length=ts.length
 | [],[],[],_,_,_=>⟨rfl,rfl⟩
 | t::ts,v::vs,d::ds,_,_,h=>by
  obtain⟨p,q,_,h2,_⟩:=h
  obtain⟨a,b⟩:=trodAll_length h2
  exact⟨by simp[a],by simp[b]⟩
 | [],[],_::_,_,_,h=>h.elim
 | [],_::_,_,_,_,h=>h.elim
 | _::_,[],_,_,_,h=>h.elim
 | _::_,_::_,[],_,_,h=>h.elim
theorem QB {X:World->Prop}{wl:WL}{C:Checked}{L:Lim H C.prog}{f:FuncId}{fn:Func}{s:ChangeSpec}{b:TypeId}(hl:laidOutB C.prog=true)(hvars:s.vars=[])(hfn :∀ds:List (DataW H),ds.length=fn.params.size->s.fn H (ds++[])={ results:=[.lit (.bool true)],args:=ds })
  (hres:fn.resultTypes=#[b]) (hb:C.prog.underlying b=some .bool) (hread:(fn.params.toList.all fun t=>C.prog.readableRec t&&decide (t<C.prog.types.size))=true)
  (law :∀(W:World),X W->∀(base:Nat) (args:Array Value) (ds:List (DataW H)) (p:List MemPlace),(∀(j:Nat) t v,fn.params[j]?=some t->args[j]?=some v->Value.okWide C.prog W .any base t v)->
   DataW.TrodAll enc C.prog W 0 (fun _=>true) true fn.params.toList args.toList ds p->(∀(j:Nat) t d,fn.params.toList[j]?=some t->ds[j]?=some d->L.W t d)->∃avs,Opened W args.toList avs/\CallsOK wl C.prog f avs [] (.b true) []/\∃gb:Nat->Prop,wl.gf gb W/\∀b,gb b->b<W.heap.size) :
  ∀(W:World),X W->∀(base:Nat) (args:Array Value) (ds gs:List (DataW H)) (before:List MemPlace),
   (∀(j:Nat) t v,fn.params[j]?=some t->args[j]?=some v->Value.okWide C.prog W .any base t v)->
   DataW.Whole enc C.prog fn.params.toList s.vars false W args.toList ds gs before->
   (∀(j:Nat) t d,fn.params.toList[j]?=some t->ds[j]?=some d->L.W t d)->
   Calls C.prog f args W fun e W'=>∃v,e=.returned v/\s.post enc C.prog fn false true false false W args v W':=by
 intro W hX base args ds gs before hval hW hwt
 have hW':=hW
 obtain⟨p,q,hA,hV,rfl,hfz,hnd⟩:=hW
 rw[hvars] at hV
 obtain⟨rfl,rfl⟩:=trodVars_none hV
 have hd:ds.length=fn.params.size:=by simpa using (trodAll_length hA).1
 obtain⟨avs,h1,h2,gb,hgb⟩:=law W hX base args ds p hval hA hwt
 obtain⟨o1,o2⟩:=h1.get
 refine (ZP h2 W hgb args (by simpa using o1) fun i hi=>by simpa[<- Array.getElem?_toList] using o2 i hi).mono fun e W' ⟨he,bel⟩=>?_
 subst he
 refine⟨_,rfl,ds,[],p++[],[],p,[],hW',?_,?_,?_,bel.frame _,fun h=>by cases h⟩
 ·rw[hfn ds hd,hres]
  exact trodAll_mk1 (shut_bool hb _)
 ·rw[hfn ds hd]
  exact Lq hl bel hread hA
 rw[hfn ds hd,hvars]
 rfl
theorem cH {P:Program}{ts vs:List TypeId}{ds gs:List (DataW H)}(h:(DataW.weightsEach P (ts++vs) (ds++gs)).all (·<=reachBytes)=true)(j:Nat)(t:TypeId)(d:DataW H)(ht:ts[j]?=some t)(hd:ds[j]?=some d):(Lim.reach H P).W t d:=
 List.all_eq_true.2 fun n hn=>List.all_eq_true.1 h n (DataW.weights_mem_each (j:=j) (by rw[List.getElem?_append_left (X16.1 ht).1];exact ht) (by rw[List.getElem?_append_left (X16.1 hd).1];exact hd) n hn)
end
end Go.AX
end
section
namespace Go.AX
open Go.WideElems
section
variable {H:Type} {enc:TypeId×Value->H} {P:Program} {w:World} {sp:Nat->Bool} {held:Bool} {t k e:TypeId}
theorem keyOf_int {kd:IntKind}(hk:P.underlying k=some (.int kd)){v:Value}{y:Lit}(h:keyOf P k v=some y) :∃n,v=.int kd n/\y=.int kd n:=by
 have h':mapKey P k v=some y:=by
  unfold keyOf at h
  rw[hk] at h
  exact h
 unfold mapKey at h'
 rw[hk] at h'
 cases v with
 | int q n=>
  simp only at h'
  split at h'
  ·rename_i hc
   obtain⟨rfl,_⟩:=hc
   exact⟨n,rfl,(X25 h').symm⟩
  cases h'
 | _=>simp at h'
theorem Vb {kd:IntKind}(ht:P.underlying t=some (.map k e))(hk:P.underlying k=some (.int kd)){fuel:Nat}{cs:List Value}{tab:List (Lit×DataW H)}{p:List MemPlace}
  (h:DataW.trod enc P w 0 sp held fuel t cs=some (.map tab,p)) (D2:Lit×DataW H->D×D)
  (hD :∀(n:Int) (v:Value) (d:DataW H) (m:Nat) (q:List MemPlace),(Lit.int kd n,d)∈tab->DataW.trod enc P w 0 sp held m e v.cells.toList=some (d,q)->v.formed P e=true->D2 (.int kd n,d)=(.val (.int kd n),.val v)/\v.oneCell'=true) :
  ∃b arr clock,cs=[.map (some b)]/\w.heap[b]?=some (.map arr clock)/\(arr.toList.map fun x=>(D.val x.key,D.val x.val)).Perm (tab.map D2)/\∀x∈arr.toList,x.key.oneCell'=true/\x.val.oneCell'=true:=by
 rcases open_map ht h with ⟨_,hx⟩|⟨b,arr,clock,n,_,hcs,hb,_,F,hx⟩
 ·simp at hx
 simp only[X26,DataW.map.injEq] at hx
 have hp:tab.Perm (arr.toList.map (rg P k (elemAt enc P w 0 sp held n e))):=by
  rw[hx.1];exact Go.WideShapes.sorted_perm _
 have hone :∀x∈arr.toList,D2 (rg P k (elemAt enc P w 0 sp held n e) x)=(D.val x.key,D.val x.val)/\x.key.oneCell'=true/\x.val.oneCell'=true:=by
  intro x hx
  obtain⟨⟨yl,yd⟩,hy⟩:=F.reads x hx
  have hmem:(yl,yd)∈tab:=hp.mem_iff.2 (List.mem_map.2 ⟨x,hx,rg_of hy⟩)
  rw[rg_of hy]
  have hkey:=rd_key hy
  obtain⟨m,h1,h2⟩:=keyOf_int hk hkey
  unfold rd at hy
  rw[hkey,Option.bind_some,Option.map_eq_some_iff] at hy
  obtain⟨⟨d,q⟩,hd,hy⟩:=hy
  simp only[X26,true_and] at hy
  subst hy
  unfold elemAt at hd
  split at hd
  ·rename_i hf
   dsimp only at h2
   subst h2
   obtain⟨g1,g2⟩:=hD m x.val d n q hmem hd hf
   rw[h1]
   exact⟨g1,rfl,g2⟩
  simp at hd
 refine⟨b,arr,clock,hcs,hb,?_,fun x hx=>(hone x hx).2⟩
 have e:(arr.toList.map fun x=>(D.val x.key,D.val x.val))=(arr.toList.map (rg P k (elemAt enc P w 0 sp held n e))).map D2:=by
  rw[List.map_map]
  exact List.map_congr_left fun x hx=>(hone x hx).1.symm
 rw[e]
 exact (hp.symm.map D2)
end
section
variable {H:Type} {enc:TypeId×Value->H} {P:Program} {w:World}
open Go.ChangeShapes Go.WideShapes Go.ChangeAt Go.RowKit
theorem frame_contractX {X:World->Prop}{wl:WL}{C:Checked}{f:FuncId}{fn:Func}{s:ChangeSpec}{b:TypeId}(hl:laidOutB C.prog=true)(hvars:s.vars=[])(hfn :∀ds:List (DataW H),ds.length=fn.params.size->s.fn H (ds++[])={ results:=[.lit (.bool true)],args:=ds })
  (hres:fn.resultTypes=#[b]) (hb:C.prog.underlying b=some .bool) (hread:(fn.params.toList.all fun t=>C.prog.readableRec t&&decide (t<C.prog.types.size))=true)
  (law :∀(W:World),X W->∀(base:Nat) (args:Array Value) (ds:List (DataW H)) (p:List MemPlace),(∀(j:Nat) t v,fn.params[j]?=some t->args[j]?=some v->Value.okWide C.prog W .any base t v)->
   DataW.TrodAll enc C.prog W 0 (fun _=>true) true fn.params.toList args.toList ds p->(∀(j:Nat) t d,fn.params.toList[j]?=some t->ds[j]?=some d->Wt C.prog t d)->∃avs,Opened W args.toList avs/\CallsOK wl C.prog f avs [] (.b true) []/\∃gb:Nat->Prop,wl.gf gb W/\∀b,gb b->b<W.heap.size) :
  ∀(W:World),X W->∀(base:Nat) (args:Array Value) (ds gs:List (DataW H)) (before:List MemPlace),
   (∀(j:Nat) t v,fn.params[j]?=some t->args[j]?=some v->Value.okWide C.prog W .any base t v)->
   DataW.Whole enc C.prog fn.params.toList s.vars false W args.toList ds gs before->
   (DataW.weightsEach C.prog (fn.params.toList++s.plain.varTypes C.prog) (ds++gs)).all (·<=reachBytes)=true->
   Calls C.prog f args W fun e W'=>∃v,e=.returned v/\s.post enc C.prog fn false true false false W args v W':=by
 intro W hX base args ds gs before hval hW hwt
 exact QB (L:=Lim.reach H C.prog) hl hvars hfn hres hb hread law W hX base args ds gs before hval hW (cH hwt)
end
theorem PX {tk:TK}{x:D}{l m:List (D×D)}(hp:l.Perm m)(hk :∀p∈l,∃n,p.1=.val (.int .i64 n))(hd:l.Pairwise fun a b=>a.1≠b.1){q:Option D}(h:Bm tk x l=some q):Bm tk x m=some q:=by
 induction hp generalizing q with
 | nil=>exact h
 | cons p hp ih=>
  simp only[Bm] at h ⊢
  have h1:=List.pairwise_cons.1 hd
  split at h
  ·exact h
  ·exact ih (fun p hp=>hk p (X19 _ hp)) h1.2 h
  cases h
 | swap a b l=>
  obtain⟨i,hi⟩:=hk b (by simp)
  obtain⟨j,hj⟩:=hk a (by simp)
  have hne:b.1≠a.1:=(List.pairwise_cons.1 hd).1 a (by simp)
  simp only[Bm,hi,hj] at h ⊢
  rw[hi,hj] at hne
  have hij:i≠j:=fun e=>hne (by rw[e])
  cases hx1:D5 tk x (.val (.int .i64 i)) with
  | none=>rw[hx1] at h;cases h
  | some b1=>
   have hx2 :∃b2,D5 tk x (.val (.int .i64 j))=some b2/\(b1=true->b2=false):=by
    unfold D5 at hx1 ⊢
    split at hx1
    ·rename_i kk a' kk' bb heq
     cases heq
     split at hx1
     ·rename_i hkk
      rw[if_pos hkk]
      refine⟨_,rfl,fun hb=>?_⟩
      obtain rfl:=X25 hx1
      simp only[beq_iff_eq] at hb
      subst hb
      simpa using hij
     cases hx1
    ·rename_i heq;cases heq
    ·rename_i heq;cases heq
    cases hx1
   obtain⟨b2,hx2,hb⟩:=hx2
   rw[hx1,hx2] at h
   rw[hx2]
   cases b1
   ·cases b2<;>exact h
   rw[hb rfl]
   exact h
 | trans h1 h2 ih1 ih2=>
  refine ih2 (fun p hp=>hk p (h1.mem_iff.2 hp)) ((h1.pairwise_iff fun h e=>h e.symm).1 hd) (ih1 hk hd h)
theorem TN {w:World}{arr:List MapEntry}(h :∀x∈arr,x.key.oneCell'=true/\x.val.oneCell'=true):EntsOK (fun _ _=>False) w (arr.map fun x=>(D.val x.key,D.val x.val)) arr:=by
 refine⟨by simp,fun i hi=>?_⟩
 have hi':i<arr.length:=by simpa using hi
 refine⟨arr[i],X15 hi',⟨arr[i].key,by simp,rfl,(h _ (List.getElem_mem hi')).1⟩,?_⟩
 simp only[List.getElem_map]
 exact .val _ (h _ (List.getElem_mem hi')).2
end Go.AX
end
section
namespace Go.AX
theorem Uz {α σ ρ:Type}{done:σ->Option ρ}{body:(σ->Option ρ)->α->Nat->σ->Option ρ}(P:List α->Nat->σ->Prop)(F:List α->Nat->σ->Option ρ)
  (hd :∀i s,P [] i s->done s=F [] i s)
  (hs :∀(next:σ->Option ρ) x t i s,P (x::t) i s->(∀s,P t (i+1) s->next s=F t (i+1) s)->body next x i s=F (x::t) i s) :
  ∀(l:List α) (i:Nat) (s:σ),P l i s->Ak done body l i s=F l i s
 | [],i,s,h=>hd i s h
 | x::t,i,s,h=>hs _ x t i s h fun s' h'=>Uz P F hd hs t (i+1) s' h'
theorem B9 {σ ρ:Type}{body:(σ->Option ρ)->σ->Option ρ}(P:σ->Prop)(μ:σ->Nat)(F:σ->Option ρ)
  (hs :∀(next:σ->Option ρ) s,P s->(∀s',P s'->μ s'<μ s->next s'=F s')->body next s=F s) :
  ∀(n:Nat) (s:σ),P s->μ s<n->Ao body n s=F s
 | 0,s,_,h=>absurd h (Nat.not_lt_zero _)
 | n+1,s,h,hm=>hs _ s h fun s' h' hlt=>B9 P μ F hs n s' h' (by omega)
theorem TW {σ ρ:Type}{body:(σ->Option ρ)->σ->Option ρ}(P:σ->Prop)(μ:σ->Nat)(Q:ρ->Prop)
  (hs :∀(next:σ->Option ρ) s,P s->(∀s',P s'->μ s'<μ s->∃r,next s'=some r/\Q r)->∃r,body next s=some r/\Q r) :
  ∀(n:Nat) (s:σ),P s->μ s<n->∃r,Ao body n s=some r/\Q r
 | 0,s,_,h=>absurd h (Nat.not_lt_zero _)
 | n+1,s,h,hm=>hs _ s h fun s' h' hlt=>TW P μ Q hs n s' h' (by omega)
theorem Bj {α:Type}{l:List α}{a b:Nat}(h1:a<=b)(h2:b<=l.length):part l (a:Int) (b:Int)=some ((l.drop a).take (b-a)):=by
 unfold part
 rw[if_pos (by omega)]
 simp
theorem X0 {α σ ρ:Type}{done:σ->Option ρ}{body:(σ->Option ρ)->α->Nat->σ->Option ρ}(P:List α->Nat->σ->Prop)(Q:ρ->Prop)
  (hd :∀i s,P [] i s->∃r,done s=some r/\Q r)
  (hs :∀(next:σ->Option ρ) x t i s,P (x::t) i s->(∀s,P t (i+1) s->∃r,next s=some r/\Q r)->∃r,body next x i s=some r/\Q r) :
  ∀(l:List α) (i:Nat) (s:σ),P l i s->∃r,Ak done body l i s=some r/\Q r
 | [],i,s,h=>hd i s h
 | x::t,i,s,h=>hs _ x t i s h fun s' h'=>X0 P Q hd hs t (i+1) s' h'
theorem LR {τ ρ:Type}(b:Prop)[Decidable b](x y:τ)(K:τ->Option ρ):AC (fun k=>if b then k x else k y) K=K (if b then x else y):=by
 unfold AC;split<;>rfl
theorem Oa (l:List UInt8):(bs l).toList=l:=by rw[ByteArray.toList_eq];simp[bs]
theorem Y7 (a:Array UInt8):(ByteArray.mk a).toList=a.toList:=ByteArray.toList_eq _
theorem BS {n:Nat}(h:n<18446744073709551616):n<fuel:=h
theorem AQ {α:Type}{b:Nat}{l m:List α}(hb:Nat.ble b 65536=true)(h:l.length+m.length<=1000000000):apnd b l m=some (l++m):=by
 unfold apnd
 have hb:=X29 hb
 rw[if_pos]
 refine⟨?_,by omega⟩
 calc _<=1000000000*65536:=Nat.mul_le_mul h hb
  _<=2^47:=by decide
theorem CS {α:Type}{l:List α}{i:Nat}(h:i<l.length):geti l (i:Int)=some l[i]:=by
 unfold geti
 rw[if_pos (by omega)]
 simp[h]
theorem LQ {α:Type}(pre:List α)(x:α)(t:List α):geti (pre++x::t) (pre.length:Int)=some x:=by
 rw[CS (by simp)];simp
theorem AP {x:Int}(h:-9223372036854775808<=x/\x<=9223372036854775807):AD x=x:=U2 rfl h
theorem AA {α β:Type}(a:α)(f:α->Option β):(some a).bind f=f a:=Eq.trans rfl rfl
theorem AB {τ ρ:Type}(m:(τ->Option ρ)->Option ρ)(k:τ->Option ρ):AC m k=m k:=Eq.trans rfl rfl
end Go.AX
end
section
namespace Go.AX
theorem wk {np:Nat}{s s':ASt}(par:((List.range np).all fun r=>!(s.ob.getD r none).isSome || (s'.ob.getD r none).isSome)=true:=by rfl)
  (tm:tmW s s' s.tm s'.tm:=by
   repeat' (first
    | exact AvW.refl _
    | refine And.intro ?_ ?_
    | exact True.intro
    | exact AvW.norm _
    | exact AvW.fresh _ _ _ rfl rfl
    | exact AvW.lst _ _ _ _ _ _ rfl (by first | rfl | (simp only[X10];omega)) (.inl rfl)
    | exact AvW.lst _ _ _ _ _ _ rfl (by first | rfl | (simp only[X10];omega)) (.inr rfl)
    | exact AvW.ownL _ _ _ (by first | rfl | (simp only[X10];omega)|(simp only[cpy,X10,X11,X18,X17];omega))
    | exact AvW.osl _ _ _ _ _ (by first | rfl | (simp only[X10];omega))
    | exact AvW.oslD _ _ _ _ _ _ _ _ _ rfl (by first | rfl | (simp only[X10];omega)) Zc (.inl rfl)
    | exact AvW.oslD _ _ _ _ _ _ _ _ _ rfl (by first | rfl | (simp only[X10];omega)) Zc (.inr rfl)
    | refine AvW.tupL ?_
    | refine AvW.daggL rfl ?_
    | refine AvW.aggL rfl ?_
    | refine AvW.aggDL ?_
    | refine AvW.box _ _ _ _ rfl rfl rfl (Nat.zero_lt_succ _) ?_
    | exact rfl))
  (ob:obW s s' s.ob s'.ob:=by
   repeat' (first
    | exact AvW.refl _
    | refine And.intro ?_ ?_
    | exact rfl
    | exact True.intro
    | refine Exists.intro _ (And.intro rfl ?_)
    | exact .inl ⟨_,rfl,id,True.intro⟩
    | exact .inl ⟨_,rfl,fun _=>rfl,True.intro⟩
    | exact .inl ⟨_,rfl,id,.inr ⟨_,_,rfl,rfl,(by first | rfl | (simp only[X10];omega))⟩⟩
    | exact .inl ⟨_,rfl,id,.inl (X29 rfl)⟩
    | exact .inl ⟨_,rfl,id,.inl (Nat.le_of_eq (by assumption))⟩
    | exact .inr ⟨rfl,rfl,by decide⟩
    | exact .inl rfl
    | exact .inr ⟨_,_,_,rfl⟩
    | exact .inl ⟨_,rfl,(by first | rfl | (simp only[X10];omega))⟩
    | exact AvW.norm _
    | exact AvW.fresh _ _ _ rfl rfl
    | exact AvW.lst _ _ _ _ _ _ rfl (by first | rfl | (simp only[X10];omega)) (.inl rfl)
    | exact AvW.lst _ _ _ _ _ _ rfl (by first | rfl | (simp only[X10];omega)) (.inr rfl)
    | exact AvW.ownL _ _ _ (by first | rfl | (simp only[X10];omega)|(simp only[cpy,X10,X11,X18,X17];omega))
    | refine AvW.tupL ?_
    | refine AvW.daggL rfl ?_
    | refine AvW.aggL rfl ?_
    | refine AvW.aggDL ?_
    | refine AvW.box _ _ _ _ rfl rfl rfl (Nat.zero_lt_succ _) ?_))
  (closed:M1 s'=true:=by rfl):Weak np s s':=.mk par tm ob closed
theorem ZY {α:Type}{b:Nat}{r:List α}(h:Option.bind (apnd (α:=α) b [] []) (fun v=>some v)=some r):(some []:Option (List α))=some r:=by
 simpa[apnd] using h
section
variable {α τ ρ:Type} {r:ρ} {np:Nat} {t:ASt} {St:τ->ASt} {k':τ->Option ρ} {v v':τ} {b:Bool} {X:Option ρ} {A:Prop} {F:Option α} {k:α->Option ρ}
theorem AN (h:k' v=some r)(hw:Weak np t (St v):=by exact wk) :∃s,Weak np t s/\∃v,k' v=some r/\s=St v:=BH hw h
theorem AW (h:(if b=true then X else k' v)=some r)(a:X=some r->A)(hw:Weak np t (St v):=by exact wk):J7 b A (∃s,Weak np t s/\∃v,k' v=some r/\s=St v):=Uj a (fun h=>BH hw h) h
theorem An (h:(if b=true then k' v else X)=some r)(a:X=some r->A)(hw:Weak np t (St v):=by exact wk):J7 b (∃s,Weak np t s/\∃v,k' v=some r/\s=St v) A:=Uj (fun h=>BH hw h) a h
theorem selC {t':ASt}(h:(if b=true then k' v else k' v')=some r)(hw:Weak np t (St v):=by exact wk)(hw':Weak np t' (St v'):=by exact wk):J7 b (∃s,Weak np t s/\∃v,k' v=some r/\s=St v) (∃s,Weak np t' s/\∃v,k' v=some r/\s=St v):=
 Uj (fun h=>BH hw h) (fun h=>BH hw' h) h
theorem AT {B:Prop}{Y:Option ρ}(h:(if b=true then X else Y)=some r)(h1:X=some r->A)(h2:Y=some r->B):J7 b A B:=Uj h1 h2 h
theorem goC {X:(ASt->Prop)->Prop}{K:ASt->Prop}(h:X K):CutP np X K:=.go h
theorem AM {X:(ASt->Prop)->Prop}{K:ASt->Prop}{m:(τ->Option ρ)->Option ρ}{k:τ->Option ρ}(h:AC m k=some r)(St:τ->ASt)
  (h1 :∀k':τ->Option ρ,m k'=some r->X (fun t=>∃s,Weak np t s/\∃v,k' v=some r/\s=St v)) (h2 :∀v,k v=some r->K (St v)):CutP np X K:=aL St h1 h2 h
variable {C:AV->List OB->Prop} {M:AV->List OB->Option (List Nat)->Prop} {M2:AV->List OB->Prop} {c:α->AV} {o:α->List OB}
theorem AL (h:Option.bind F k=some r)(j :∀v,F=some v->C (c v) (o v))(n :∀v,k v=some r->M (c v) (o v) (some [])) :∃res objs b,C res objs/\M res objs b:=by
 obtain⟨v,g,h⟩:=AH h
 exact⟨_,_,_,j v g,n v h⟩
theorem PU (l:List Nat)(h:Option.bind F k=some r)(j :∀v,F=some v->C (c v) (o v))(n :∀v,k v=some r->M (c v) (o v) (some l)) :∃res objs b,C res objs/\M res objs b:=by
 obtain⟨v,g,h⟩:=AH h
 exact⟨_,_,_,j v g,n v h⟩
theorem HS (h:Option.bind F k=some r)(j :∀v,F=some v->C (c v) (o v))(n :∀v,k v=some r->M (c v) (o v) none) :∃res objs b,C res objs/\M res objs b:=by
 obtain⟨v,g,h⟩:=AH h
 exact⟨_,_,_,j v g,n v h⟩
theorem Ap {L:Nat}{N:Prop}(h:Option.bind F k=some r)(j :∀v,F=some v->C (c v) (o v))(e :∀v,(o v).length=L)(n :∀v,k v=some r->M2 (c v) (o v)) :∃res objs,C res objs/\(objs.length=L\/N)/\M2 res objs:=by
 obtain⟨v,g,h⟩:=AH h
 exact⟨_,_,j v g,.inl (e v),n v h⟩
theorem X7 {L:List OB->Prop}{ob:List (Option OB)}{self:Nat}(h:Option.bind F k=some r)(j :∀v,F=some v->C (c v) (o v))(e:ob[self]?=some none)(n :∀v,k v=some r->M2 (c v) (o v)) :∃res objs,C res objs/\(L objs\/ob[self]?=some none)/\M2 res objs:=by
 obtain⟨v,g,h⟩:=AH h
 exact⟨_,_,j v g,.inr e,n v h⟩
variable {l m:List α} {f:α->D} {by' sz:Nat} {i i':Int} {kl:List α->Option ρ} {ML:List D->Prop} {MD:D->Prop}
theorem apO (h:Option.bind (apnd by' l m) kl=some r)(e:A)(n :∀v,kl v=some r->ML (v.map f)):A/\(((l.map f).length+(m.map f).length)*by'<=2^47/\(l.map f).length+(m.map f).length<=2^47)/\∃zs,l.map f++m.map f=zs/\ML zs:=by
 obtain⟨v,g,h⟩:=AH h
 exact⟨e,UD g,_,Zv g,n v h⟩
theorem apN {N:Prop}(h:Option.bind (apnd by' [] m) kl=some r)(n :∀v,kl v=some r->N):((m.map f).length*by'<=2^47/\(m.map f).length<=2^47)/\N:=by
 obtain⟨v,g,h⟩:=AH h
 exact⟨cS g,n v h⟩
theorem Av (h:Option.bind (geti l i) k=some r)(e :∀v,(f v).cells.length=sz)(n :∀v,k v=some r->MD (f v)):(0<=i/\i<((l.map f).length:Int))/\∃x,(l.map f).getD i.toNat default=x/\x.cells.length=sz/\MD x:=by
 obtain⟨v,g,h⟩:=AH h
 exact⟨BM g,_,BW g,e v,n v h⟩
theorem Eb (h:Option.bind (part l i i') kl=some r)(n :∀v,kl v=some r->ML (v.map f)):(0<=i/\i<=i'/\i'<=((l.map f).length:Int))/\∃ys,((l.map f).drop i.toNat).take (i'.toNat-i.toNat)=ys/\ML ys:=by
 obtain⟨v,g,h⟩:=AH h
 exact⟨XQ g,_,MJ g,n v h⟩
theorem Hu (h:Option.bind (part l i l.length) kl=some r)(n :∀v,kl v=some r->ML (v.map f)) :
  (0<=i/\i<=((l.map f).length:Int)/\((l.map f).length:Int)<=((l.map f).length:Int))/\∃ys,((l.map f).drop i.toNat).take (((l.map f).length:Int).toNat-i.toNat)=ys/\ML ys:=by
 obtain⟨v,g,h⟩:=AH h
 exact⟨Xn g,_,YT g,n v h⟩
end
theorem Bi {a b:Nat}(h:a=b:=by first | rfl | exact X10 _ | (simp only[X10];done)|(simp only[X10];omega)|(simp only[X10,X21];omega)|(simp only[cpy,X10,X21,X11,X18,X17,X20];omega)):a=b:=h
theorem fin {A:Prop}{ρ:Type}{a r:ρ}(h:some a=some r)(k:some a=some r->A:=by intro h;cases h;exact⟨rfl,rfl⟩):A:=k h
end Go.AX
end
section
namespace Go.AX
open Go
def KH:List AV->List AV->Prop
 | [],[]=>True
 | a::l,b::m=>(b=a \/∃sz,a=.d (.nil sz)/\b=.d (.lst sz []))/\KH l m
 | _,_=>False
theorem QU :∀{l m:List AV},KH l m->l.length=m.length/\∀i (h:i<l.length) (h':i<m.length),m[i]=l[i] \/∃sz,l[i]=.d (.nil sz)/\m[i]=.d (.lst sz [])
 | [],[],_=>⟨rfl,fun i h=>by simp at h⟩
 | a::l,b::m,h=>by
  obtain⟨h1,h2⟩:=h
  obtain⟨g1,g2⟩:=QU h2
  refine⟨by simp[g1],fun i hi hi'=>?_⟩
  cases i with
  | zero=>exact h1
  | succ i=>exact g2 i (by simpa using hi) (by simpa using hi')
 | [],_::_,h=>by simp[KH] at h
 | _::_,[],h=>by simp[KH] at h
theorem PQ :∀{l m:List AV},KH l m->∀r∈AV.refs.refsL m,r∈AV.refs.refsL l
 | [],[],_,r,h=>h
 | a::l,b::m,h,r,hr=>by
  obtain⟨h1,h2⟩:=h
  simp only[AV.refs.refsL,X23] at hr ⊢
  rcases hr with hr | hr
  ·rcases h1 with rfl | ⟨sz,rfl,rfl⟩
   ·exact .inl hr
   simp[AV.refs] at hr
  exact .inr (PQ h2 r hr)
 | [],_::_,h,_,_=>by simp[KH] at h
 | _::_,[],h,_,_=>by simp[KH] at h
theorem CallsOK.box1 {wl:WL}{P:Program}{f:FuncId}{args:List AV}{cs cs':List AV}{res:AV}{objs':List OB}(h:CallsOK wl P f args [.box cs'] res objs')(hc:KH cs cs'):CallsOK wl P f args [.box cs] res objs':=by
 obtain⟨c1,c2⟩:=QU hc
 refine⟨h.1,fun w S φ gb hg vals hv ha hr m=>?_⟩
 have e0:ofL [OB.box cs] 0=some (.box cs):=rfl
 have e1:upd (ofL [OB.box cs]) 0 (some (.box cs'))=ofL [OB.box cs']:=by
  funext r
  cases r with
  | zero=>rfl
  | succ r=>simp[upd,ofL]
 have e2:upd φ 0 (φ 0)=φ:=by funext i;by_cases hi:i=0<;>simp[upd,hi]
 obtain⟨m',k'⟩:=m.set 0 (.box cs) (.box cs') w (φ 0) e0 (fun _ _ _=>rfl) (Nat.le_refl _) ⟨rfl,rfl,rfl,Nat.le_refl _⟩ (fun _ _ _ _ _=>rfl) (.inl rfl)
  (.inl ⟨upd_same _ _ _,by rw[upd_same,e0];rfl,fun _=>⟨cs,e0⟩⟩) (fun r' hr'=>m.men 0 _ e0 r' (PQ hc r' hr')) fun hk=>by
   obtain⟨b,c,vs,e,g,g1,g2,g3,g4,g5,g6⟩:=m.obj 0 _ e0
   refine⟨b,c,vs,e,g,by rw[upd_same];exact g1,g2,by omega,g4,fun j hj=>g5 j (by omega),fun j hj=>?_⟩
   obtain⟨o1,o2⟩:=g6 j (by omega)
   rcases c2 j (by omega) hj with q | ⟨sz,q1,q2⟩
   ·rw[q]
    refine⟨o1,hk.rep (fun r' hr'=>m.men 0 _ e0 r' ?_) o2⟩
    exact AV.refs_mem cs j (by omega) r' hr'
   rw[q1] at o2
   rw[q2]
   refine⟨rfl,?_⟩
   generalize g j=u at o2 ⊢
   cases o2 with | d _ _ o2=>
   cases o2 with | nil=>
   exact .d _ _ (.lst0 _ _ _)
 rw[e1,e2] at m' k'
 have hcl :∀r,ofL [OB.box cs] r≠none->ofL [OB.box cs'] r≠none:=fun r q=>k'.c r q
 refine (h.2 w S φ gb hg vals hv (fun i hi=>⟨k'.rep (ha i hi).2 (ha i hi).1,k'.closed (ha i hi).2⟩) hr m').mono ?_
 rintro e w' ⟨v,rfl,S',φ',q1,q2,q3,q4⟩
 exact⟨v,rfl,S',φ',q1,k'.trans q2,q3,q4⟩
end Go.AX
end
section
namespace Go.AX.Q19
open Go Go.AX Go.Proofs
def ti3:TI:=⟨.int .i64,1,8,[.val (.int .i64 0)]⟩
def ti4:TI:=⟨.bool,1,1,[.val (.bool false)]⟩
def ti5:TI:=⟨.int .u8,1,1,[.val (.int .u8 0)]⟩
def ti9:TI:=⟨.str,1,16,[.val (.string ByteArray.empty)]⟩
def gA:TI:=⟨.slice 3,1,24,[.nil 1]⟩
def fy:TI:=⟨.ptr,1,8,[.val (.pointer none)]⟩
def fu:TI:=⟨.slice 41,1,24,[.nil 4]⟩
def gJ:TI:=⟨.slice 132,1,24,[.nil 2]⟩
def fg:TI:=⟨.int .u64,1,8,[.val (.int .u64 0)]⟩
def fk:TI:=⟨.struct [(0,1,4),(1,1,27),(2,1,27)],3,24,[.val (.bool false),.val (.int .u64 0),.val (.int .u64 0)]⟩
def gU:TI:=⟨.struct [(0,1,4),(1,1,27),(2,1,27)],3,24,[.val (.bool false),.val (.int .u64 0),.val (.int .u64 0)]⟩
def fc:TI:=⟨.slice 137,1,24,[.nil 2]⟩
def fe:TI:=⟨.slice 141,1,24,[.nil 3]⟩
def gQ:TI:=⟨.slice 88,1,24,[.nil 3]⟩
def gP:TI:=⟨.struct [(0,1,3),(1,1,26),(2,3,29),(5,1,3),(6,1,3),(7,1,3),(8,1,30),(9,1,31),(10,1,32)],11,152,[.val (.int .i64 0),.nil 2,.val (.bool false),.val (.int .u64 0),.val (.int .u64 0),.val (.int .i64 0),.val (.int .i64 0),.val (.int .i64 0),.nil 2,.nil 3,.nil 3]⟩
def fP:TI:=⟨.struct [(0,1,3),(1,1,26),(2,3,29),(5,1,3),(6,1,3),(7,1,3),(8,1,30),(9,1,31),(10,1,32)],11,152,[.val (.int .i64 0),.nil 2,.val (.bool false),.val (.int .u64 0),.val (.int .u64 0),.val (.int .i64 0),.val (.int .i64 0),.val (.int .i64 0),.nil 2,.nil 3,.nil 3]⟩
def fQ:TI:=⟨.struct [(0,1,25),(1,11,34),(12,1,25)],13,200,[.nil 4,.val (.int .i64 0),.nil 2,.val (.bool false),.val (.int .u64 0),.val (.int .u64 0),.val (.int .i64 0),.val (.int .i64 0),.val (.int .i64 0),.nil 2,.nil 3,.nil 3,.nil 4]⟩
def fU:TI:=⟨.struct [(0,1,25),(1,11,34),(12,1,25)],13,200,[.nil 4,.val (.int .i64 0),.nil 2,.val (.bool false),.val (.int .u64 0),.val (.int .u64 0),.val (.int .i64 0),.val (.int .i64 0),.val (.int .i64 0),.nil 2,.nil 3,.nil 3,.nil 4]⟩
def gB:TI:=⟨.struct [(0,3,29),(3,1,3)],4,32,[.val (.bool false),.val (.int .u64 0),.val (.int .u64 0),.val (.int .i64 0)]⟩
def fW:TI:=⟨.struct [(0,3,29),(3,1,3)],4,32,[.val (.bool false),.val (.int .u64 0),.val (.int .u64 0),.val (.int .i64 0)]⟩
def fq:TI:=⟨.slice 36,1,24,[.nil 13]⟩
def fb:TI:=⟨.slice 5,1,24,[.nil 1]⟩
def fR:TI:=⟨.int .i64,1,8,[.val (.int .i64 0)]⟩
def f9:TI:=⟨.slice 44,1,24,[.nil 1]⟩
def fX:TI:=⟨.fn,1,8,[.val .nilFunc]⟩
def fO:TI:=⟨.int .u64,1,8,[.val (.int .u64 0)]⟩
def gG:TI:=⟨.slice 4,1,24,[.nil 1]⟩
def fS:TI:=⟨.struct [(0,1,3),(1,1,44)],2,32,[.val (.int .i64 0),.nil 1]⟩
def gR:TI:=⟨.struct [(0,1,3),(1,1,44)],2,32,[.val (.int .i64 0),.nil 1]⟩
def fZ:TI:=⟨.slice 72,1,24,[.nil 2]⟩
def fa:TI:=⟨.struct [(0,1,22),(1,1,3)],2,32,[.nil 1,.val (.int .i64 0)]⟩
def fY:TI:=⟨.struct [(0,1,22),(1,1,3)],2,32,[.nil 1,.val (.int .i64 0)]⟩
def fw:TI:=⟨.slice 29,1,24,[.nil 3]⟩
def fh:TI:=⟨.struct [(0,1,3),(1,1,3),(2,1,44)],3,40,[.val (.int .i64 0),.val (.int .i64 0),.nil 1]⟩
def fi:TI:=⟨.struct [(0,1,3),(1,1,3),(2,1,44)],3,40,[.val (.int .i64 0),.val (.int .i64 0),.nil 1]⟩
def fj:TI:=⟨.ptr,1,8,[.val (.pointer none)]⟩
def eH:TI:=⟨.struct [(0,1,32),(1,3,29),(4,1,25),(5,1,25),(6,1,25),(7,1,25)],8,144,[.nil 3,.val (.bool false),.val (.int .u64 0),.val (.int .u64 0),.nil 4,.nil 4,.nil 4,.nil 4]⟩
def eB:TI:=⟨.struct [(0,1,32),(1,3,29),(4,1,25),(5,1,25),(6,1,25),(7,1,25)],8,144,[.nil 3,.val (.bool false),.val (.int .u64 0),.val (.int .u64 0),.nil 4,.nil 4,.nil 4,.nil 4]⟩
def eh:TI:=⟨.struct [(0,1,4),(1,1,22)],2,32,[.val (.bool false),.nil 1]⟩
def eW:TI:=⟨.struct [(0,1,4),(1,1,22)],2,32,[.val (.bool false),.nil 1]⟩
def eN:TI:=⟨.struct [(0,1,3),(1,1,3)],2,16,[.val (.int .i64 0),.val (.int .i64 0)]⟩
def eX:TI:=⟨.struct [(0,1,3),(1,1,3)],2,16,[.val (.int .i64 0),.val (.int .i64 0)]⟩
def eI:TI:=⟨.struct [(0,1,3),(1,1,3),(2,1,3)],3,24,[.val (.int .i64 0),.val (.int .i64 0),.val (.int .i64 0)]⟩
def fM:TI:=⟨.struct [(0,1,3),(1,1,3),(2,1,3)],3,24,[.val (.int .i64 0),.val (.int .i64 0),.val (.int .i64 0)]⟩
def dy:TI:=⟨.slice 27,1,24,[.nil 1]⟩
def eq:TI:=⟨.map 3 44,1,8,[.val (.map none)]⟩
def ey:TI:=⟨.slice 25,1,24,[.nil 1]⟩
def fH:TI:=⟨.fn,1,8,[.val .nilFunc]⟩
def eE:TI:=⟨.fn,1,8,[.val .nilFunc]⟩
def eJ:TI:=⟨.ptr,1,8,[.val (.pointer none)]⟩
def eG:TI:=⟨.fn,1,8,[.val .nilFunc]⟩
def fJ:TI:=⟨.fn,1,8,[.val .nilFunc]⟩
def eM:TI:=⟨.map 3 3,1,8,[.val (.map none)]⟩
def fG:TI:=⟨.map 3 4,1,8,[.val (.map none)]⟩
def e9:TI:=⟨.fn,1,8,[.val .nilFunc]⟩
def fB:TI:=⟨.map 3 180,1,8,[.val (.map none)]⟩
def dx:TI:=⟨.fn,1,8,[.val .nilFunc]⟩
def eT:TI:=⟨.fn,1,8,[.val .nilFunc]⟩
def dz:TI:=⟨.fn,1,8,[.val .nilFunc]⟩
def fE:TI:=⟨.int .u32,1,4,[.val (.int .u32 0)]⟩
def ep:TI:=⟨.ptr,1,8,[.val (.pointer none)]⟩
def tt:TT:=(.node 79 fa (.node 34 fP (.node 26 gJ (.node 9 ti9 (.node 4 ti4 (.node 3 ti3 .tip .tip) (.node 5 ti5 .tip .tip)) (.node 23 fy (.node 22 gA .tip .tip) (.node 25 fu .tip .tip))) (.node 30 fc (.node 28 fk (.node 27 fg .tip .tip) (.node 29 gU .tip .tip)) (.node 32 gQ (.node 31 fe .tip .tip) (.node 33 gP .tip .tip)))) (.node 57 f9 (.node 41 fW (.node 36 fU (.node 35 fQ .tip .tip) (.node 40 gB .tip .tip)) (.node 44 fb (.node 43 fq .tip .tip) (.node 45 fR .tip .tip))) (.node 71 fS (.node 67 fO (.node 64 fX .tip .tip) (.node 69 gG .tip .tip)) (.node 76 fZ (.node 72 gR .tip .tip) .tip)))) (.node 155 ey (.node 131 eh (.node 88 fi (.node 83 fw (.node 80 fY .tip .tip) (.node 87 fh .tip .tip)) (.node 100 eH (.node 99 fj .tip .tip) (.node 101 eB .tip .tip))) (.node 140 eI (.node 136 eN (.node 132 eW .tip .tip) (.node 137 eX .tip .tip)) (.node 142 dy (.node 141 fM .tip .tip) (.node 153 eq .tip .tip)))) (.node 180 e9 (.node 167 eG (.node 164 eE (.node 159 fH .tip .tip) (.node 166 eJ .tip .tip)) (.node 176 eM (.node 169 fJ .tip .tip) (.node 178 fG .tip .tip))) (.node 197 dz (.node 189 dx (.node 182 fB .tip .tip) (.node 195 eT .tip .tip)) (.node 219 ep (.node 207 fE .tip .tip) .tip)))))
theorem bF:TabOk Tryz.prog tt:=U3 (by kernel_rfl)
end Go.AX.Q19
end
section
namespace Go.AX
section
variable {P:Program} {E:Env} {w w':World} {S:Sc} {φ:Nat->Option (Nat×Rp)} {ob:Nat->Option OB}
structure Grown (wl:Prop)(w w':World):Prop where
 hp :∀b,b<w.heap.size->w'.heap[b]?=w.heap[b]?
 sz:w.heap.size<=w'.heap.size
 os:w'.os=w.os
 out:w'.output=w.output
 tape:w'.tape=w.tape
 dr:wl\/w.drawn<=w'.drawn
theorem Grown.refl (wl:Prop)(w:World):Grown wl w w:=⟨fun _ _=>rfl,Nat.le_refl _,rfl,rfl,rfl,.inr (Nat.le_refl _)⟩
theorem Grown.trans {wl:Prop}{a b c:World}(h:Grown wl a b)(k:Grown wl b c):Grown wl a c:=
 ⟨fun n hn=>(k.hp n (Nat.lt_of_lt_of_le hn h.sz)).trans (h.hp n hn),Nat.le_trans h.sz k.sz,k.os.trans h.os,k.out.trans h.out,k.tape.trans h.tape,h.dr.elim .inl fun x=>k.dr.imp_right fun y=>Nat.le_trans x y⟩
theorem Grown.alloc {wl:Prop}(w:World)(o:Obj):Grown wl w (w.alloc o):=⟨fun b hb=>GR w o hb,by simp,rfl,rfl,rfl,.inr (Nat.le_refl _)⟩
theorem Grown.drewN {wl:Prop}(w:World)(n:Nat):Grown wl w (w.drewN n):=⟨fun _ _=>rfl,Nat.le_refl _,rfl,rfl,rfl,.inr (Nat.le_add_right _ _)⟩
theorem Mem.grow (m:Mem E w S φ ob)(h:Grown E.wl.wl w w'):Mem E w' S φ ob/\Kept w S φ ob w' S φ ob:=
 m.grown h.hp h.sz ⟨h.os,h.out,h.tape,h.dr⟩
end
def dE (P : Program)(f : FuncId) : Prop := ∃ fn, P.funcs[f]? = some fn ∧ fn.name ≠ "runtime.NumGoroutine" ∧ fn.body.isSome = true
theorem cA {P : Program}{f : FuncId}{fn : Func}(h : P.funcs[f]? = some fn)(hn : (fn.name == "runtime.NumGoroutine") = false)(hb : fn.body.isSome = true) : dE P f := ⟨fn, h, by simpa using hn, hb⟩
end Go.AX
end
section
namespace Go.AX
open Go.RowKit
end Go.AX
end
section
namespace Go.AX
open Go.Sort
def ltC {X:Type}(cmp:X->X->Option Int)(a b:X):Bool:=match cmp a b with
 | some r=>decide (r<0)
 | none=>false
def Ul {X:Type}(cmp:X->X->Option Int)(l:List X):Bool:=
 (l.all fun a=>l.all fun b=>(cmp a b).isSome)&&(l.all fun a=>!ltC cmp a a) &&
 (l.all fun a=>l.all fun b=>l.all fun c=>!(ltC cmp a b) || !(ltC cmp b c) || ltC cmp a c) &&
 (l.all fun a=>l.all fun b=>l.all fun c=>ltC cmp a b || ltC cmp b c || !(ltC cmp a c))&&decide (l.length<=1000000000)
def ixL {X:Type}(l:List X)(i:Nat):Option X:=l[min i (l.length-1)]?
def cfI {X:Type}(cmp:X->X->Option Int)(l:List X)(i j:Nat):Int:=match ixL l i,ixL l j with
 | some a,some b=>(cmp a b).getD 0
 | _,_=>0
def Gn {X:Type}(cmp:X->X->Option Int)(l:List X):Array Nat:=Sort.pdq (Proofs.ltOf (cfI cmp l)) (Array.range l.length) 0 l.length (Lib.bitLen l.length) true true
def Ez {X:Type}(cmp:X->X->Option Int)(l:List X):Option (List X):=match Ul cmp l with
 | true=>some ((Gn cmp l).toList.filterMap fun i=>l[i]?)
 | false=>none
section
variable {X:Type} {cmp:X->X->Option Int} {l:List X}
theorem JQ (h:0<l.length)(i:Nat) :∃x∈l,ixL l i=some x:=by
 have hi:min i (l.length-1)<l.length:=by omega
 exact⟨l[min i (l.length-1)],List.getElem_mem hi,by unfold ixL;exact X15 hi⟩
theorem ON (h:Ul cmp l=true):(∀a∈l,∀b∈l,∃r,cmp a b=some r)/\(∀a∈l,ltC cmp a a=false)/\
  (∀a∈l,∀b∈l,∀c∈l,ltC cmp a b=true->ltC cmp b c=true->ltC cmp a c=true)/\(∀a∈l,∀b∈l,∀c∈l,ltC cmp a b=false->ltC cmp b c=false->ltC cmp a c=false)/\l.length<=1000000000:=by
 simp only[Ul,X27,List.all_eq_true,decide_eq_true_eq] at h
 obtain⟨⟨⟨⟨h1,h2⟩,h3⟩,h4⟩,h5⟩:=h
 refine⟨fun a ha b hb=>Option.isSome_iff_exists.1 (h1 a ha b hb),fun a ha=>by simpa using h2 a ha,fun a ha b hb c hc g1 g2=>?_,fun a ha b hb c hc g1 g2=>?_,h5⟩
 ·have:=h3 a ha b hb c hc
  simpa[g1,g2] using this
 have:=h4 a ha b hb c hc
 simpa[g1,g2] using this
theorem bT (h1 :∀a∈l,∀b∈l,∃r,cmp a b=some r)(h2 :∀a∈l,ltC cmp a a=false)
  (h3 :∀a∈l,∀b∈l,∀c∈l,ltC cmp a b=true->ltC cmp b c=true->ltC cmp a c=true) (h4 :∀a∈l,∀b∈l,∀c∈l,ltC cmp a b=false->ltC cmp b c=false->ltC cmp a c=false) (h5:l.length<=1000000000):Ul cmp l=true:=by
 simp only[Ul,X27,List.all_eq_true,decide_eq_true_eq]
 refine⟨⟨⟨⟨fun a ha b hb=>Option.isSome_iff_exists.2 (h1 a ha b hb),fun a ha=>by simp[h2 a ha]⟩,fun a ha b hb c hc=>?_⟩,fun a ha b hb c hc=>?_⟩,h5⟩
 ·cases g1:ltC cmp a b
  ·simp
  cases g2:ltC cmp b c
  ·simp
  simp[h3 a ha b hb c hc g1 g2]
 cases g1:ltC cmp a b
 ·cases g2:ltC cmp b c
  ·simp[h4 a ha b hb c hc g1 g2]
  simp
 simp
theorem HA (i j:Nat)(a b:X)(ha:ixL l i=some a)(hb:ixL l j=some b):Proofs.ltOf (cfI cmp l) i j=ltC cmp a b:=by
 unfold Proofs.ltOf cfI ltC
 rw[ha,hb]
 cases h:cmp a b<;>simp[h]
theorem YH (h:Ul cmp l=true)(hl:0<l.length):SWO (Proofs.ltOf (cfI cmp l)):=by
 obtain⟨_,h2,h3,h4,_⟩:=ON h
 refine⟨fun x=>?_,fun x y z=>?_,fun x y z=>?_⟩
 ·obtain⟨a,ha,ea⟩:=JQ hl x
  rw[HA x x a a ea ea]
  exact h2 a ha
 ·obtain⟨a,ha,ea⟩:=JQ hl x
  obtain⟨b,hb,eb⟩:=JQ hl y
  obtain⟨c,hc,ec⟩:=JQ hl z
  rw[HA _ _ _ _ ea eb,HA _ _ _ _ eb ec,HA _ _ _ _ ea ec]
  exact h3 a ha b hb c hc
 obtain⟨a,ha,ea⟩:=JQ hl x
 obtain⟨b,hb,eb⟩:=JQ hl y
 obtain⟨c,hc,ec⟩:=JQ hl z
 rw[HA _ _ _ _ ea eb,HA _ _ _ _ eb ec,HA _ _ _ _ ea ec]
 exact h4 a ha b hb c hc
theorem Oo (h:Ul cmp l=true)(hl:0<l.length):(Gn cmp l).size=l.length/\(Gn cmp l).toList.Perm (List.range l.length)/\∀i j,i<j->j<l.length->Proofs.ltOf (cfI cmp l) (Gn cmp l)[j]! (Gn cmp l)[i]! = false:=by
 obtain⟨⟨h1,_,h2⟩,h3⟩:=pdq_sorts (Proofs.ltOf (cfI cmp l)) (YH h hl) (Array.range l.length) 0 l.length (Lib.bitLen l.length) true true (Nat.zero_le _) (by simp) (Or.inl rfl)
 have h1:(Gn cmp l).size=l.length:=by simpa[Gn] using h1
 refine⟨h1,?_,fun i j hij hj=>h3 i j (Nat.zero_le _) hij hj⟩
 have e1:((Gn cmp l).extract 0 l.length)=Gn cmp l:=by rw[<- h1];exact Array.extract_size
 have e2:((Array.range l.length).extract 0 l.length)=Array.range l.length:=by
  have:(Array.range l.length).size=l.length:=by simp
  conv=>lhs;arg 3;rw[<- this]
  exact Array.extract_size
 have h2':((Gn cmp l).extract 0 l.length).toList.Perm ((Array.range l.length).extract 0 l.length).toList:=h2
 rw[e1,e2] at h2'
 simpa using h2'
theorem QF (l:List X):(List.range l.length).filterMap (fun i=>l[i]?)=l:=by
 have :∀(n:Nat),n<=l.length->(List.range n).filterMap (fun i=>l[i]?)=l.take n:=by
  intro n
  induction n with
  | zero=>intro _;simp
  | succ n ih=>
   intro hn
   have hlt:n<l.length:=by omega
   rw[List.range_succ,List.filterMap_append,ih (by omega),List.take_add_one]
   simp[X15 hlt]
 rw[this _ (Nat.le_refl _),List.take_length]
theorem T0 {r:List X}(h:Ez cmp l=some r)(hl:0<l.length):r.length=l.length/\∀i,i<l.length->(Gn cmp l)[i]!<l.length/\r[i]?=l[(Gn cmp l)[i]!]?:=by
 unfold Ez at h
 split at h
 ·rename_i hs
  obtain⟨h1,h2,h3⟩:=Oo hs hl
  obtain rfl:=X25 h
  have hm :∀i∈(Gn cmp l).toList,i<l.length:=fun i hi=>by simpa using h2.mem_iff.1 hi
  have key :∀(q:List Nat),(∀i∈q,i<l.length)->(q.filterMap fun i=>l[i]?).length=q.length/\∀j (hj:j<q.length),(q.filterMap fun i=>l[i]?)[j]?=l[q[j]]?:=by
   intro q
   induction q with
   | nil=>intro _;exact⟨rfl,fun j hj=>by simp at hj⟩
   | cons x q ih=>
    intro hq
    obtain⟨g1,g2⟩:=ih fun i hi=>hq i (X19 _ hi)
    have hx:=hq x (List.mem_cons_self ..)
    have e:(x::q).filterMap (fun i=>l[i]?)=l[x]::q.filterMap fun i=>l[i]?:=by
     rw[List.filterMap_cons,X15 hx]
    rw[e]
    refine⟨by simp[g1],fun j hj=>?_⟩
    cases j with
    | zero=>simp[X15 hx]
    | succ j=>simpa using g2 j (by simpa using hj)
  obtain⟨g1,g2⟩:=key (Gn cmp l).toList hm
  refine⟨by rw[g1];simpa using h1,fun i hi=>?_⟩
  have hi':i<(Gn cmp l).toList.length:=by simpa[h1] using hi
  have hget:(Gn cmp l)[i]! = (Gn cmp l).toList[i]:=by
   rw[getElem!_pos _ i (by simpa using hi')]
   simp
  rw[hget]
  exact⟨hm _ (List.getElem_mem hi'),g2 i hi'⟩
 simp at h
theorem MX {r:List X}(h:Ez cmp l=some r):r.Perm l/\r.Pairwise fun a b=>ltC cmp b a=false:=by
 by_cases hl:0<l.length
 ·have h0:=h
  obtain⟨hlen,hget⟩:=T0 h hl
  unfold Ez at h
  split at h
  ·rename_i hs
   obtain⟨h1,h2,h3⟩:=Oo hs hl
   obtain rfl:=X25 h
   refine⟨?_,?_⟩
   ·have:=h2.filterMap fun i=>l[i]?
    rwa [QF] at this
   rw[List.pairwise_iff_getElem]
   intro i j hi hj hij
   have hi':i<l.length:=by omega
   have hj':j<l.length:=by omega
   obtain⟨p1,p2⟩:=hget i hi'
   obtain⟨q1,q2⟩:=hget j hj'
   rw[X15 hi,X15 p1] at p2
   rw[X15 hj,X15 q1] at q2
   have:=h3 i j hij hj'
   rw[HA (cmp:=cmp) (l:=l) _ _ _ _ (by unfold ixL;rw[Nat.min_eq_left (by omega)];exact X15 q1) (by unfold ixL;rw[Nat.min_eq_left (by omega)];exact X15 p1)] at this
   rw[X25 p2,X25 q2]
   exact this
  simp at h
 have:l=[]:=List.eq_nil_of_length_eq_zero (by omega)
 subst this
 unfold Ez at h
 split at h
 ·obtain rfl:=X25 h
  have:(Gn cmp ([]:List X)).toList.filterMap (fun i=>([]:List X)[i]?)=[]:=by simp
  rw[this]
  exact⟨.refl _,.nil⟩
 simp at h
theorem GP {r:List X}(h:Ez cmp l=some r):r.length=l.length:=(MX h).1.length_eq
theorem XY (h:Ul cmp l=true) :∃r,Ez cmp l=some r:=by
 unfold Ez
 rw[h]
 exact⟨_,rfl⟩
end
def Lx (l:List Int):Option (List Int):=if l.length<4611686018427387904 then some (l.mergeSort fun x y=>decide (x<=y)) else none
theorem Yx {l r:List Int}(h:Lx l=some r):r.length=l.length:=by
 unfold Lx at h
 split at h
 ·obtain rfl:=X25 h;simp
 simp at h
end Go.AX
end
