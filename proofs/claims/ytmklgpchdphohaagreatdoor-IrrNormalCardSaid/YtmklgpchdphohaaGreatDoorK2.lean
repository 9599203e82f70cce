/-
  Texts of one proof, packed: Ax18 Ax19 Ax21 Ax20 AxT AxB AxB1 AxB2 AxB4 AxB3 Q20Sp L20P AxU AxV L20A L20B L20C L20D L20E L20F L20G.
-/
import Derived.Test.YtmklgpchdphohaaGreatDoorK1
import Derived.Below
import Derived.Carry
import Derived.ChangeOld
import Derived.Deep.Draws
import Derived.Deep.Slices
import Derived.MapKept
import Derived.OpenShut
import Derived.ProofKit
import Derived.Shelf.SlIter.Nil
import Derived.Shelf.SlIterI.Nil
import Derived.Shelf.SlSortCmp.Insertion
import Derived.Shelf.Strings.SlTrimAscii
import Derived.SizedLaws
import Derived.Sort.AssemblyPlain
import Derived.Sort.Walk0
import Derived.WalkKit
set_option linter.all false
section
namespace Go.AX
open Go.RowKit Go.Deep Go.ChangeShapes Go.WideShapes
section
variable {H:Type} {enc:TypeId×Value→H} {P:Program} {w:World}
def RepI (w:World) (ds:List D) (cs:List Value):Prop:=
 ds.length=cs.length∧(∀d ∈ ds,d.isAgg=false)∧∀j (hj:j < ds.length) v,cs[j]?=some v→RepD (Old w) w ds[j] v
def Wt (P:Program) (t:Nat) (d:DataW H):Prop:=(d.weights P t).all (· ≤ reachBytes)=true
theorem weightsAll_mem {e:Nat} :∀{l:List (DataW H)} {d:DataW H},d ∈ l→∀n ∈ d.weights P e,n ∈ DataW.weightsAll P e l
 | x::l,d,hd,n,hn=>by
  simp only [DataW.weightsAll,List.mem_append]
  rcases List.mem_cons.1 hd with rfl | hd
  ·exact .inl hn
  ·exact .inr (weightsAll_mem hd n hn)
theorem Wt.slice {t e:Nat} {el sp:List (DataW H)} (ht:P.underlying t=some (.slice e)) (h:Wt P t (.slice el sp)):(el.length + sp.length) * P.bytesOf e ≤ reachBytes∧∀d ∈ el,Wt P e d:=by
 have h:=List.all_eq_true.1 h
 simp only [DataW.weights,ht,List.mem_cons,List.mem_append] at h
 refine ⟨by simpa using h _ (.inl rfl),fun d hd=>List.all_eq_true.2 fun n hn=>h n (.inr (.inl (weightsAll_mem hd n hn)))⟩
theorem Wt.string {t:Nat} {b:List UInt8} (h:Wt (H:=H) P t (.lit (.string b))):b.length ≤ reachBytes:=by
 have h:=List.all_eq_true.1 h
 simp only [DataW.weights] at h
 simpa using h _ (List.mem_singleton.2 rfl)
theorem Wt.agg {t:Nat} {F:Array Field} {ds:List (DataW H)} (ht:P.underlying t=some (.struct F)) (h:Wt P t (.agg ds)) {i:Nat} {f:Field} {d:DataW H} (hf:F[i]?=some f) (hd:ds[i]?=some d):Wt P f.type d:=by
 have h:=List.all_eq_true.1 h
 simp only [DataW.weights,ht] at h
 exact List.all_eq_true.2 fun n hn=>h n (DataW.weights_mem_each (ts:=F.toList.map (·.type)) (j:=i) (by simp [hf]) hd n hn)
def Reads (enc:TypeId×Value→H) (P:Program) (w:World) (t:Nat) {α:Type} (cells:α→List D) (ok:α→Prop):Prop:=
 ∀fuel cs x,DataW.trod enc P w 0 (fun _=>true) true fuel t cs=some x→Wt P t x.1→∃a,ok a∧RepI w (cells a) cs
theorem RepI.one {d:D} {v:Value} (hd:d.isAgg=false) (h:RepD (Old w) w d v):RepI w [d] [v]:=
 ⟨rfl,fun x hx=>by simp only [List.mem_singleton] at hx;rw [hx];exact hd,fun j hj u hu=>by
  have:j=0:=by simpa using hj
  subst this
  simp only [List.getElem?_cons_zero,Option.some.injEq] at hu
  subst hu
  exact h⟩
theorem RepI.append {ds es:List D} {cs ks:List Value} (h:RepI w ds cs) (k:RepI w es ks):RepI w (ds ++ es) (cs ++ ks):=by
 obtain ⟨h1,h2,h3⟩:=h
 obtain ⟨k1,k2,k3⟩:=k
 refine ⟨by simp [h1,k1],fun d hd=>?_,fun j hj v hv=>?_⟩
 ·rcases List.mem_append.1 hd with hd | hd
  ·exact h2 d hd
  ·exact k2 d hd
 ·rw [List.getElem_append]
  split
  ·rename_i hlt
   rw [List.getElem?_append_left (by omega)] at hv
   exact h3 j hlt v hv
  ·rename_i hge
   rw [List.getElem?_append_right (by omega),← h1] at hv
   exact k3 (j - ds.length) (by simp at hj;omega) v hv
theorem Reads.map {t:Nat} {α β:Type} {cells:α→List D} {ok:α→Prop} (h:Reads enc P w t cells ok) {cells':β→List D} {ok':β→Prop} (g:α→β) (hc :∀a,cells' (g a)=cells a) (hk :∀a,ok a→ok' (g a)):Reads enc P w t cells' ok':=by
 intro fuel cs x hx hw
 obtain ⟨a,h1,h2⟩:=h fuel cs x hx hw
 exact ⟨g a,hk a h1,by rw [hc];exact h2⟩
theorem reads_int {t:Nat} {k:IntKind} (ht:P.underlying t=some (.int k)):Reads enc P w t (fun n:Int=>[.val (.int k n)]) (fun n=>(Lit.int k n).wf=true):=by
 intro fuel cs x h _
 obtain ⟨n,rfl,_,hw⟩:=DataW.trod_int ht h
 exact ⟨n,hw,RepI.one rfl (.val _ rfl)⟩
theorem reads_bool {t:Nat} (ht:P.underlying t=some .bool):Reads enc P w t (fun b:Bool=>[.val (.bool b)]) (fun _=>True):=by
 intro fuel cs x h _
 obtain ⟨b,rfl,_⟩:=DataW.trod_bool ht h
 exact ⟨b,trivial,RepI.one rfl (.val _ rfl)⟩
theorem reads_string {t:Nat} (ht:P.underlying t=some .string):Reads enc P w t (fun s:ByteArray=>[.val (.string s)]) (fun s=>s.size ≤ maxLen∧s.size ≤ reachBytes):=by
 intro fuel cs x h hw
 obtain ⟨s,rfl,rfl,hs⟩:=DataW.trod_string ht h
 have:=Wt.string hw
 rw [Array.length_toList] at this
 exact ⟨s,⟨hs,this⟩,RepI.one rfl (.val _ rfl)⟩
theorem reads_slice {t e sz by':Nat} {α:Type} {el:α→D} {ok:α→Prop} (ht:P.underlying t=some (.slice e)) (hsz:P.cellsOf e=sz) (hpos:0 < sz) (hby:P.bytesOf e=by') (h:Reads enc P w e (fun a=>(el a).cells) ok) :
  Reads enc P w t (fun l:List α=>[.lst sz (l.map el)]) (fun l=>l.length ≤ maxLen∧l.length * by' ≤ reachBytes∧∀a ∈ l,ok a):=by
 intro fuel cs x hx hw
 rcases open_slice ht hx with ⟨rfl,_⟩ | ⟨a,len,cap,m,n,D,Pl,rfl,_,hlc,hm,hmm,rfl,hel⟩
 ·exact ⟨[],⟨by simp,by simp,by simp⟩,RepI.one rfl (.lst0 _ _ _)⟩
 ·obtain ⟨hw1,hw2⟩:=Wt.slice ht hw
  have hw1:len * by' ≤ reachBytes:=by
   refine Nat.le_trans ?_ hw1
   rw [hby]
   exact Nat.mul_le_mul_right _ (by simp)
  have hmm:m=cap:=hmm.trans (if_pos rfl)
  subst hmm
  rw [hsz] at hel
  have one :∀i,i < len→∃q:α×List Value,ok q.1∧RepI w (el q.1).cells q.2∧w.cells? 0 (a.add (i * sz)) sz=some q.2:=by
   intro i hi
   obtain ⟨cs',h1,h2⟩:=hel i (by omega)
   obtain ⟨b,h3,h4⟩:=h n cs' _ h2 (hw2 _ (List.mem_map.2 ⟨i,List.mem_range.2 hi,rfl⟩))
   exact ⟨(b,cs'),h3,h4,h1⟩
  by_cases h0:len=0
  ·subst h0
   exact ⟨[],⟨by simp,by simp,by simp⟩,RepI.one rfl (.lst0 _ _ _)⟩
  ·obtain ⟨q0,_⟩:=one 0 (by omega)
   haveI:Inhabited (α×List Value):=⟨q0⟩
   obtain ⟨f,hf⟩:=choose_lt one
   have hspot:a.spot=none:=by
    obtain ⟨_,_,h3⟩:=hf 0 (by omega)
    obtain ⟨_,hl,hc⟩:=World.cells?_some h3
    have:=hc 0 hpos
    rw [Nat.zero_mul] at this
    have e:(a.add 0).add 0=a:=by simp [Addr.add]
    rw [e] at this
    have hlt:0 < (f 0).2.length:=by omega
    rw [List.getElem?_eq_getElem hlt] at this
    unfold World.cell? at this
    split at this
    ·cases hs:a.spot with
     | none=>rfl
     | some s=>simp [hs] at this
    ·simp at this
   obtain ⟨b,o,sp⟩:=a
   simp only at hspot
   subst hspot
   have hadd :∀i j,((⟨b,o,none⟩:Addr).add i).add j=⟨b,o + i + j,none⟩:=by
    intro i j
    rw [Addr.add_none,Addr.add_none]
   have hcell :∀i j,i < len→j < sz→∃v,(f i).2[j]?=some v∧cellAt w b (o + i * sz + j)=some v:=by
    intro i j hi hj
    obtain ⟨_,_,h3⟩:=hf i hi
    obtain ⟨_,hl,hc⟩:=World.cells?_some h3
    have:=hc j hj
    rw [hadd] at this
    have hlt:j < (f i).2.length:=by omega
    exact ⟨(f i).2[j],List.getElem?_eq_getElem hlt,by rw [List.getElem?_eq_getElem hlt] at this;exact this⟩
   have hlenq :∀i,i < len→(el (f i).1).cells.length=sz:=by
    intro i hi
    obtain ⟨_,h2,h3⟩:=hf i hi
    obtain ⟨_,hl,_⟩:=World.cells?_some h3
    rw [h2.1,hl]
   refine ⟨(List.range len).map fun i=>(f i).1,⟨by simp;omega,by simpa using hw1,fun a ha=>?_⟩,RepI.one rfl ?_⟩
   ·obtain ⟨i,hi,rfl⟩:=List.mem_map.1 ha
    exact (hf i (List.mem_range.1 hi)).1
   ·have hL:(((List.range len).map fun i=>(f i).1).map el).length=len:=by simp
    have:=RepD.lst (S:=Old w) (w:=w) sz (((List.range len).map fun i=>(f i).1).map el) b o m (fun i j=>((f i).2[j]?).getD undef) (by rw [hL];exact Nat.le_trans hlc hm) (by rw [hL];exact hlc) (fun i hi=>?_) (fun i j hi hj=>?_) (fun i hi j hj=>?_) (fun i hi j hj=>?_)
    ·rw [hL] at this
     exact this
    ·rw [hL] at hi
     simpa using hlenq i hi
    ·rw [hL] at hi
     obtain ⟨v,h1,h2⟩:=hcell i j hi hj
     exact ⟨⟨v,h2⟩,by rw [h2,h1];rfl⟩
    ·rw [hL] at hi
     obtain ⟨_,h2,_⟩:=hf i hi
     exact h2.2.1 _ (by simp)
    ·rw [hL] at hi
     obtain ⟨_,h2,_⟩:=hf i hi
     simp only [List.getElem_map,List.getElem_range] at hj ⊢
     have hj':j < sz:=by rw [hlenq i hi] at hj;exact hj
     obtain ⟨v,h1,_⟩:=hcell i j hi hj'
     rw [h1]
     exact h2.2.2 j hj v h1
def Chop (enc:TypeId×Value→H) (P:Program) (w:World):List (Nat×Nat)→List Value→Prop
 | [],cs=>cs=[]
 | (t,sz)::fs,cs=>sz ≤ cs.length∧(∃fuel x,DataW.trod enc P w 0 (fun _=>true) true fuel t (cs.take sz)=some x∧Wt P t x.1)∧Chop enc P w fs (cs.drop sz)
def ReadsF (enc:TypeId×Value→H) (P:Program) (w:World) (fs:List (Nat×Nat)) {α:Type} (cells:α→List D) (ok:α→Prop):Prop:=
 ∀cs,Chop enc P w fs cs→∃a,ok a∧RepI w (cells a) cs
theorem readsF_nil:ReadsF enc P w [] (fun _:Unit=>[]) (fun _=>True):=by
 intro cs h
 cases h
 exact ⟨(),trivial,rfl,fun d hd=>by simp at hd,fun j hj=>by simp at hj⟩
theorem readsF_cons {t sz:Nat} {fs:List (Nat×Nat)} {α β:Type} {ca:α→List D} {oa:α→Prop} {cb:β→List D} {ob:β→Prop} (ha:Reads enc P w t ca oa) (hb:ReadsF enc P w fs cb ob) :
  ReadsF enc P w ((t,sz)::fs) (fun x:α×β=>ca x.1 ++ cb x.2) (fun x=>oa x.1∧ob x.2):=by
 rintro cs ⟨_,⟨fuel,x,hx,hw⟩,hc⟩
 obtain ⟨a,h1,h2⟩:=ha fuel _ _ hx hw
 obtain ⟨b,h3,h4⟩:=hb _ hc
 exact ⟨(a,b),⟨h1,h3⟩,by have:=h2.append h4;rwa [List.take_append_drop] at this⟩
def contigB (P:Program):Nat→List Field→List (Nat×Nat)→Nat→Bool
 | o,[],[],n=>Nat.beq o n
 | o,f::F,(t,sz)::fs,n=>Nat.beq f.offset o && Nat.beq f.type t && Nat.beq (P.cellsOf f.type) sz && Nat.ble (o + sz) n && contigB P (o + sz) F fs n
 | _,_,_,_=>false
theorem chop_of {n:Nat} {cs:List Value} (hl:cs.length=n) :∀(F:List Field) (fs:List (Nat×Nat)) (o:Nat),contigB P o F fs n=true→
  (∀f ∈ F,∃fuel x,DataW.trod enc P w 0 (fun _=>true) true fuel f.type ((cs.drop f.offset).take (P.cellsOf f.type))=some x∧Wt P f.type x.1)→Chop enc P w fs (cs.drop o)
 | [],[],o,h,_=>by
  have:=Nat.eq_of_beq_eq_true h
  simp only [Chop]
  exact List.drop_eq_nil_of_le (by omega)
 | f::F,(t,sz)::fs,o,h,hf=>by
  simp only [contigB,Bool.and_eq_true,beq_iff] at h
  obtain ⟨⟨⟨⟨h1,h2⟩,h3⟩,h4⟩,h5⟩:=h
  have h4:=Nat.le_of_ble_eq_true h4
  obtain ⟨fuel,x,hx,hw⟩:=hf f (by simp)
  rw [h1,h3,h2] at hx
  rw [h2] at hw
  refine ⟨by simp;omega,⟨fuel,x,hx,hw⟩,?_⟩
  rw [List.drop_drop]
  exact chop_of hl F fs (o + sz) h5 fun g hg=>hf g (by simp [hg])
 | [],_::_,_,h,_=>by simp [contigB] at h
 | _::_,[],_,h,_=>by simp [contigB] at h
theorem reads_struct {t:Nat} {F:Array Field} {fs:List (Nat×Nat)} {α:Type} {cells:α→List D} {ok:α→Prop} (ht:P.underlying t=some (.struct F)) (hc:contigB P 0 F.toList fs (P.cellsOf t)=true) (h:ReadsF enc P w fs cells ok) :
  Reads enc P w t cells ok:=by
 intro fuel cs x hx hw
 obtain ⟨xs,n,_,rfl,hl,hlen,hf⟩:=DataW.trod_struct ht hx
 refine h cs ?_
 refine (chop_of (enc:=enc) (w:=w) hl F.toList fs 0 hc fun f hfm=>?_:Chop enc P w fs (cs.drop 0))
 ·obtain ⟨i,hi,rfl⟩:=List.getElem_of_mem hfm
  simp only [Array.length_toList] at hi
  have:=hf i F[i] (by simp [hi])
  rw [List.getElem?_eq_getElem (by omega)] at this
  exact ⟨n,_,by simpa using this,by simpa using Wt.agg ht hw (i:=i) (f:=F[i]) (by simp [hi]) (d:=xs[i].1) (by rw [List.getElem?_map,List.getElem?_eq_getElem (by omega)];rfl)⟩
theorem RepI.val {d:D} {v:Value} (h:RepI w [d] [v]):RepD (Old w) w d v:=h.2.2 0 (by simp) v (by simp)
theorem RepI.agg {ds:List D} {cs:Array Value} (h:RepI w ds cs.toList):RepD (Old w) w (.agg ds) (.agg cs):=by
 obtain ⟨h1,h2,h3⟩:=h
 refine .agg ds cs (fun i=>cs.getD i undef) (by simpa using h1.symm) (fun i hi=>?_) (fun i hi=>h2 _ (by simp)) fun i hi=>h3 i hi _ ?_
 ·have:i < cs.size:=by have:=h1;simp at this;omega
  simp [this]
 ·have:i < cs.size:=by have:=h1;simp at this;omega
  simp [this]
theorem open_sliceA {t:Nat} {α:Type} {cells:α→D} {ok:α→Prop} (h:Reads enc P w t (fun a=>[cells a]) ok) {a:Option Addr} {len cap:Nat} {d:DataW H} {p:List MemPlace}
  (hv:DataW.Trod enc P w 0 (fun _=>true) true t (.slice a len cap) d p) (hw:Wt P t d) :∃x,ok x∧RepD (Old w) w (cells x) (.slice a len cap):=by
 obtain ⟨fuel,hf⟩:=hv
 obtain ⟨x,h1,h2⟩:=h fuel _ _ hf hw
 exact ⟨x,h1,RepI.val (by simpa [Value.cells] using h2)⟩
theorem open_aggA {t:Nat} {α:Type} {cells:α→List D} {ok:α→Prop} (h:Reads enc P w t cells ok) {cs:Array Value} {d:DataW H} {p:List MemPlace}
  (hv:DataW.Trod enc P w 0 (fun _=>true) true t (.agg cs) d p) (hw:Wt P t d) :∃x,ok x∧RepD (Old w) w (.agg (cells x)) (.agg cs):=by
 obtain ⟨fuel,hf⟩:=hv
 obtain ⟨x,h1,h2⟩:=h fuel _ _ hf hw
 exact ⟨x,h1,RepI.agg (by simpa [Value.cells] using h2)⟩
end
end Go.AX
end
section
namespace Go.AX
def joinP {τ ρ:Type} (m:(τ→Option ρ)→Option ρ) (k:τ→Option ρ):Option ρ:=m k
def geti {α:Type} (l:List α) (i:Int):Option α:=if 0 ≤ i∧i < l.length then l[i.toNat]? else none
def seti {α:Type} (l:List α) (i:Int) (x:α):Option (List α):=if 0 ≤ i∧i < l.length then some (l.set i.toNat x) else none
def apnd {α:Type} (b:Nat) (l m:List α):Option (List α):=if (l.length + m.length) * b ≤ 2 ^ 47∧l.length + m.length ≤ 2 ^ 47 then some (l ++ m) else none
def part {α:Type} (l:List α) (a b:Int):Option (List α):=if 0 ≤ a∧a ≤ b∧b ≤ l.length then some ((l.drop a.toNat).take (b.toNat - a.toNat)) else none
def spart (s:ByteArray) (a b:Int):Option ByteArray:=if 0 ≤ a∧a ≤ b∧b ≤ s.size then some (s.extract a.toNat b.toNat) else none
def chk (p:Prop) [Decidable p]:Option Unit:=if p then some () else none
abbrev i64w (x:Int):Int:=IntKind.i64.wrap x
def forR {α σ ρ:Type} (done:σ→Option ρ) (body:(σ→Option ρ)→α→Nat→σ→Option ρ):List α→Nat→σ→Option ρ
 | [],_,s=>done s
 | x::t,i,s=>body (forR done body t (i + 1)) x i s
def whileR {σ ρ:Type} (body:(σ→Option ρ)→σ→Option ρ):Nat→σ→Option ρ
 | 0,_=>none
 | n + 1,s=>body (whileR body n) s
def fuel:Nat:=2 ^ 64
abbrev D.u8 (x:UInt8):D:=.val (.int .u8 (x.toNat:Int))
abbrev D.u16 (x:UInt16):D:=.val (.int .u16 (x.toNat:Int))
abbrev D.u32 (x:UInt32):D:=.val (.int .u32 (x.toNat:Int))
abbrev D.u64 (x:UInt64):D:=.val (.int .u64 (x.toNat:Int))
abbrev D.l {α:Type} (sz:Nat) (f:α→D) (l:List α):D:=.lst sz (l.map f)
theorem bind_inv {α ρ:Type} {x:Option α} {f:α→Option ρ} {r:ρ} (h:x.bind f=some r) :∃a,x=some a∧f a=some r:=by
 cases x with
 | none=>cases h
 | some a=>exact ⟨a,rfl,h⟩
theorem sel_if {b:Bool} {ρ:Type} {X Y:Option ρ} {r:ρ} {A B:Prop} (h1:X=some r→A) (h2:Y=some r→B):(if b=true then X else Y)=some r→selK b A B:=by
 intro h
 cases b
 ·exact h2 h
 ·exact h1 h
theorem sel_t {b:Bool} {A B:Prop} (hb:b=true) (h:A):selK b A B:=by subst hb;exact h
theorem sel_f {b:Bool} {A B:Prop} (hb:b=false) (h:B):selK b A B:=by subst hb;exact h
theorem geti_b {α β:Type} {f:α→β} {l:List α} {i:Int} {v:α} (h:geti l i=some v):0 ≤ i∧i < ((l.map f).length:Int):=by
 unfold geti at h
 split at h
 ·rename_i hb;simpa using hb
 ·cases h
theorem geti_b' {α β:Type} {f:α→β} {l:List α} {i:Int} {v:α} (h:geti l i=some v):0 ≤ i∧i < (((l.map f).length:Nat):Int):=geti_b h
theorem geti_d {α:Type} {f:α→D} {l:List α} {i:Int} {v:α} (h:geti l i=some v):(l.map f).getD i.toNat default=f v:=by
 unfold geti at h
 split at h
 ·rename_i hb;simp [h]
 ·cases h
theorem geti_a {α:Type} {f:α→AV} {l:List α} {i:Int} {v:α} (h:geti l i=some v):(l.map f)[i.toNat * 1]?=some (f v):=by
 unfold geti at h
 split at h
 ·simp [h]
 ·cases h
theorem geti_a0 {α:Type} {f:α→AV} {l:List α} {i:Int} {v:α} (h:geti l i=some v):(l.map f)[0 + i.toNat]?=some (f v):=by
 unfold geti at h
 split at h
 ·simp [h]
 ·cases h
theorem geti_s {s:ByteArray} {i:Int} {v:UInt8} (h:geti s.toList i=some v):0 ≤ i∧i < (s.size:Int):=by
 have e:s.toList.length=s.size:=by rw [ByteArray.toList_eq,Array.length_toList];rfl
 unfold geti at h
 split at h
 ·rename_i hb;rw [e] at hb;exact hb
 ·cases h
theorem geti_sd {s:ByteArray} {i:Int} {v:UInt8} (h:geti s.toList i=some v):s.toList.getD i.toNat 0=v:=by
 unfold geti at h
 split at h
 ·simp [h]
 ·cases h
def bs (l:List UInt8):ByteArray:=⟨l.toArray⟩
theorem seti_b {α β:Type} {f:α→β} {l l':List α} {i:Int} {v:α} (h:seti l i v=some l'):0 ≤ i∧i < ((l.map f).length:Int):=by
 unfold seti at h
 split at h
 ·rename_i hb;simpa using hb
 ·cases h
theorem seti_z {α:Type} {f:α→D} {l l':List α} {i:Int} {v:α} (h:seti l i v=some l'):(l.map f).set i.toNat (f v)=l'.map f:=by
 unfold seti at h
 split at h
 ·cases h;rw [List.map_set]
 ·cases h
theorem seti_len {α:Type} {l l':List α} {i:Int} {v:α} (h:seti l i v=some l'):l'.length=l.length:=by
 unfold seti at h
 split at h
 ·cases h;simp
 ·cases h
theorem apnd_e {α:Type} {b:Nat} {l m l':List α} (h:apnd b l m=some l'):l'=l ++ m:=by
 unfold apnd at h
 split at h
 ·cases h;rfl
 ·cases h
theorem apnd_b {α:Type} {b:Nat} {l m l':List α} {f g:α→D} (h:apnd b l m=some l'):((l.map f).length + (m.map g).length) * b ≤ 2 ^ 47∧(l.map f).length + (m.map g).length ≤ 2 ^ 47:=by
 unfold apnd at h
 split at h
 ·rename_i hb;simpa using hb
 ·cases h
theorem apnd_b0 {α:Type} {b:Nat} {m l':List α} {g:α→D} (h:apnd b [] m=some l'):(m.map g).length * b ≤ 2 ^ 47∧(m.map g).length ≤ 2 ^ 47:=by
 simpa using apnd_b (f:=g) (g:=g) h
theorem apnd_z {α:Type} {b:Nat} {l m l':List α} {f:α→D} (h:apnd b l m=some l'):l.map f ++ m.map f=l'.map f:=by
 rw [apnd_e h,List.map_append]
theorem part_b {α:Type} {f:α→D} {l l':List α} {a b:Int} (h:part l a b=some l'):0 ≤ a∧a ≤ b∧b ≤ ((l.map f).length:Int):=by
 unfold part at h
 split at h
 ·rename_i hb;simpa using hb
 ·cases h
theorem part_b0 {α:Type} {f:α→D} {l l':List α} {a:Int} (h:part l a l.length=some l'):0 ≤ a∧a ≤ ((l.map f).length:Int)∧((l.map f).length:Int) ≤ ((l.map f).length:Int):=by
 have:=part_b (f:=f) h
 simp at this ⊢
 exact this
theorem part_z {α:Type} {f:α→D} {l l':List α} {a b:Int} (h:part l a b=some l'):((l.map f).drop a.toNat).take (b.toNat - a.toNat)=l'.map f:=by
 unfold part at h
 split at h
 ·cases h;rw [List.map_take,List.map_drop]
 ·cases h
theorem part_z0 {α:Type} {f:α→D} {l l':List α} {a:Int} (h:part l a l.length=some l'):((l.map f).drop a.toNat).take (((l.map f).length:Int).toNat - a.toNat)=l'.map f:=by
 have:=part_z (f:=f) h
 simpa using this
theorem spart_inv {s s':ByteArray} {a b:Int} (h:spart s a b=some s'):(0 ≤ a∧a ≤ b∧b ≤ (s.size:Int))∧s.extract a.toNat b.toNat=s':=by
 unfold spart at h
 split at h
 ·rename_i hb;cases h;exact ⟨hb,rfl⟩
 ·cases h
theorem make_b {n c:Int} {b:Nat} {u:Unit} (h:chk (0 ≤ n∧n ≤ c∧c ≤ 1048576)=some u) (hb:b ≤ 65536):0 ≤ n∧n ≤ c∧c ≤ 1048576∧b ≤ 65536:=by
 unfold chk at h
 split at h
 ·rename_i q;exact ⟨q.1,q.2.1,q.2.2,hb⟩
 ·cases h
def mget {K V:Type} [BEq K]:List (K×V)→K→Option V
 | [],_=>none
 | p::l,k=>if k == p.1 then some p.2 else mget l k
def mset {K V:Type} [BEq K]:List (K×V)→K→V→List (K×V)
 | [],k,v=>[(k,v)]
 | p::l,k,v=>if k == p.1 then (k,v)::l else p::mset l k v
def entsD {K V:Type} (ek:K→D) (ev:V→D) (l:List (K×V)):List (D×D):=l.map fun p=>(ek p.1,ev p.2)
theorem mapGet_ok {K V:Type} [BEq K] {tk:TK} {ek:K→D} {ev:V→D} {l:List (K×V)} {k:K} (h :∀a b,keyEq tk (ek a) (ek b)=some (a == b)):mapGet tk (ek k) (entsD ek ev l)=some ((mget l k).map ev):=by
 induction l with
 | nil=>rfl
 | cons p l ih=>
  simp only [entsD,List.map_cons,mapGet,h,mget]
  cases k == p.1
  ·simpa [entsD] using ih
  ·simp
theorem mapSet_ok {K V:Type} [BEq K] {tk:TK} {ek:K→D} {ev:V→D} {l:List (K×V)} {k:K} {v:V} (h :∀a b,keyEq tk (ek a) (ek b)=some (a == b)):mapSet tk (ek k) (ev v) (entsD ek ev l)=some (entsD ek ev (mset l k v)):=by
 induction l with
 | nil=>rfl
 | cons p l ih=>
  simp only [entsD,List.map_cons,mapSet,h,mset]
  cases k == p.1
  ·simp only [entsD] at ih
   simp [ih]
  ·simp
theorem mapGet_none {K V:Type} [BEq K] {tk:TK} {ek:K→D} {ev:V→D} {l:List (K×V)} {k:K} {u:Unit} (h :∀a b,keyEq tk (ek a) (ek b)=some (a == b)) (g:chk ((mget l k).isNone=true)=some u):mapGet tk (ek k) (entsD ek ev l)=some none:=by
 rw [mapGet_ok h]
 unfold chk at g
 split at g
 ·rename_i q
  cases hm:mget l k with
  | none=>rfl
  | some v=>rw [hm] at q;simp at q
 ·simp at g
theorem mget_d {V:Type} {f:V→D} {o:Option V} {z:V} {zD:D} (hz:zD=f z):(o.map f).getD zD=f (o.getD z):=by
 cases o<;>simp [hz]
theorem mget_s {V:Type} {f:V→D} {o:Option V}:(o.map f).isSome=o.isSome:=by
 cases o<;>rfl
theorem mget_dg {V:Type} {f:V→D} {o:Option V} {z v:V} {zD:D} (hz:zD=f z) (g:some (o.getD z)=some v):(o.map f).getD zD=f v:=by
 rw [mget_d hz,Option.some.inj g]
theorem mget_sg {V:Type} {f:V→D} {o:Option V} {b:Bool} (g:some o.isSome=some b):(o.map f).isSome=b:=by
 rw [mget_s,Option.some.inj g]
theorem keyEq_i (a b:Int):keyEq (.int .i64) (D.i a) (D.i b)=some (a == b):=by simp [keyEq]
theorem keyEq_b (a b:Bool):keyEq .bool (D.b a) (D.b b)=some (a == b):=rfl
theorem keyEq_s (a b:ByteArray):keyEq .str (D.s a) (D.s b)=some (a == b):=rfl
theorem keyEq_u8 (a b:UInt8):keyEq (.int .u8) (D.u8 a) (D.u8 b)=some (a == b):=by
 simp only [keyEq,if_true,Option.some.injEq]
 rw [Bool.eq_iff_iff]
 simp only [beq_iff_eq,Int.natCast_inj]
 exact UInt8.toNat_inj
theorem keyEq_u16 (a b:UInt16):keyEq (.int .u16) (D.u16 a) (D.u16 b)=some (a == b):=by
 simp only [keyEq,if_true,Option.some.injEq]
 rw [Bool.eq_iff_iff]
 simp only [beq_iff_eq,Int.natCast_inj]
 exact UInt16.toNat_inj
theorem keyEq_u32 (a b:UInt32):keyEq (.int .u32) (D.u32 a) (D.u32 b)=some (a == b):=by
 simp only [keyEq,if_true,Option.some.injEq]
 rw [Bool.eq_iff_iff]
 simp only [beq_iff_eq,Int.natCast_inj]
 exact UInt32.toNat_inj
theorem keyEq_u64 (a b:UInt64):keyEq (.int .u64) (D.u64 a) (D.u64 b)=some (a == b):=by
 simp only [keyEq,if_true,Option.some.injEq]
 rw [Bool.eq_iff_iff]
 simp only [beq_iff_eq,Int.natCast_inj]
 exact UInt64.toNat_inj
theorem chk_inv {p:Prop} [Decidable p] {u:Unit} (h:chk p=some u):p:=by
 unfold chk at h
 split at h
 ·assumption
 ·cases h
theorem cut_join {τ ρ:Type} {np:Nat} {X:(ASt→Prop)→Prop} {K:ASt→Prop} {m:(τ→Option ρ)→Option ρ} {k:τ→Option ρ} {r:ρ} (St:τ→ASt)
  (h1 :∀k':τ→Option ρ,m k'=some r→X (fun t=>∃s,Weak np t s∧∃v,k' v=some r∧s=St v)) (h2 :∀v,k v=some r→K (St v)):joinP m k=some r→CutP np X K:=
 fun h=>.cut (fun s=>∃v,k v=some r∧s=St v) (h1 k h) fun _ ⟨v,hv,hs⟩=>hs ▸ h2 v hv
theorem view_b {α:Type} {l:List α} {a b:Int} {u:Unit} {f:α→D} (h:chk (0 ≤ a∧a ≤ b∧b ≤ (l.length:Int))=some u):0 ≤ a∧a ≤ b∧b ≤ ((l.map f).length:Int):=by
 rw [List.length_map];exact chk_inv h
theorem view_b0 {α:Type} {l:List α} {a:Int} {u:Unit} {f:α→D} (h:chk (0 ≤ a∧a ≤ (l.length:Int)∧(l.length:Int) ≤ (l.length:Int))=some u):0 ≤ a∧a ≤ ((l.map f).length:Int)∧((l.map f).length:Int) ≤ ((l.map f).length:Int):=by
 rw [List.length_map];exact chk_inv h
theorem view_z {α:Type} {l:List α} {a n:Nat} {f:α→D}:((l.map f).drop a).take n=List.map f ((l.drop a).take n):=by simp
theorem view_i {α:Type} {l:List α} {a n:Nat} {i:Int} {v:α} (h:geti ((l.drop a).take n) i=some v):0 ≤ i∧i < (n:Int):=by
 unfold geti at h
 split at h
 ·rename_i hq
  have:((l.drop a).take n).length ≤ n:=List.length_take_le _ _
  omega
 ·simp at h
theorem view_d {α:Type} {l:List α} {a n:Nat} {i:Int} {v:α} {f:α→D} (h:geti ((l.drop a).take n) i=some v):(l.map f).getD (a + i.toNat) default=f v:=by
 unfold geti at h
 split at h
 ·rename_i hq
  rw [List.getElem?_take,if_pos (by have:((l.drop a).take n).length ≤ n:=List.length_take_le _ _;omega),List.getElem?_drop] at h
  simp [List.getD_eq_getElem?_getD,h]
 ·simp at h
theorem view_w {α:Type} {f:α→D} {l:List α} {a n:Nat}:((l.map f).drop a).take n=((l.drop a).take n).map f:=by simp
theorem move_b {α:Type} {l v:List α} {a b:Int} {f:α→D} (h:part l a b=some v):0 ≤ a∧a ≤ b∧b ≤ b∧b ≤ ((l.map f).length:Int):=by
 have:=part_b (f:=f) h
 exact ⟨this.1,this.2.1,Int.le_refl _,this.2.2⟩
theorem move_b0 {α:Type} {l v:List α} {a:Int} {f:α→D} (h:part l a l.length=some v):0 ≤ a∧a ≤ ((l.map f).length:Int)∧((l.map f).length:Int) ≤ ((l.map f).length:Int)∧((l.map f).length:Int) ≤ ((l.map f).length:Int):=by
 have:=part_b0 (f:=f) h
 exact ⟨this.1,this.2.1,Int.le_refl _,Int.le_refl _⟩
theorem move_bm {α:Type} {l v:List α} {a b m:Int} {f:α→D} {u:Unit} (h:part l a b=some v) (hm:chk (b ≤ m∧m ≤ (l.length:Int))=some u):0 ≤ a∧a ≤ b∧b ≤ m∧m ≤ ((l.map f).length:Int):=by
 have h1:=part_b (f:=f) h
 have h2:=chk_inv hm
 rw [List.length_map]
 exact ⟨h1.1,h1.2.1,h2.1,h2.2⟩
theorem clear_z {α:Type} {l:List α} {a n:Nat} {z:α} {f:α→D}:(l.map f).take a ++ List.replicate n (f z) ++ (l.map f).drop (a + n)=List.map f (l.take a ++ List.replicate n z ++ l.drop (a + n)):=by simp
def cw (s s':ASt):List AV→List D→Prop
 | [],[]=>True
 | a::l,y::l'=>(y.isAgg=false∧AvW s s' a (.d y))∧cw s s' l l'
 | _,_=>False
theorem cw_len {s s':ASt} :∀{cs:List AV} {ys:List D},cw s s' cs ys→ys.length=cs.length
 | [],[],_=>rfl
 | _::_,_::_,h=>by simp [cw_len h.2]
theorem cw_get {s s':ASt} :∀{cs:List AV} {ys:List D},cw s s' cs ys→∀i (hi:i < cs.length) (hi':i < ys.length),ys[i].isAgg=false∧AvW s s' cs[i] (.d ys[i])
 | [],[],_,i,hi,_=>by simp at hi
 | _::_,_::_,h,0,_,_=>h.1
 | _::_,_::_,h,i + 1,hi,hi'=>cw_get h.2 i (by simpa using hi) (by simpa using hi')
theorem _root_.Go.AX.AvW.box {s s':ASt} (r:Nat) (cs:List AV) (ys:List D) (sz:Nat) (h:s.ob.getD r none=some (.box cs)) (h':s'.ob.getD r none=none) (hsz:sz=cs.length) (hp:0 < cs.length) (hc:cw s s' cs ys):AvW s s' (.own r 1) (.d (.lst sz [.agg ys])):=
 .lstB r cs ys sz h h' hsz (cw_len hc) hp (fun i hi hi'=>(cw_get hc i hi hi').2) fun i hi=>(cw_get hc i (by rw [← cw_len hc];exact hi) hi).1
theorem join_end {τ ρ:Type} {np:Nat} {t:ASt} {St:τ→ASt} {k:τ→Option ρ} {r:ρ} {v:τ} (hw:Weak np t (St v)) (h:k v=some r) :∃s,Weak np t s∧∃v,k v=some r∧s=St v:=
 ⟨_,hw,v,h,rfl⟩
theorem loop_for {np:Nat} {body:(AE→ASt→Prop)→ASt→Prop} {K:AE→ASt→Prop} {st:ASt} {α σ ρ:Type} {done:σ→Option ρ} {bd:(σ→Option ρ)→α→Nat→σ→Option ρ} {l:List α} {s0:σ} {r:ρ}
  (slot sz:Nat) (enc:α→D) (hs:st.tm.getD slot .dead=.d (.lst sz (l.map enc))) (St:Nat→σ→ASt) (hw:Weak np st (St 0 s0))
  (hend :∀(s:σ) (K':ASt→Prop),done s=some r→body (onL K K') (St l.length s))
  (hstep :∀(next:σ→Option ρ) (i:Nat) (x:α) (s:σ) (K':ASt→Prop),i < l.length→(l.map enc).getD i default=enc x→IntKind.i64.wrap ((i:Int) + 1)=((i + 1:Nat):Int)→bd next x i s=some r→
   (∀t v,Weak np t (St (i + 1) v)→next v=some r→K' t)→body (onL K K') (St i s)):forR done bd l 0 s0=some r→LoopP np body K st:=by
 intro h
 refine .mk fun hb _=>?_
 have hl:l.length ≤ 9223372036854775807:=by simpa using hb slot sz _ hs
 refine ⟨fun s n=>∃(i:Nat) (v:σ),n=l.length - i∧i ≤ l.length∧forR done bd (l.drop i) i v=some r∧s=St i v,⟨St 0 s0,l.length,hw,0,s0,by simp,by simp,by simpa using h,rfl⟩,?_⟩
 rintro _ n ⟨i,v,hn,hi,hf,rfl⟩
 by_cases he:i=l.length
 ·subst he
  simp only [List.drop_length,forR] at hf
  exact hend v _ hf
 ·have hlt:i < l.length:=by omega
  rw [List.drop_eq_getElem_cons hlt] at hf
  simp only [forR] at hf
  exact hstep _ i l[i] v _ hlt (by simp [hlt]) (i64_id (by omega) ⟨by omega,by omega⟩) hf
   fun t v' hw' hn'=>⟨_,l.length - (i + 1),by omega,hw',i + 1,v',rfl,by omega,hn',rfl⟩
theorem loop_own {np:Nat} {body:(AE→ASt→Prop)→ASt→Prop} {K:AE→ASt→Prop} {st:ASt} {α σ ρ:Type} {done:σ→Option ρ} {bd:(σ→Option ρ)→α→Nat→σ→Option ρ} {l:List α} {s0:σ} {r:ρ}
  (slot e sz:Nat) (fz:Bool) (enc:α→D) (hs:st.ob.getD slot none=some (.row e sz (l.map enc) fz)) (St:Nat→σ→ASt) (hw:Weak np st (St 0 s0))
  (hend :∀(s:σ) (K':ASt→Prop),done s=some r→body (onL K K') (St l.length s))
  (hstep :∀(next:σ→Option ρ) (i:Nat) (x:α) (s:σ) (K':ASt→Prop),i < l.length→(l.map enc).getD i default=enc x→IntKind.i64.wrap ((i:Int) + 1)=((i + 1:Nat):Int)→bd next x i s=some r→
   (∀t v,Weak np t (St (i + 1) v)→next v=some r→K' t)→body (onL K K') (St i s)):forR done bd l 0 s0=some r→LoopP np body K st:=by
 intro h
 refine .mk fun _ hb=>?_
 have hl:l.length ≤ 9223372036854775807:=by simpa using hb slot _ _ _ _ hs
 refine ⟨fun s n=>∃(i:Nat) (v:σ),n=l.length - i∧i ≤ l.length∧forR done bd (l.drop i) i v=some r∧s=St i v,⟨St 0 s0,l.length,hw,0,s0,by simp,by simp,by simpa using h,rfl⟩,?_⟩
 rintro _ n ⟨i,v,hn,hi,hf,rfl⟩
 by_cases he:i=l.length
 ·subst he
  simp only [List.drop_length,forR] at hf
  exact hend v _ hf
 ·have hlt:i < l.length:=by omega
  rw [List.drop_eq_getElem_cons hlt] at hf
  simp only [forR] at hf
  exact hstep _ i l[i] v _ hlt (by simp [hlt]) (i64_id (by omega) ⟨by omega,by omega⟩) hf
   fun t v' hw' hn'=>⟨_,l.length - (i + 1),by omega,hw',i + 1,v',rfl,by omega,hn',rfl⟩
theorem lt_t {α:Type} {l:List α} {i:Nat} (h:i < l.length):decide ((i:Int) < (l.length:Int))=true:=by simpa using h
theorem lt_f {α:Type} {l:List α}:decide ((l.length:Int) < (l.length:Int))=false:=by simp
theorem idx_b {α β:Type} {f:α→β} {l:List α} {i:Nat} (h:i < l.length):0 ≤ (i:Int)∧(i:Int) < ((l.map f).length:Int):=⟨by omega,by simpa using h⟩
theorem loop_while {np:Nat} {body:(AE→ASt→Prop)→ASt→Prop} {K:AE→ASt→Prop} {st:ASt} {σ ρ:Type} {bd:(σ→Option ρ)→σ→Option ρ} {n:Nat} {s0:σ} {r:ρ}
  (St:σ→ASt) (hw:Weak np st (St s0))
  (hstep :∀(next:σ→Option ρ) (s:σ) (K':ASt→Prop),bd next s=some r→(∀t v,Weak np t (St v)→next v=some r→K' t)→body (onL K K') (St s)):whileR bd n s0=some r→LoopP np body K st:=by
 intro h
 refine .mk fun _ _=>⟨fun s n=>∃v,whileR bd n v=some r∧s=St v,⟨St s0,n,hw,s0,h,rfl⟩,?_⟩
 rintro _ m ⟨v,hf,rfl⟩
 cases m with
 | zero=>cases hf
 | succ m=>exact hstep _ v _ hf fun t v' hw' hn'=>⟨_,m,Nat.lt_succ_self m,hw',v',hn',rfl⟩
def maskOf (ps:List Nat) (acc:List Nat):Nat:=ps.foldl (fun m j=>m ||| 2 ^ j ||| acc.getD (acc.length - 1 - j) 0) 0
def ancB:List Oper→List Nat→List Nat
 | [],acc=>acc
 | o::l,acc=>ancB l (maskOf (preds o) acc::acc)
def pairsB (ops:Array Oper) (o:Oper) (m:Nat):List Oper→Bool
 | []=>true
 | q::prev=>(m.testBit prev.length || q.apart ops o) && pairsB ops o m prev
def drawB.go (ops:Array Oper):List Oper→List Oper→List Nat→Bool
 | [],_,_=>true
 | o::l,prev,masks=>(preds o).all (fun j=>Nat.blt j prev.length) && (match o.op with | .select _ _=>false | _=>true) && pairsB ops o (maskOf (preds o) masks) prev &&
   drawB.go ops l (o::prev) (maskOf (preds o) masks::masks)
def drawB (ops:Array Oper):Bool:=drawB.go ops ops.toList [] []
theorem ancs_append :∀(a b:List Oper) (acc:List (List Nat)),ancs (a ++ b) acc=ancs b (ancs a acc)
 | [],_,_=>rfl
 | o::a,b,acc=>ancs_append a b _
theorem ancs_suffix :∀(l:List Oper) (acc:List (List Nat)),∃p,ancs l acc=p ++ acc∧p.length=l.length
 | [],acc=>⟨[],rfl,rfl⟩
 | o::l,acc=>by
  obtain ⟨p,h1,h2⟩:=ancs_suffix l (((preds o).flatMap fun j=>j::acc.getD (acc.length - 1 - j) [])::acc)
  exact ⟨p ++ [(preds o).flatMap fun j=>j::acc.getD (acc.length - 1 - j) []],by rw [ancs,h1];simp,by simp [h2]⟩
def MaskR (masks:List Nat) (acc:List (List Nat)):Prop:=masks.length=acc.length∧∀k j,(masks.getD k 0).testBit j=true→j ∈ acc.getD k []
theorem maskOf_mem {masks:List Nat} {acc:List (List Nat)} (h:MaskR masks acc) (ps:List Nat) (j:Nat) (hj:(maskOf ps masks).testBit j=true):j ∈ ps.flatMap fun j=>j::acc.getD (acc.length - 1 - j) []:=by
 have key :∀(ps:List Nat) (m:Nat),(ps.foldl (fun m j=>m ||| 2 ^ j ||| masks.getD (masks.length - 1 - j) 0) m).testBit j=true→
   m.testBit j=true ∨ j ∈ ps.flatMap fun j=>j::acc.getD (acc.length - 1 - j) []:=by
  intro ps
  induction ps with
  | nil=>intro m h;exact .inl h
  | cons p ps ih=>
   intro m hm
   simp only [List.foldl_cons] at hm
   rcases ih _ hm with g | g
   ·simp only [Nat.testBit_or,Bool.or_eq_true,Nat.testBit_two_pow,decide_eq_true_eq] at g
    rcases g with (g | g) | g
    ·exact .inl g
    ·subst g;exact .inr (by simp)
    ·rw [h.1] at g
     have:=h.2 _ _ g
     exact .inr (by simp only [List.flatMap_cons,List.mem_append,List.mem_cons];exact .inl (.inr this))
   ·exact .inr (by simp only [List.flatMap_cons,List.mem_append];exact .inr g)
 rcases key ps 0 hj with g | g
 ·simp at g
 ·exact g
theorem MaskR.cons {masks:List Nat} {acc:List (List Nat)} (h:MaskR masks acc) (ps:List Nat):MaskR (maskOf ps masks::masks) ((ps.flatMap fun j=>j::acc.getD (acc.length - 1 - j) [])::acc):=by
 refine ⟨by simp [h.1],fun k j hk=>?_⟩
 cases k with
 | zero=>exact maskOf_mem h ps j hk
 | succ k=>exact h.2 k j hk
theorem ancB_R :∀(l:List Oper) {masks:List Nat} {acc:List (List Nat)},MaskR masks acc→MaskR (ancB l masks) (ancs l acc)
 | [],_,_,h=>h
 | o::l,_,_,h=>ancB_R l (h.cons (preds o))
theorem pairsB_ok {ops:Array Oper} {o:Oper} {m:Nat} :∀{prev:List Oper},pairsB ops o m prev=true→∀j q,j < prev.length→prev.reverse[j]?=some q→m.testBit j=true ∨ q.apart ops o=true
 | [],_,j,q,hj,_=>by simp at hj
 | p::prev,h,j,q,hj,hq=>by
  simp only [pairsB,Bool.and_eq_true,Bool.or_eq_true] at h
  simp only [List.reverse_cons] at hq
  by_cases he:j=prev.length
  ·subst he
   rw [List.getElem?_append_right (by simp)] at hq
   simp at hq
   subst hq
   exact h.1
  ·have hlt:j < prev.length:=by simp at hj;omega
   rw [List.getElem?_append_left (by simpa using hlt)] at hq
   exact pairsB_ok h.2 j q hlt hq
theorem drawGo_ok {ops:Array Oper} :∀(l prev:List Oper) (masks:List Nat),prev.reverse ++ l=ops.toList→MaskR masks (ancs prev.reverse [])→drawB.go ops l prev masks=true→
  ∀i o,prev.length ≤ i→ops[i]?=some o→((preds o).all (fun j=>Nat.blt j i) && (match o.op with | .select _ _=>false | _=>true) &&
   (List.range i).all fun j=>(ancOf ops i).contains j || (match ops[j]? with
    | none=>false
    | some q=>q.apart ops o))=true
 | [],prev,masks,hl,_,_,i,o,hi,ho=>by
  have:ops.toList.length=prev.length:=by rw [← hl];simp
  simp only [Array.length_toList] at this
  have:=(Array.getElem?_eq_some_iff.1 ho).1
  omega
 | q::l,prev,masks,hl,hR,h,i,o,hi,ho=>by
  simp only [drawB.go,Bool.and_eq_true] at h
  obtain ⟨⟨⟨h1,h2⟩,h3⟩,h4⟩:=h
  by_cases he:i=prev.length
  ·subst he
   have ho':ops.toList[prev.length]?=some o:=by simpa using ho
   rw [← hl,List.getElem?_append_right (by simp)] at ho'
   simp at ho'
   subst ho'
   have ha:ancOf ops prev.length=(preds q).flatMap fun j=>j::(ancs prev.reverse []).getD ((ancs prev.reverse []).length - 1 - j) []:=by
    unfold ancOf
    rw [← hl,ancs_append,ancs]
    obtain ⟨p,hp,hpl⟩:=ancs_suffix l (((preds q).flatMap fun j=>j::(ancs prev.reverse []).getD ((ancs prev.reverse []).length - 1 - j) [])::ancs prev.reverse [])
    have hs:ops.size - 1 - prev.length=p.length:=by
     have:ops.toList.length=prev.length + (l.length + 1):=by rw [← hl];simp
     simp only [Array.length_toList] at this
     omega
    rw [hp,hs]
    simp
   simp only [Bool.and_eq_true]
   refine ⟨⟨h1,h2⟩,?_⟩
   rw [List.all_eq_true]
   intro j hj
   have hj:=List.mem_range.1 hj
   have hjs :∃p,ops[j]?=some p∧prev.reverse[j]?=some p:=by
    have hlt:j < prev.reverse.length:=by simpa using hj
    refine ⟨prev.reverse[j],?_,List.getElem?_eq_getElem hlt⟩
    have:ops.toList[j]?=some prev.reverse[j]:=by rw [← hl,List.getElem?_append_left hlt,List.getElem?_eq_getElem hlt]
    simpa using this
   obtain ⟨p,hp1,hp2⟩:=hjs
   rw [Bool.or_eq_true]
   rcases pairsB_ok h3 j p hj hp2 with g | g
   ·left
    rw [ha]
    simpa using maskOf_mem hR (preds q) j g
   ·right
    rw [hp1]
    exact g
  ·refine drawGo_ok l (q::prev) _ (by simpa using hl) ?_ h4 i o (by simp;omega) ho
   rw [List.reverse_cons,ancs_append]
   exact hR.cons (preds q)
theorem drawB_ok {ops:Array Oper} (h:drawB ops=true):drawOK ops=true:=by
 unfold drawOK
 rw [List.all_eq_true]
 intro i hi
 have hi:=List.mem_range.1 hi
 have:=drawGo_ok ops.toList [] [] (by simp) ⟨rfl,fun k j hk=>by simp at hk⟩ h i ops[i] (by simp) (by simp [hi])
 simp only [hi,getElem?_pos]
 exact this
def confB.conf (M:List Nat) (n i:Nat) (fp wr:List Nat):Nat→List (List Nat×List Nat)→Bool
 | _,[]=>true
 | j,(fp',wr')::l=>((M.getD (n - 1 - j) 0).testBit i || ((wr.all fun r=>!fp'.contains r) && fp.all fun r=>!wr'.contains r)) && confB.conf M n i fp wr (j + 1) l
def confB.go (M:List Nat) (n:Nat):Nat→List (List Nat×List Nat)→Bool
 | _,[]=>true
 | i,(fp,wr)::l=>confB.conf M n i fp wr (i + 1) l && confB.go M n (i + 1) l
def confB (ops:Array Oper) (evs:List (List Nat×List Nat)):Bool:=confB.go (ancB ops.toList []) ops.size 0 evs
theorem confB_ok {ops:Array Oper} {evs:List (List Nat×List Nat)} (h:confB ops evs=true):confOK ops 0 evs=true:=by
 have hR:=ancB_R ops.toList (masks:=[]) (acc:=[]) ⟨rfl,fun k j hk=>by simp at hk⟩
 have c :∀(l:List (List Nat×List Nat)) (i:Nat) (fp wr:List Nat) (j:Nat),confB.conf (ancB ops.toList []) ops.size i fp wr j l=true→confOK.conf ops i fp wr j l=true:=by
  intro l
  induction l with
  | nil=>intro i fp wr j _;rfl
  | cons x l ih=>
   intro i fp wr j hc
   obtain ⟨fp',wr'⟩:=x
   simp only [confB.conf,Bool.and_eq_true] at hc
   simp only [confOK.conf,Bool.and_eq_true]
   refine ⟨?_,ih _ _ _ _ hc.2⟩
   have hc1:=hc.1
   rw [Bool.or_eq_true] at hc1 ⊢
   rcases hc1 with g | g
   ·exact .inl (by simpa [ancOf] using hR.2 _ _ g)
   ·exact .inr g
 have g :∀(l:List (List Nat×List Nat)) (i:Nat),confB.go (ancB ops.toList []) ops.size i l=true→confOK ops i l=true:=by
  intro l
  induction l with
  | nil=>intro i _;rfl
  | cons x l ih=>
   intro i hc
   obtain ⟨fp,wr⟩:=x
   simp only [confB.go,Bool.and_eq_true] at hc
   simp only [confOK,Bool.and_eq_true]
   exact ⟨c _ _ _ _ _ hc.1,ih _ hc.2⟩
 exact g _ _ h
theorem dOB {ops:Array Oper} {K:Prop} (h:drawB ops=true) (k:K):drawOK ops=true∧K:=⟨drawB_ok h,k⟩
theorem cOB {ops:Array Oper} {e:List (List Nat×List Nat)} {K:Prop} (h:confB ops e=true) (k:K):confOK ops 0 e=true∧K:=⟨confB_ok h,k⟩
theorem i64_of_u8 (x:UInt8):IntKind.i64.wrap (x.toNat:Int)=(x.toNat:Int):=by
 have:=x.toNat_lt
 exact i64_id rfl ⟨by omega,by omega⟩
theorem i64_of_u16 (x:UInt16):IntKind.i64.wrap (x.toNat:Int)=(x.toNat:Int):=by
 have:=x.toNat_lt
 exact i64_id rfl ⟨by omega,by omega⟩
theorem i64_of_u32 (x:UInt32):IntKind.i64.wrap (x.toNat:Int)=(x.toNat:Int):=by
 have:=x.toNat_lt
 exact i64_id rfl ⟨by omega,by omega⟩
def toU8 (x:Int):UInt8:=UInt8.ofNat (x % 256).toNat
def toU16 (x:Int):UInt16:=UInt16.ofNat (x % 65536).toNat
def toU32 (x:Int):UInt32:=UInt32.ofNat (x % 4294967296).toNat
def toU64 (x:Int):UInt64:=UInt64.ofNat (x % 18446744073709551616).toNat
theorem u8_wrap (x:Int):IntKind.u8.wrap x=((toU8 x).toNat:Int):=by
 have e:(2 ^ IntKind.u8.bits:Int)=256:=by decide
 simp only [IntKind.wrap,IntKind.signed,e,toU8,UInt8.toNat_ofNat']
 simp
 omega
theorem u16_wrap (x:Int):IntKind.u16.wrap x=((toU16 x).toNat:Int):=by
 have e:(2 ^ IntKind.u16.bits:Int)=65536:=by decide
 simp only [IntKind.wrap,IntKind.signed,e,toU16,UInt16.toNat_ofNat']
 simp
 omega
theorem u32_wrap (x:Int):IntKind.u32.wrap x=((toU32 x).toNat:Int):=by
 have e:(2 ^ IntKind.u32.bits:Int)=4294967296:=by decide
 simp only [IntKind.wrap,IntKind.signed,e,toU32,UInt32.toNat_ofNat']
 simp
 omega
theorem u64_wrap (x:Int):IntKind.u64.wrap x=((toU64 x).toNat:Int):=by
 have e:(2 ^ IntKind.u64.bits:Int)=18446744073709551616:=by decide
 simp only [IntKind.wrap,IntKind.signed,e,toU64,UInt64.toNat_ofNat']
 simp
 omega
theorem toU8_toNat {n:Int} (h:0 ≤ n∧n < 256):((toU8 n).toNat:Int)=n:=by
 simp only [toU8,UInt8.toNat_ofNat'];simp;omega
theorem toU16_toNat {n:Int} (h:0 ≤ n∧n < 65536):((toU16 n).toNat:Int)=n:=by
 simp only [toU16,UInt16.toNat_ofNat'];simp;omega
theorem toU32_toNat {n:Int} (h:0 ≤ n∧n < 4294967296):((toU32 n).toNat:Int)=n:=by
 simp only [toU32,UInt32.toNat_ofNat'];simp;omega
theorem toU64_toNat {n:Int} (h:0 ≤ n∧n < 18446744073709551616):((toU64 n).toNat:Int)=n:=by
 simp only [toU64,UInt64.toNat_ofNat'];simp;omega
theorem fdiv_range {n m:Nat} (s:Nat) (h:n < m):0 ≤ (n:Int).fdiv (2 ^ s)∧(n:Int).fdiv (2 ^ s) < m:=by
 have e:(2 ^ s:Int)=((2 ^ s:Nat):Int):=by simp
 rw [e,Int.fdiv_eq_ediv_of_nonneg _ (Int.natCast_nonneg _),← Int.natCast_ediv]
 have:=Nat.div_le_self n (2 ^ s)
 generalize n / 2 ^ s=q at *
 omega
theorem u8_shr (x:UInt8) (s:Nat):(x.toNat:Int).fdiv (2 ^ s)=((toU8 ((x.toNat:Int).fdiv (2 ^ s))).toNat:Int):=(toU8_toNat (fdiv_range s x.toNat_lt)).symm
theorem u16_shr (x:UInt16) (s:Nat):(x.toNat:Int).fdiv (2 ^ s)=((toU16 ((x.toNat:Int).fdiv (2 ^ s))).toNat:Int):=(toU16_toNat (fdiv_range s x.toNat_lt)).symm
theorem u32_shr (x:UInt32) (s:Nat):(x.toNat:Int).fdiv (2 ^ s)=((toU32 ((x.toNat:Int).fdiv (2 ^ s))).toNat:Int):=(toU32_toNat (fdiv_range s x.toNat_lt)).symm
theorem u64_shr (x:UInt64) (s:Nat):(x.toNat:Int).fdiv (2 ^ s)=((toU64 ((x.toNat:Int).fdiv (2 ^ s))).toNat:Int):=(toU64_toNat (fdiv_range s x.toNat_lt)).symm
theorem tmod_range {n m:Nat} (s:Nat) (h:n < m):0 ≤ (n:Int).tmod s∧(n:Int).tmod s < m:=by
 rw [← Int.ofNat_tmod]
 have:=Nat.mod_le n s
 omega
theorem u8_rem (x y:UInt8):(x.toNat:Int).tmod y.toNat=((toU8 ((x.toNat:Int).tmod y.toNat)).toNat:Int):=(toU8_toNat (tmod_range _ x.toNat_lt)).symm
theorem u16_rem (x y:UInt16):(x.toNat:Int).tmod y.toNat=((toU16 ((x.toNat:Int).tmod y.toNat)).toNat:Int):=(toU16_toNat (tmod_range _ x.toNat_lt)).symm
theorem u32_rem (x y:UInt32):(x.toNat:Int).tmod y.toNat=((toU32 ((x.toNat:Int).tmod y.toNat)).toNat:Int):=(toU32_toNat (tmod_range _ x.toNat_lt)).symm
theorem u64_rem (x y:UInt64):(x.toNat:Int).tmod y.toNat=((toU64 ((x.toNat:Int).tmod y.toNat)).toNat:Int):=(toU64_toNat (tmod_range _ x.toNat_lt)).symm
end Go.AX
end
section
namespace Go.AX
open Go.RowKit Go.Deep Go.ChangeShapes Go.WideShapes Go.ChangeAt
section
variable {H:Type} {enc:TypeId×Value→H} {P:Program} {w:World}
theorem Reads.map' {t:Nat} {α β:Type} {cells:α→List D} {ok:α→Prop} (h:Reads enc P w t cells ok) {cells':β→List D} {ok':β→Prop} (g:α→β) (hc :∀a,ok a→cells' (g a)=cells a) (hk :∀a,ok a→ok' (g a)):Reads enc P w t cells' ok':=by
 intro fuel cs x hx hw
 obtain ⟨a,h1,h2⟩:=h fuel cs x hx hw
 exact ⟨g a,hk a h1,by rw [hc a h1];exact h2⟩
theorem wf_range {k:IntKind} {n:Int} (h:(Lit.int k n).wf=true):k.min ≤ n∧n ≤ k.max:=by simpa [Lit.wf] using h
theorem reads_i64 {t:Nat} (ht:P.underlying t=some (.int .i64)):Reads enc P w t (fun n:Int=>[D.i n]) I64:=
 (reads_int ht).map' id (fun _ _=>rfl) fun a h=>by
  have:=wf_range h
  simpa [IntKind.min,IntKind.max,IntKind.signed,IntKind.bits,I64] using this
theorem reads_u8 {t:Nat} (ht:P.underlying t=some (.int .u8)):Reads enc P w t (fun n:UInt8=>[D.u8 n]) (fun _=>True):=
 (reads_int ht).map' toU8 (fun a h=>by
  have:=wf_range h
  have:=toU8_toNat (n:=a) (by simp [IntKind.min,IntKind.max,IntKind.signed,IntKind.bits] at this;omega)
  simp only [D.u8,this]) fun _ _=>trivial
theorem reads_u16 {t:Nat} (ht:P.underlying t=some (.int .u16)):Reads enc P w t (fun n:UInt16=>[D.u16 n]) (fun _=>True):=
 (reads_int ht).map' toU16 (fun a h=>by
  have:=wf_range h
  have:=toU16_toNat (n:=a) (by simp [IntKind.min,IntKind.max,IntKind.signed,IntKind.bits] at this;omega)
  simp only [D.u16,this]) fun _ _=>trivial
theorem reads_u32 {t:Nat} (ht:P.underlying t=some (.int .u32)):Reads enc P w t (fun n:UInt32=>[D.u32 n]) (fun _=>True):=
 (reads_int ht).map' toU32 (fun a h=>by
  have:=wf_range h
  have:=toU32_toNat (n:=a) (by simp [IntKind.min,IntKind.max,IntKind.signed,IntKind.bits] at this;omega)
  simp only [D.u32,this]) fun _ _=>trivial
theorem reads_u64 {t:Nat} (ht:P.underlying t=some (.int .u64)):Reads enc P w t (fun n:UInt64=>[D.u64 n]) (fun _=>True):=
 (reads_int ht).map' toU64 (fun a h=>by
  have:=wf_range h
  have:=toU64_toNat (n:=a) (by simp [IntKind.min,IntKind.max,IntKind.signed,IntKind.bits] at this;omega)
  simp only [D.u64,this]) fun _ _=>trivial
theorem open_one {t:Nat} {td:TypeDesc} (ht:P.underlying t=some td) (hk:(match td with | .int _ | .bool | .string | .slice _=>true | _=>false)=true) {α:Type} {c:α→D} {ok:α→Prop} (h:Reads enc P w t (fun a=>[c a]) ok) {base:Nat} {v:Value} {d:DataW H} {p:List MemPlace}
  (hval:Value.okWide P w .any base t v) (hv:DataW.Trod enc P w 0 (fun _=>true) true t v d p) (hw:Wt P t d) :∃x,ok x∧RepA (Old w) w (fun _=>none) (ofL []) (.d (c x)) v:=by
 obtain ⟨fuel,hf⟩:=hv
 obtain ⟨x,h1,h2⟩:=h fuel _ _ hf hw
 refine ⟨x,h1,.d _ _ (RepI.val (?_:RepI w [c x] [v]))⟩
 have hna :∀cs,v ≠ .agg cs:=by
  rintro cs rfl
  unfold Value.okWide at hval
  rw [ht] at hval
  cases td<;>simp at hk<;>simp [Cell.okWide,Cell.ok,ht] at hval
 have:v.cells.toList=[v]:=by
  cases v<;>first | rfl | (rename_i cs;exact absurd rfl (hna cs))
 rwa [this] at h2
theorem open_struct {t:Nat} {F:Array Field} (ht:P.underlying t=some (.struct F)) {α:Type} {c:α→List D} {ok:α→Prop} (h:Reads enc P w t c ok) {base:Nat} {v:Value} {d:DataW H} {p:List MemPlace}
  (hval:Value.okWide P w .any base t v) (hv:DataW.Trod enc P w 0 (fun _=>true) true t v d p) (hw:Wt P t d) :∃x,ok x∧RepA (Old w) w (fun _=>none) (ofL []) (.d (.agg (c x))) v:=by
 unfold Value.okWide at hval
 rw [ht] at hval
 obtain ⟨cs,rfl,_⟩:=hval
 obtain ⟨x,h1,h2⟩:=open_aggA h hv hw
 exact ⟨x,h1,.d _ _ h2⟩
inductive Opened (w:World):List Value→List AV→Prop
 | nil:Opened w [] []
 | cons {v:Value} {x:D} {vs:List Value} {avs:List AV} (h:RepA (Old w) w (fun _=>none) (ofL []) (.d x) v) (t:Opened w vs avs):Opened w (v::vs) (.d x::avs)
theorem Opened.get {vs:List Value} {avs:List AV} (h:Opened w vs avs):vs.length=avs.length∧∀i (hi:i < avs.length),RepA (Old w) w (fun _=>none) (ofL []) avs[i] (vs.getD i undef)∧Closed (ofL []) avs[i]:=by
 induction h with
 | nil=>exact ⟨rfl,fun i hi=>by simp at hi⟩
 | cons h t ih=>
  refine ⟨by simp [ih.1],fun i hi=>?_⟩
  cases i with
  | zero=>exact ⟨h,closed_d _ _⟩
  | succ i=>simpa using ih.2 i (by simpa using hi)
theorem trodAll_stays (hl:laidOutB P=true) {W W':World} (hb:Below W.heap.size W W') :∀{ts:List TypeId} {vs:List Value} {ds:List (DataW H)} {ps:List MemPlace},
  (ts.all fun t=>P.readableRec t && decide (t < P.types.size))=true→DataW.TrodAll enc P W 0 (fun _=>true) true ts vs ds ps→DataW.TrodAll enc P W' 0 (fun b=>decide (b < W.heap.size)) true ts vs ds ps
 | [],[],[],_,_,h=>h
 | t::ts,v::vs,d::ds,ps,hr,h=>by
  have hlt:=h.lt
  obtain ⟨p,q,h1,h2,rfl⟩:=h
  simp only [List.all_cons,Bool.and_eq_true,decide_eq_true_eq] at hr
  exact ⟨p,q,Below.trod hl hr.1.1 hr.1.2 h1 hb fun x hx=>hlt x (by simp [hx]),trodAll_stays hl hb hr.2 h2,rfl⟩
 | [],[],_::_,_,_,h=>h.elim
 | [],_::_,_,_,_,h=>h.elim
 | _::_,[],_,_,_,h=>h.elim
 | _::_,_::_,[],_,_,h=>h.elim
theorem trodAll_length :∀{ts:List TypeId} {vs:List Value} {ds:List (DataW H)} {ps:List MemPlace} {sp:Nat→Bool},DataW.TrodAll enc P w 0 sp true ts vs ds ps→ds.length=ts.length∧vs.length=ts.length
 | [],[],[],_,_,_=>⟨rfl,rfl⟩
 | t::ts,v::vs,d::ds,_,_,h=>by
  obtain ⟨p,q,_,h2,_⟩:=h
  obtain ⟨a,b⟩:=trodAll_length h2
  exact ⟨by simp [a],by simp [b]⟩
 | [],[],_::_,_,_,h=>h.elim
 | [],_::_,_,_,_,h=>h.elim
 | _::_,[],_,_,_,h=>h.elim
 | _::_,_::_,[],_,_,h=>h.elim
theorem frame_contract {C:Checked} {f:FuncId} {fn:Func} {s:ChangeSpec} {b:TypeId} (hl:laidOutB C.prog=true) (hvars:s.vars=[]) (hfn :∀ds:List (DataW H),ds.length=fn.params.size→s.fn H (ds ++ [])={ results:=[.lit (.bool true)],args:=ds })
  (hres:fn.resultTypes=#[b]) (hb:C.prog.underlying b=some .bool) (hread:(fn.params.toList.all fun t=>C.prog.readableRec t && decide (t < C.prog.types.size))=true)
  (law :∀(W:World) (base:Nat) (args:Array Value) (ds:List (DataW H)) (p:List MemPlace),(∀(j:Nat) t v,fn.params[j]?=some t→args[j]?=some v→Value.okWide C.prog W .any base t v)→
   DataW.TrodAll enc C.prog W 0 (fun _=>true) true fn.params.toList args.toList ds p→(∀(j:Nat) t d,fn.params.toList[j]?=some t→ds[j]?=some d→Wt C.prog t d)→∃avs,Opened W args.toList avs∧CallsOK True C.prog f avs [] (.b true) []) :
  ∀(W:World) (base:Nat) (args:Array Value) (ds gs:List (DataW H)) (before:List MemPlace),
   (∀(j:Nat) t v,fn.params[j]?=some t→args[j]?=some v→Value.okWide C.prog W .any base t v)→
   DataW.Whole enc C.prog fn.params.toList s.vars false W args.toList ds gs before→
   (DataW.weightsEach C.prog (fn.params.toList ++ s.plain.varTypes C.prog) (ds ++ gs)).all (· ≤ reachBytes)=true→
   Calls C.prog f args W fun e W'=>∃v,e=.returned v∧s.post enc C.prog fn false true false false W args v W':=by
 intro W base args ds gs before hval hW hwt
 have hW':=hW
 obtain ⟨p,q,hA,hV,rfl,hfz,hnd⟩:=hW
 rw [hvars] at hV
 obtain ⟨rfl,rfl⟩:=trodVars_none hV
 have hd:ds.length=fn.params.size:=by simpa using (trodAll_length hA).1
 obtain ⟨avs,h1,h2⟩:=law W base args ds p hval hA fun j t d ht hd'=>List.all_eq_true.2 fun n hn=>List.all_eq_true.1 hwt n (DataW.weights_mem_each (j:=j) (by
  rw [List.getElem?_append_left (List.getElem?_eq_some_iff.1 ht).1];exact ht) (by rw [List.getElem?_append_left (List.getElem?_eq_some_iff.1 hd').1];exact hd') n hn)
 obtain ⟨o1,o2⟩:=h1.get
 refine (walk_true h2 W args (by simpa using o1) fun i hi=>by simpa [← Array.getElem?_toList] using o2 i hi).mono fun e W' ⟨he,bel⟩=>?_
 subst he
 refine ⟨_,rfl,ds,[],p ++ [],[],p,[],hW',?_,?_,?_,bel.frame _,fun h=>by cases h⟩
 ·rw [hfn ds hd,hres]
  exact trodAll_mk1 (shut_bool hb _)
 ·rw [hfn ds hd]
  exact trodAll_stays hl bel hread hA
 ·rw [hfn ds hd,hvars]
  rfl
end
end Go.AX
end
section
namespace Go.AX
theorem forR_eq {α σ ρ:Type} {done:σ→Option ρ} {body:(σ→Option ρ)→α→Nat→σ→Option ρ} (P:List α→Nat→σ→Prop) (F:List α→Nat→σ→Option ρ)
  (hd :∀i s,P [] i s→done s=F [] i s)
  (hs :∀(next:σ→Option ρ) x t i s,P (x::t) i s→(∀s,P t (i + 1) s→next s=F t (i + 1) s)→body next x i s=F (x::t) i s) :
  ∀(l:List α) (i:Nat) (s:σ),P l i s→forR done body l i s=F l i s
 | [],i,s,h=>hd i s h
 | x::t,i,s,h=>hs _ x t i s h fun s' h'=>forR_eq P F hd hs t (i + 1) s' h'
theorem whileR_eq {σ ρ:Type} {body:(σ→Option ρ)→σ→Option ρ} (P:σ→Prop) (μ:σ→Nat) (F:σ→Option ρ)
  (hs :∀(next:σ→Option ρ) s,P s→(∀s',P s'→μ s' < μ s→next s'=F s')→body next s=F s) :
  ∀(n:Nat) (s:σ),P s→μ s < n→whileR body n s=F s
 | 0,s,_,h=>absurd h (Nat.not_lt_zero _)
 | n + 1,s,h,hm=>hs _ s h fun s' h' hlt=>whileR_eq P μ F hs n s' h' (by omega)
theorem whileR_ex {σ ρ:Type} {body:(σ→Option ρ)→σ→Option ρ} (P:σ→Prop) (μ:σ→Nat) (Q:ρ→Prop)
  (hs :∀(next:σ→Option ρ) s,P s→(∀s',P s'→μ s' < μ s→∃r,next s'=some r∧Q r)→∃r,body next s=some r∧Q r) :
  ∀(n:Nat) (s:σ),P s→μ s < n→∃r,whileR body n s=some r∧Q r
 | 0,s,_,h=>absurd h (Nat.not_lt_zero _)
 | n + 1,s,h,hm=>hs _ s h fun s' h' hlt=>whileR_ex P μ Q hs n s' h' (by omega)
theorem whileR_exQ {σ ρ:Type} {body:(σ→Option ρ)→σ→Option ρ} (P:σ→Prop) (μ:σ→Nat) (Q:σ→ρ→Prop)
  (hs :∀(next:σ→Option ρ) s,P s→(∀s',P s'→μ s' < μ s→∃r,next s'=some r∧Q s' r)→∃r,body next s=some r∧Q s r) :
  ∀(n:Nat) (s:σ),P s→μ s < n→∃r,whileR body n s=some r∧Q s r
 | 0,s,_,h=>absurd h (Nat.not_lt_zero _)
 | n + 1,s,h,hm=>hs _ s h fun s' h' hlt=>whileR_exQ P μ Q hs n s' h' (by omega)
theorem whileR_exR {σ ρ:Type} {body:(σ→Option ρ)→σ→Option ρ} {n:Nat} {s:σ} {Q':ρ→Prop} (P:σ→Prop) (μ:σ→Nat) (Q:σ→ρ→Prop)
  (hs :∀(next:σ→Option ρ) s,P s→(∀s',P s'→μ s' < μ s→∃r,next s'=some r∧Q s' r)→∃r,body next s=some r∧Q s r)
  (hp:P s) (hm:μ s < n) (hq :∀r,Q s r→Q' r) :∃r,whileR body n s=some r∧Q' r:=by
 obtain ⟨r,h1,h2⟩:=whileR_exQ P μ Q hs n s hp hm
 exact ⟨r,h1,hq r h2⟩
theorem part_nat {α:Type} {l:List α} {a b:Nat} (h1:a ≤ b) (h2:b ≤ l.length):part l (a:Int) (b:Int)=some ((l.drop a).take (b - a)):=by
 unfold part
 rw [if_pos (by omega)]
 simp
theorem forR_ex {α σ ρ:Type} {done:σ→Option ρ} {body:(σ→Option ρ)→α→Nat→σ→Option ρ} (P:List α→Nat→σ→Prop) (Q:ρ→Prop)
  (hd :∀i s,P [] i s→∃r,done s=some r∧Q r)
  (hs :∀(next:σ→Option ρ) x t i s,P (x::t) i s→(∀s,P t (i + 1) s→∃r,next s=some r∧Q r)→∃r,body next x i s=some r∧Q r) :
  ∀(l:List α) (i:Nat) (s:σ),P l i s→∃r,forR done body l i s=some r∧Q r
 | [],i,s,h=>hd i s h
 | x::t,i,s,h=>hs _ x t i s h fun s' h'=>forR_ex P Q hd hs t (i + 1) s' h'
theorem joinP_ite {τ ρ:Type} (b:Prop) [Decidable b] (x y:τ) (K:τ→Option ρ):joinP (fun k=>if b then k x else k y) K=K (if b then x else y):=by
 unfold joinP;split<;>rfl
theorem joinP_id {τ ρ:Type} (x:τ) (K:τ→Option ρ):joinP (fun k=>k x) K=K x:=Eq.trans rfl rfl
theorem bs_toList (l:List UInt8):(bs l).toList=l:=by rw [ByteArray.toList_eq];simp [bs]
theorem mk_toList (a:Array UInt8):(ByteArray.mk a).toList=a.toList:=ByteArray.toList_eq _
theorem lt_fuel {n:Nat} (h:n < 18446744073709551616):n < fuel:=h
theorem apnd_some {α:Type} {b:Nat} {l m:List α} (hb:Nat.ble b 65536=true) (h:l.length + m.length ≤ 1000000000):apnd b l m=some (l ++ m):=by
 unfold apnd
 have hb:=Nat.le_of_ble_eq_true hb
 rw [if_pos]
 refine ⟨?_,by omega⟩
 calc _ ≤ 1000000000 * 65536:=Nat.mul_le_mul h hb
  _ ≤ 2 ^ 47:=by decide
theorem apnd_big {α:Type} {b:Nat} {l m:List α} (hb:0 < b) (h:(l.length + m.length) * b ≤ 140737488355328):apnd b l m=some (l ++ m):=by
 unfold apnd
 have:l.length + m.length ≤ (l.length + m.length) * b:=Nat.le_mul_of_pos_right _ hb
 rw [if_pos ⟨h,by omega⟩]
theorem geti_nat {α:Type} {l:List α} {i:Nat} (h:i < l.length):geti l (i:Int)=some l[i]:=by
 unfold geti
 rw [if_pos (by omega)]
 simp [h]
theorem geti_at {α:Type} (pre:List α) (x:α) (t:List α):geti (pre ++ x::t) (pre.length:Int)=some x:=by
 rw [geti_nat (by simp)];simp
theorem i64w_id {x:Int} (h:-9223372036854775808 ≤ x∧x ≤ 9223372036854775807):i64w x=x:=i64_id rfl h
theorem some_bind' {α β:Type} (a:α) (f:α→Option β):(some a).bind f=f a:=Eq.trans rfl rfl
theorem joinP_def {τ ρ:Type} (m:(τ→Option ρ)→Option ρ) (k:τ→Option ρ):joinP m k=m k:=Eq.trans rfl rfl
end Go.AX
end
section
namespace Go.AX
class Tt {ρ:Type} (m:Option ρ):Prop where
 h :∃r,m=some r
def Ok {ρ:Type} (m:Option ρ) (Q:ρ→Prop):Prop:=∃r,m=some r∧Q r
theorem Ok.ret {ρ:Type} {Q:ρ→Prop} {r:ρ} (h:Q r):Ok (some r) Q:=⟨r,rfl,h⟩
theorem Ok.of {ρ:Type} {m:Option ρ} [t:Tt m]:Ok m fun r=>m=some r:=by
 obtain ⟨r,h⟩:=t.h
 exact ⟨r,h,h⟩
theorem Ok.imp {ρ:Type} {m:Option ρ} {P Q:ρ→Prop} (h:Ok m P) (k :∀r,P r→Q r):Ok m Q:=by
 obtain ⟨r,h1,h2⟩:=h
 exact ⟨r,h1,k r h2⟩
theorem Ok.tt {ρ:Type} {m:Option ρ} {Q:ρ→Prop} (h:Ok m Q):Tt m:=by
 obtain ⟨r,h1,_⟩:=h
 exact ⟨r,h1⟩
theorem Ok.bind {α ρ:Type} {m:Option α} {f:α→Option ρ} {P:α→Prop} {Q:ρ→Prop} (h:Ok m P) (k :∀a,P a→Ok (f a) Q):Ok (Option.bind m f) Q:=by
 obtain ⟨a,h1,h2⟩:=h
 rw [h1]
 exact k a h2
theorem Ok.join {τ ρ:Type} {m:(τ→Option ρ)→Option ρ} {k:τ→Option ρ} {Q:ρ→Prop} (J:τ→Prop) (h1 :∀k',(∀v,J v→Ok (k' v) Q)→Ok (m k') Q) (h2 :∀v,J v→Ok (k v) Q):Ok (joinP m k) Q:=h1 k h2
theorem Ok.forX {α σ ρ:Type} {done:σ→Option ρ} {body:(σ→Option ρ)→α→Nat→σ→Option ρ} {Q:ρ→Prop} {l:List α} {s0:σ} (I:Nat→σ→Prop) (h0:I 0 s0) (hd :∀s,I l.length s→Ok (done s) Q)
  (hs :∀(next:σ→Option ρ) x i s,l[i]?=some x→I i s→(∀s',I (i + 1) s'→Ok (next s') Q)→Ok (body next x i s) Q):Ok (forR done body l 0 s0) Q:=by
 have key :∀(t:List α) (i:Nat) (s:σ),(∃p,l=p ++ t∧p.length=i)→I i s→Ok (forR done body t i s) Q:=by
  intro t
  induction t with
  | nil=>intro i s ⟨p,hp,hl⟩ hi;exact hd s (by rw [hp];simpa [hl] using hi)
  | cons x t ih=>
   intro i s ⟨p,hp,hl⟩ hi
   exact hs _ x i s (by rw [hp,← hl];simp) hi fun s' h'=>ih (i + 1) s' ⟨p ++ [x],by simp [hp],by simp [hl]⟩ h'
 exact key l 0 s0 ⟨[],rfl,rfl⟩ h0
theorem Ok.forI {α σ ρ:Type} {done:σ→Option ρ} {body:(σ→Option ρ)→α→Nat→σ→Option ρ} {Q:ρ→Prop} {l:List α} {s0:σ} (I:Nat→σ→Prop) (h0:I 0 s0) (hd :∀s,I l.length s→Ok (done s) Q)
  (hs :∀(next:σ→Option ρ) x i s,i < l.length→x ∈ l→I i s→(∀s',I (i + 1) s'→Ok (next s') Q)→Ok (body next x i s) Q):Ok (forR done body l 0 s0) Q:=
 .forX I h0 hd fun n x i s hx=>hs n x i s (List.getElem?_eq_some_iff.1 hx).1 (List.mem_of_getElem? hx)
theorem Ok.for_ {α σ ρ:Type} {done:σ→Option ρ} {body:(σ→Option ρ)→α→Nat→σ→Option ρ} {Q:ρ→Prop} {l:List α} {s0:σ} (hd :∀s,Ok (done s) Q)
  (hs :∀(next:σ→Option ρ) x i s,i < l.length→x ∈ l→(∀s',Ok (next s') Q)→Ok (body next x i s) Q):Ok (forR done body l 0 s0) Q:=
 .forI (fun _ _=>True) trivial (fun s _=>hd s) fun n x i s h1 h2 _ h3=>hs n x i s h1 h2 fun s'=>h3 s' trivial
theorem Ok.whileI {σ ρ:Type} {body:(σ→Option ρ)→σ→Option ρ} {n:Nat} {s:σ} {Q:ρ→Prop} (I:σ→Prop) (μ:σ→Nat) (h0:I s) (hm:μ s < n)
  (hs :∀(next:σ→Option ρ) s,I s→(∀s',I s'→μ s' < μ s→Ok (next s') Q)→Ok (body next s) Q):Ok (whileR body n s) Q:=
 whileR_ex I μ Q (fun next s h k=>hs next s h k) n s h0 hm
theorem Ok.ite {ρ:Type} {p:Prop} [Decidable p] {x y:Option ρ} {Q:ρ→Prop} (h1:p→Ok x Q) (h2:¬ p→Ok y Q):Ok (if p then x else y) Q:=by
 split
 ·exact h1 ‹_›
 ·exact h2 ‹_›
theorem Ok.geti {α:Type} {l:List α} {i:Int} (h:0 ≤ i∧i < l.length):Ok (geti l i) fun x=>x ∈ l∧geti l i=some x:=by
 have h2:i.toNat < l.length:=by omega
 have h3:Go.AX.geti l i=some l[i.toNat]:=by
  unfold Go.AX.geti
  rw [if_pos h]
  simp [h2]
 exact ⟨_,h3,List.getElem_mem h2,h3⟩
theorem Ok.seti {α:Type} {l:List α} {i:Int} {x:α} (h:0 ≤ i∧i < l.length):Ok (seti l i x) fun l'=>l'=l.set i.toNat x∧l'.length=l.length:=by
 refine ⟨_,?_,rfl,by simp⟩
 unfold Go.AX.seti
 rw [if_pos h]
theorem Ok.apnd {α:Type} {b:Nat} {l m:List α} (hb:Nat.ble b 65536=true) (h:l.length + m.length ≤ 1000000000):Ok (apnd b l m) fun l'=>l'=l ++ m:=⟨_,apnd_some hb h,rfl⟩
theorem Ok.apndB {α:Type} {b:Nat} {l m:List α} (hb:0 < b) (h:(l.length + m.length) * b ≤ 140737488355328):Ok (Go.AX.apnd b l m) fun l2=>l2=l ++ m:=⟨_,apnd_big hb h,rfl⟩
theorem Ok.part {α:Type} {l:List α} {a b:Int} (h:0 ≤ a∧a ≤ b∧b ≤ l.length):Ok (part l a b) fun l'=>l'=(l.drop a.toNat).take (b.toNat - a.toNat)∧(l'.length:Int)=b - a:=by
 refine ⟨_,?_,rfl,by simp;omega⟩
 unfold Go.AX.part
 rw [if_pos h]
theorem Ok.chk {p:Prop} [Decidable p] (h:p):Ok (chk p) fun _=>True:=by
 refine ⟨(),?_,trivial⟩
 unfold Go.AX.chk
 rw [if_pos h]
theorem Tt.auto {ρ:Type} {m:Option ρ} (h:Ok m fun _=>True:=by
  repeat' (first
   | exact Ok.ret trivial
   | assumption
   | (refine Ok.bind Ok.of ?_;intros)
   | (refine Ok.ite ?_ ?_<;>intros)
   | (refine Ok.join (fun _=>True) ?_ ?_<;>intros)
   | (refine Ok.for_ ?_ ?_<;>intros)
   | (refine Ok.bind (Ok.geti ?_) ?_<;>intros)
   | (refine Ok.bind (Ok.chk ?_) ?_<;>intros)
   | exact ‹∀v,True→Ok _ _› _ trivial
   | exact ‹∀v,Ok _ _› _
   | solve_by_elim
   | (constructor<;>first | omega | (simp_all;done) | (simp_all;omega))
   | omega
   | decide)):Tt m:=h.tt
theorem Ok.q {ρ:Type} {m:Option ρ} {Q:ρ→Prop} (h:Ok m Q:=by
  repeat' (first
   | assumption
   | refine Ok.ret ?_
   | exact trivial
   | (refine Ok.bind Ok.of ?_;intros)
   | (refine Ok.ite ?_ ?_<;>intros)
   | (refine Ok.bind (Ok.chk ?_) ?_<;>intros)
   | (refine Ok.bind (Ok.geti ?_) ?_<;>intros)
   | (refine Ok.bind (Ok.seti ?_) ?_<;>intros)
   | (refine Ok.bind (Ok.apnd (by decide) ?_) ?_<;>intros)
   | refine ‹∀v,_→_→Ok _ _› _ ?_ ?_
   | refine ‹∀v,_→Ok _ _› _ ?_
   | exact ‹∀v,Ok _ _› _
   | (refine Ok.join (τ:=Bool) (fun _=>True) ?_ ?_<;>intros)
   | (refine Ok.join (τ:=Unit) (fun _=>True) ?_ ?_<;>intros)
   | omega
   | solve_by_elim
   | (simp_all;done)
   | (simp_all;omega)
   | (simp only [List.length_append,List.length_cons,List.length_nil,List.length_set,decide_eq_true_eq,beq_iff_eq,bne_iff_ne,Bool.not_eq_true'] at *;(try subst_vars);(try simp only [List.length_append,List.length_cons,List.length_nil]);omega))):Ok m Q:=h
theorem Ok.pos {ρ:Type} {Q:ρ→Prop} {n:Nat} {g:(Bool→Option ρ)→Int→Option ρ} {k:Int→Option ρ} (hn:n ≤ 1000000000)
  (hg :∀(k':Bool→Option ρ) (v:Int),0 ≤ v→v ≤ n→(∀c,(c=true→v < n)→Ok (k' c) Q)→Ok (g k' v) Q) (hk :∀v:Int,0 ≤ v→v ≤ n→Ok (k v) Q) :
  Ok (joinP (fun k1=>whileR (fun next v=>joinP (fun k2=>g k2 v) (fun c=>if c=true then next (i64w (v + 1)) else k1 v)) fuel 0) k) Q:=by
 refine .join (fun v:Int=>0 ≤ v∧v ≤ n) (fun k1 hk1=>?_) fun v hv=>hk v hv.1 hv.2
 refine .whileI (fun v:Int=>0 ≤ v∧v ≤ n) (fun v=>(n - v).toNat) (by omega) (lt_fuel (by omega)) fun next v hv hnx=>?_
 refine .join (fun c=>c=true→v < n) (fun k2 hk2=>hg k2 v hv.1 hv.2 hk2) fun c hc=>.ite (fun h=>?_) fun _=>hk1 v hv
 have:=hc h
 rw [i64w_id (by omega)]
 exact hnx _ (by omega) (by omega)
end Go.AX
end
section
namespace Go.AX
section
variable {P:Program} {E:Env} {w w':World} {S:Sc} {φ:Nat→Option (Nat×Rp)} {ob:Nat→Option OB}
structure Grown (wl:Prop) (w w':World):Prop where
 hp :∀b,b < w.heap.size→w'.heap[b]?=w.heap[b]?
 sz:w.heap.size ≤ w'.heap.size
 os:w'.os=w.os
 out:w'.output=w.output
 tape:w'.tape=w.tape
 dr:wl ∨ w.drawn ≤ w'.drawn
theorem Grown.refl (wl:Prop) (w:World):Grown wl w w:=⟨fun _ _=>rfl,Nat.le_refl _,rfl,rfl,rfl,.inr (Nat.le_refl _)⟩
theorem Grown.trans {wl:Prop} {a b c:World} (h:Grown wl a b) (k:Grown wl b c):Grown wl a c:=
 ⟨fun n hn=>(k.hp n (Nat.lt_of_lt_of_le hn h.sz)).trans (h.hp n hn),Nat.le_trans h.sz k.sz,k.os.trans h.os,k.out.trans h.out,k.tape.trans h.tape,h.dr.elim .inl fun x=>k.dr.imp_right fun y=>Nat.le_trans x y⟩
theorem Grown.alloc {wl:Prop} (w:World) (o:Obj):Grown wl w (w.alloc o):=⟨fun b hb=>heap_alloc_of_lt w o hb,by simp,rfl,rfl,rfl,.inr (Nat.le_refl _)⟩
theorem Grown.drewN {wl:Prop} (w:World) (n:Nat):Grown wl w (w.drewN n):=⟨fun _ _=>rfl,Nat.le_refl _,rfl,rfl,rfl,.inr (Nat.le_add_right _ _)⟩
theorem Grown.below {w w':World} (h:Go.RowKit.Below w.heap.size w w'):Grown True w w':=⟨h.block,h.size,h.os,h.output,h.tape,.inl trivial⟩
theorem Mem.grow (m:Mem E w S φ ob) (h:Grown E.wl w w'):Mem E w' S φ ob∧Kept w S φ ob w' S φ ob:=
 m.grown h.hp h.sz ⟨h.os,h.out,h.tape,h.dr⟩
theorem Mem.addS (m:Mem E w S φ ob) (b o:Nat) (hb:b < w.heap.size) (hb0:E.w0.heap.size ≤ b) (hfree :∀r c,ob r ≠ none→φ r ≠ some (b,c)) :
  Mem E w (fun x y=>S x y ∨ (x=b∧y=o)) φ ob∧Kept w S φ ob w (fun x y=>S x y ∨ (x=b∧y=o)) φ ob:=by
 have hk:Kept w S φ ob w (fun x y=>S x y ∨ (x=b∧y=o)) φ ob:=⟨fun _ _ h=>⟨.inl h,rfl⟩,fun r _=>.refl φ ob r,fun _ h=>h⟩
 refine ⟨⟨fun r x hx=>(m.obj r x hx).keep hk rfl (fun b' c hb'=>⟨rfl,fun y hy=>?_⟩) (m.men r x hx),m.inj,m.men,fun b o h=>.inl (m.sS b o h),m.kS,?_,?_,m.fr,m.sz,m.ow,m.os⟩,hk⟩
 ·rcases hy with hy | ⟨e,_⟩
  ·exact hy
  ·subst e
   exact absurd hb' (hfree r c (by rw [hx];simp))
 ·rintro x y (h | ⟨rfl,rfl⟩)
  ·exact m.bS x y h
  ·exact hb
 ·rintro x y (h | ⟨rfl,rfl⟩) h1 h2
  ·exact m.nS x y h h1 h2
  ·omega
theorem Mem.attach (m:Mem E w S φ ob) (r b:Nat) (c:Rp) (x:OB) (hr:ob r=none) (hb:b < w.heap.size) (hb0:E.w0.heap.size ≤ b) (hfree :∀r' c',ob r' ≠ none→φ r' ≠ some (b,c')) (hx:x.refs=[])
  (hok:Kept w S φ ob w S (upd φ r (some (b,c))) (upd ob r (some x))→ObjOK S w (upd φ r (some (b,c))) (upd ob r (some x)) r x) :
  Mem E w S (upd φ r (some (b,c))) (upd ob r (some x))∧Kept w S φ ob w S (upd φ r (some (b,c))) (upd ob r (some x)):=by
 have hne :∀r',ob r' ≠ none→r' ≠ r:=fun r' h e=>h (e ▸ hr)
 have hk:Kept w S φ ob w S (upd φ r (some (b,c))) (upd ob r (some x)):=by
  refine ⟨fun b o h=>⟨h,rfl⟩,fun r' h=>.inl ?_,fun r' h=>?_⟩
  ·rw [upd_other _ _ _ _ (hne r' h),upd_other _ _ _ _ (hne r' h)]
   exact ⟨rfl,rfl,id⟩
  ·rw [upd_other _ _ _ _ (hne r' h)]
   exact h
 refine ⟨⟨?_,?_,?_,m.sS,m.kS,m.bS,m.nS,m.fr,m.sz,?_,m.os⟩,hk⟩
 ·intro r' o h
  by_cases hh:r'=r
  ·subst hh
   simp only [upd_same,Option.some.injEq] at h
   subst h
   exact hok hk
  ·rw [upd_other _ _ _ _ hh] at h
   exact (m.obj r' o h).keep hk (upd_other _ _ _ _ hh) (fun b c hb=>⟨rfl,fun _ h=>h⟩) (m.men r' o h)
 ·intro r1 r2 b' c1 c2 h1 h2 g1 g2
  by_cases e1:r1=r
  ·by_cases e2:r2=r
   ·rw [e1,e2]
   ·subst e1
    rw [upd_same] at g1
    rw [upd_other _ _ _ _ e2] at g2 h2
    simp only [Option.some.injEq,Prod.mk.injEq] at g1
    rw [← g1.1] at g2
    exact absurd g2 (hfree r2 c2 h2)
  ·by_cases e2:r2=r
   ·subst e2
    rw [upd_same] at g2
    rw [upd_other _ _ _ _ e1] at g1 h1
    simp only [Option.some.injEq,Prod.mk.injEq] at g2
    rw [← g2.1] at g1
    exact absurd g1 (hfree r1 c1 h1)
   ·rw [upd_other _ _ _ _ e1] at g1 h1
    rw [upd_other _ _ _ _ e2] at g2 h2
    exact m.inj r1 r2 b' c1 c2 h1 h2 g1 g2
 ·intro r' o h r'' hm
  by_cases hh:r'=r
  ·subst hh
   simp only [upd_same,Option.some.injEq] at h
   subst h
   rw [hx] at hm
   simp at hm
  ·rw [upd_other _ _ _ _ hh] at h
   exact hk.c _ (m.men r' o h r'' hm)
 ·intro r' b' c' h g
  by_cases hh:r'=r
  ·subst hh
   simp only [upd_same,Option.some.injEq,Prod.mk.injEq] at g
   rw [← g.1]
   exact ⟨hb,.inl hb0⟩
  ·rw [upd_other _ _ _ _ hh] at g h
   exact m.ow r' b' c' h g
theorem Mem.ownsRow1 (m:Mem E w S φ ob) (r:Nat) (hr:ob r=none) {base e:Nat} {v:Value} {xs:List Value} (h1 :∀x ∈ xs,x.oneCell'=true) (hown:w.ownsRow base e 1 v xs.length xs) (hb0:E.w0.heap.size ≤ base)
  (hfree :∀r' b c,ob r' ≠ none→φ r'=some (b,c)→b < base) (hS :∀b o,S b o→b < base) :
  ∃φ',Mem E w S φ' (upd ob r (some (.row e 1 (xs.map .val) false)))∧Kept w S φ ob w S φ' (upd ob r (some (.row e 1 (xs.map .val) false)))∧RepA S w φ' (upd ob r (some (.row e 1 (xs.map .val) false))) (.own r xs.length) v:=by
 rcases hown.2 with ⟨hv,hz⟩ | ⟨g,cap,cur,hv,hg,hgb,c1,c2,c3,c4⟩
 ·obtain rfl:xs=[]:=List.eq_nil_of_length_eq_zero hz
  obtain ⟨m1,k1⟩:=m.empty r e 1 hr (by omega)
  refine ⟨_,m1,k1,?_⟩
  rw [hv]
  refine .own r 0 _ 0 0 none rfl rfl (fun e' sz' es' f' hx=>?_) fun cs hx=>by simp at hx
  simp only [upd_same,Option.some.injEq,OB.row.injEq] at hx
  obtain ⟨rfl,rfl,rfl,rfl⟩:=hx
  exact ⟨Nat.le_refl _,fun _=>.inl ⟨upd_same _ _ _,rfl,_,rfl⟩⟩
 ·have hlt:=lt_of_heap hgb
  obtain ⟨m1,k1⟩:=m.attach r g (cap,0) (.row e 1 (xs.map .val) false) hr hlt (by omega) (fun r' c' h1 h2=>by have:=hfree r' g c' h1 h2;omega) rfl (fun hk=>by
   refine ⟨by omega,fun i hi=>by simp [D.cells],fun i hi j hj=>?_,.inr ⟨g,(cap,0),cur,fun i _=>xs.getD i undef,upd_same _ _ _,hgb,by simpa using c1,c2,by simp;omega,fun i j hi hj=>?_,fun i hi j hj=>?_,fun o _ hSo=>by have:=hS g o hSo;omega⟩⟩
   ·have h0:j=0:=by simp [D.cells] at hj;exact hj
    subst h0
    simp [D.cells,D.isAgg]
   ·have hi':i < xs.length:=by simpa using hi
    have h0:j=0:=by omega
    subst h0
    have hl:i < (cur.toList.take (xs.length * 1)).length:=by rw [c4];exact hi'
    have e1:cur.toList[i]?=some xs[i]:=by
     have:(cur.toList.take (xs.length * 1))[i]?=some xs[i]:=by rw [c4];exact List.getElem?_eq_getElem hi'
     rwa [List.getElem?_take_of_lt (by omega)] at this
    simp [hi'] at e1 ⊢
    exact e1
   ·have h0:j=0:=by simp [D.cells] at hj;exact hj
    subst h0
    have hi':i < xs.length:=by simpa using hi
    simp only [List.getElem_map,D.cells,List.getElem_cons_zero,List.getD_eq_getElem?_getD,List.getElem?_eq_getElem hi',Option.getD_some]
    exact .val _ (h1 _ (List.getElem_mem hi')))
  refine ⟨_,m1,k1,?_⟩
  rw [hv]
  refine .own r xs.length _ xs.length cap _ rfl rfl (fun e' sz' es' f' hx=>?_) fun cs hx=>by simp at hx
  simp only [upd_same,Option.some.injEq,OB.row.injEq] at hx
  obtain ⟨rfl,rfl,rfl,rfl⟩:=hx
  exact ⟨by simp,fun _=>.inr ⟨g,(cap,0),upd_same _ _ _,rfl⟩⟩
end
def FnOK (P : Program) (f : FuncId) : Prop := ∃ fn, P.funcs[f]? = some fn ∧ fn.name ≠ "runtime.NumGoroutine" ∧ fn.body.isSome = true
theorem fnOK {P : Program} {f : FuncId} {fn : Func} (h : P.funcs[f]? = some fn) (hn : (fn.name == "runtime.NumGoroutine") = false) (hb : fn.body.isSome = true) : FnOK P f := ⟨fn, h, by simpa using hn, hb⟩
theorem ok_grown {wl:Prop} {P:Program} {f:FuncId} {args:List AV} {objs:List OB} {res:AV} (hf:FnOK P f) (hcl:Closed (ofL objs) res)
  (h :∀(w:World) (S:Sc) (φ:Nat→Option (Nat×Rp)) (vals:Array Value),vals.size=args.length→(∀i (hi:i < args.length),RepA S w φ (ofL objs) args[i] (vals.getD i undef))→
   Mem ⟨w,S,PBof φ objs.length,wl⟩ w S φ (ofL objs)→Calls P f vals w fun e w'=>∃v,e=.returned v∧Grown wl w w'∧RepA S w' φ (ofL objs) res v):CallsOK wl P f args objs res objs:=by
 refine ⟨hf,fun w S φ vals hs hr hn m=>(h w S φ vals hs (fun i hi=>(hr i hi).1) m).mono fun e w' he=>?_⟩
 obtain ⟨v,rfl,hg,hv⟩:=he
 obtain ⟨m',k'⟩:=m.grow hg
 exact ⟨v,rfl,S,φ,m',k',hv,hcl⟩
end Go.AX
end
section
namespace Go.AX
open Go.Proofs
def trimC (s cut:ByteArray):Option ByteArray:=
 if s.size ≤ 9223372036854775807∧2 ≤ cut.size∧cut.size < 4294967281∧cut.data.toList.all (fun b=>decide (b.toNat < 128))=true then some ⟨(Lib.trimS s.data.toList cut.data.toList).toArray⟩ else none
theorem trimC_ok {wl:Prop} {P:Program} {ρ:Go.Shelf.Ren} (L:Lays.n160 P ρ) (hf:FnOK P (ρ.f 160)) (h116:(P.info? (ρ.t 116)).map (fun i=>(i.zero,i.size))=some (some (.agg (Array.replicate 256 (.bool false))),256))
  {s cut r:ByteArray} (h:trimC s cut=some r):CallsOK wl P (ρ.f 160) [.d (D.s s),.d (D.s cut)] [] (.d (D.s r)) []:=by
 unfold trimC at h
 split at h
 ·rename_i hc
  obtain ⟨h1,h2,h3,h4⟩:=hc
  obtain rfl:=Option.some.inj h
  refine ok_grown hf (closed_d _ _) fun w S φ vals hs hr m=>?_
  have r0:=(hr 0 (by simp)).str
  have r1:=(hr 1 (by simp)).str
  have hv:vals=#[.string s,.string cut]:=by
   match vals,hs with
   | ⟨[a,b]⟩,_=>
    simp at r0 r1
    rw [r0,r1]
  rw [hv]
  by_cases h0:s.size=0
  ·refine (Any.strings_Trim_empty L s cut w (.inl h0)).mono fun e w' ⟨he,hw⟩=>⟨_,he,hw ▸ .refl wl w,?_⟩
   have hl:s.data.toList=[]:=List.eq_nil_of_length_eq_zero (by rw [← Lib.size_eq];exact h0)
   have:(⟨(Lib.trimS s.data.toList cut.data.toList).toArray⟩:ByteArray)=s:=by
    rw [hl]
    conv=>rhs;rw [← Lib.mk_data s,hl]
    rfl
   rw [this]
   exact .d _ _ (.val _ rfl)
  ·refine (Any.strings_Trim_set L (zero_of_info h116).1 (zero_of_info h116).2 s cut w h2 (by omega) h1 h3 (ascii_of_all h4)).mono fun e w' ⟨he,q,hw⟩=>⟨_,he,?_,.d _ _ (.val _ rfl)⟩
   rw [hw]
   exact ((Grown.alloc w _).trans (.alloc _ _)).trans (.drewN _ q)
 ·simp at h
end Go.AX
end
section
namespace Go.AX
open Go.Proofs Go.Maps Go.Sort Go.Shelf Go.RowKit
theorem one_val {vals:Array Value} {v:Value} (hs:vals.size=1) (h:vals.getD 0 undef=v):vals=#[v]:=by
 match vals,hs with
 | ⟨[a]⟩,_=>
  simp at h
  rw [h]
theorem keys_core {wl:Prop} {P:Program} {f g:FuncId} {t:Nat} (hf:FnOK P f) (hc :∀(b:Nat) (w:World),Calls P f #[.map (some b)] w fun e w'=>e=.returned (.func (.func g) #[] #[.pointer (some ⟨w.heap.size,0,none⟩)])∧w'=w.alloc (.cells #[.map (some b)] t))
  {k e:Nat} {es:List (D×D)}:CallsOK wl P f [.mp 0] [.map k e es] (.it g 0) [.map k e es]:=by
 refine ⟨hf,fun w S φ vals hs hr hn m=>?_⟩
 have r0:=(hr 0 (by simp)).1
 simp only [List.getElem_cons_zero] at r0
 generalize hv:vals.getD 0 undef=v at r0
 have hv:=one_val hs hv
 cases r0 with | mp _ b c hφ hb hcc=>
 rw [hv]
 refine (hc b w).mono fun e' w' ⟨he,hw⟩=>?_
 have hob:ofL [OB.map k e es] 0 ≠ none:=by simp [ofL]
 obtain ⟨m1,k1⟩:=m.grow (w':=w') (by rw [hw];exact .alloc w _)
 have hsz:w'.heap.size=w.heap.size + 1:=by rw [hw];simp
 obtain ⟨m2,k2⟩:=m1.addS w.heap.size 0 (by omega) (Nat.le_refl _) (fun r c' h1 h2=>by have:=(m.ow r _ _ h1 h2).1;omega)
 refine ⟨_,he,_,_,m2,k1.trans k2,.it g 0 b c _ hφ hb hcc (.inr ⟨rfl,rfl⟩) ?_,fun r hr'=>?_⟩
 ·rw [hw,cellAt,World.cell?_alloc_at _ _ _ _ rfl]
  rfl
 ·simp only [AV.refs,List.mem_singleton] at hr'
  rw [hr'];exact hob
def keysSI {V:Type} (m:List (Int×V)):Option (List Int):=
 if (m.map (·.1)).Nodup∧(m.all fun p=>decide (-9223372036854775808 ≤ p.1∧p.1 ≤ 9223372036854775807))=true∧m.length ≤ 1000000000000 then some ((m.map (·.1)).mergeSort fun x y=>decide (x ≤ y)) else none
theorem mergeSort_permI {l l':List Int} (h:l.Perm l'):(l.mergeSort fun x y=>decide (x ≤ y))=l'.mergeSort fun x y=>decide (x ≤ y):=by
 have ht :∀a b c:Int,decide (a ≤ b)=true→decide (b ≤ c)=true→decide (a ≤ c)=true:=fun a b c h1 h2=>by simp at *;omega
 have hto :∀a b:Int,(decide (a ≤ b) || decide (b ≤ a))=true:=fun a b=>by simp;omega
 refine List.Perm.eq_of_pairwise (le:=fun x y=>decide (x ≤ y)=true) (fun a b _ _ h1 h2=>by simp at *;omega) (List.pairwise_mergeSort ht hto l) (List.pairwise_mergeSort ht hto l') ?_
 exact (List.mergeSort_perm l _).trans (h.trans (List.mergeSort_perm l' _).symm)
theorem sortedKeysI_ok {P:Program} {ρk ρs:Ren} (LK:SlLaysZI.n7 P ρk) (LS:SlLaysZI.n6 P ρs) (hf:FnOK P (ρs.f 6)) (hsort :∀m,AnyZI.SortsIn P ρs Fence.wide m)
  (e9 :∀args w,(callFunc (ρs.f 9) args).run P w=.ok (.enter (ρs.f 9) args) w) (eg :∀args w,(callFunc (ρk.f 10) args).run P w=.ok (.enter (ρk.f 10) args) w)
  {V:Type} {ev:V→D} {m:List (Int×V)} {r:List Int} (h:keysSI m=some r) {k e:Nat} :
  CallsOK True P (ρs.f 6) [.it (ρk.f 10) 0] [.map k e (entsD D.i ev m)] (.own 1 (List.map D.i r).length) [.map k e (entsD D.i ev m),.row (ρs.t 26) 1 (List.map D.i r) false]:=by
 unfold keysSI at h
 split at h
 rotate_left
 ·simp at h
 rename_i hcond
 obtain ⟨hnd,hrg,hlen⟩:=hcond
 obtain rfl:=Option.some.inj h
 refine ⟨hf,fun w S φ vals hs hr hn mm=>?_⟩
 have r0:=(hr 0 (by simp)).1
 simp only [List.getElem_cons_zero] at r0
 generalize hv:vals.getD 0 undef=v at r0
 have hv:=one_val hs hv
 cases r0 with | it _ _ b c B hφ hb hcc hS hcell=>
 rw [hv]
 obtain ⟨b',c',arr,clock,q1,q2,⟨q3,q4⟩,q5,q6⟩:=mm.obj 0 _ (show ofL [OB.map k e (entsD D.i ev m)] 0=some _ from rfl)
 rw [hφ] at q1
 simp only [Option.some.injEq,Prod.mk.injEq] at q1
 obtain ⟨rfl,rfl⟩:=q1
 have hsz:arr.size=m.length:=by rw [q3];simp [entsD]
 have hkey :∀i (hi:i < m.length),arr[i]?.map (·.key)=some (.int .i64 m[i].1):=by
  intro i hi
  obtain ⟨x,g1,⟨u,g2,g3,_⟩,_⟩:=q6 i (by simpa [entsD] using hi)
  simp only [entsD,List.getElem_map] at g2
  rw [g1]
  simp only [Option.map_some,g3]
  injection g2 with g2
  rw [← g2]
 have hkeys:arr.toList.map (·.key)=m.map fun p=>Value.int .i64 p.1:=by
  apply List.ext_getElem?
  intro i
  by_cases hi:i < m.length
  ·have:=hkey i hi
   simp only [List.getElem?_map,Array.getElem?_toList,List.getElem?_eq_getElem hi,Option.map_some]
   exact this
  ·rw [List.getElem?_eq_none (by simp;omega),List.getElem?_eq_none (by simp;omega)]
 let R:Value→Option (DataW Unit×List MemPlace):=fun _=>some (.nil,[])
 have hu:P.underlying (ρk.t 26)=some (.int .i64):=LK.t26
 have hko :∀x ∈ arr.toList,∃n:Int,x.key=.int .i64 n∧keyOf P (ρk.t 26) x.key=some (.int .i64 n):=by
  intro x hx
  have:x.key ∈ arr.toList.map (·.key):=List.mem_map.2 ⟨x,hx,rfl⟩
  rw [hkeys] at this
  obtain ⟨p,hp,he⟩:=List.mem_map.1 this
  have hw:(Lit.int .i64 p.1).wf=true:=by
   have:=List.all_eq_true.1 hrg p hp
   simp only [decide_eq_true_eq] at this
   simp [Lit.wf,IntKind.min,IntKind.max,IntKind.signed,IntKind.bits]
   omega
  exact ⟨p.1,he.symm,by rw [← he];simp [keyOf,hu,mapKey,hw]⟩
 have F:WideElems.Fit P (ρk.t 26) R arr clock:=by
  refine ⟨by unfold maxLen;omega,⟨q4.1,q4.2,?_⟩,fun x hx=>?_⟩
  ·rw [hkeys]
   have:(m.map fun p=>Value.int .i64 p.1)=(m.map (·.1)).map (Value.int .i64):=by simp
   rw [this]
   exact List.pairwise_map.2 (hnd.imp fun h e=>h (by injection e))
  ·obtain ⟨n,_,h2⟩:=hko x hx
   exact ⟨_,by simp [WideElems.rd,h2,R];rfl⟩
 have hD :∃D0:DataW Unit,w.ownsMap P (ρk.t 26) R b arr.size D0∧(intKeys D0).Perm (m.map (·.1))∧Maps.size D0=m.length:=by
  refine ⟨_,⟨arr,clock,q2,F,Nat.le_refl _,rfl⟩,?_,?_⟩
  ·have h1:=(Go.WideShapes.sorted_perm (arr.toList.map (WideElems.rg P (ρk.t 26) R))).map fun p=>Go.intOf p.1
   refine h1.trans ?_
   have:(arr.toList.map (WideElems.rg P (ρk.t 26) R)).map (fun p=>Go.intOf p.1)=m.map (·.1):=by
    have h2:arr.toList.map (fun x=>(WideElems.rg P (ρk.t 26) R x).1)=(arr.toList.map (·.key)).map fun v=>match v with | .int _ n=>Lit.int .i64 n | _=>.bool false:=by
     rw [List.map_map]
     apply List.map_congr_left
     intro x hx
     obtain ⟨n,g1,g2⟩:=hko x hx
     rw [g1] at g2
     simp [WideElems.rg,WideElems.rd,g2,R,g1]
    have h3:(arr.toList.map (WideElems.rg P (ρk.t 26) R)).map (fun p=>Go.intOf p.1)=(arr.toList.map (fun x=>(WideElems.rg P (ρk.t 26) R x).1)).map Go.intOf:=by simp
    rw [h3,h2,hkeys]
    simp [Go.intOf]
   rw [this]
  ·have:=(Go.WideShapes.sorted_perm (arr.toList.map (WideElems.rg P (ρk.t 26) R))).length_eq
   simp only [List.length_map,Array.length_toList] at this
   simp only [Maps.size]
   omega
 obtain ⟨D0,hown,hperm,hsize⟩:=hD
 have hbl:=(mm.ow 0 b c (by simp [ofL]) hφ).1
 have hBl:=mm.bS B 0 hS
 have hseq:SeqGives Fence.wide 2 P (ρk.f 10) #[.pointer (some ⟨B,0,none⟩)] encZ (fun ss=>ss.Perm (intKeys D0)) (Maps.size D0) w:=
  AnyZI.keys_gives (ρ:=ρk) { LK with } Fence.wide _ trivial rfl (by omega) B b arr.size D0 w hBl hcell hown
 have cS:=AnyZI.sorted_in LS Fence.wide 5 trivial trivial trivial trivial rfl (by omega) (hsort _) e9 (ρk.f 10) #[.pointer (some ⟨B,0,none⟩)] trivial eg _ _ (by unfold maxLen;omega) (by omega) w hseq
 refine (callsIn_wide.1 cS).mono fun e' w' ⟨v,ss,he,hss,hrow,hnil,hbelow⟩=>?_
 have hms:(ss.mergeSort fun x y=>decide (x ≤ y))=(m.map (·.1)).mergeSort fun x y=>decide (x ≤ y):=mergeSort_permI (hss.trans hperm)
 obtain ⟨m1,k1⟩:=mm.grow (w':=w') (.below hbelow)
 have hlen2:((m.map (·.1)).mergeSort fun x y=>decide (x ≤ y)).length=ss.length:=by rw [← hms,List.length_mergeSort]
 rw [hms] at hrow
 obtain ⟨φ',m2,k2,hrep⟩:=m1.ownsRow1 1 (by simp [ofL]) (e:=ρs.t 26) (v:=v) (xs:=(((m.map (·.1)).mergeSort fun x y=>decide (x ≤ y)).map encZ)) (base:=w.heap.size) (fun x hx=>by
   obtain ⟨n,_,rfl⟩:=List.mem_map.1 hx
   rfl) (by rw [List.length_map,hlen2];exact hrow) (Nat.le_refl _) (fun r' b' c' h1 h2=>(mm.ow r' b' c' h1 h2).1) (fun b' o' h=>mm.bS b' o' h)
 have hob:upd (ofL [OB.map k e (entsD D.i ev m)]) 1 (some (.row (ρs.t 26) 1 ((((m.map (·.1)).mergeSort fun x y=>decide (x ≤ y)).map encZ).map .val) false)) =
   ofL [OB.map k e (entsD D.i ev m),.row (ρs.t 26) 1 (List.map D.i ((m.map (·.1)).mergeSort fun x y=>decide (x ≤ y))) false]:=by
  funext q
  match q with
  | 0=>rfl
  | 1=>simp [upd,ofL,Function.comp_def]
  | q + 2=>simp [upd,ofL]
 rw [hob] at m2 k2 hrep
 refine ⟨v,he,S,φ',m2,k1.trans k2,?_,fun q hq=>?_⟩
 ·simpa using hrep
 ·simp only [AV.refs,List.mem_singleton] at hq
  rw [hq]
  simp [ofL]
end Go.AX
end
section
namespace Go.AX
open Go.Proofs Go.Maps Go.Sort Go.Shelf Go.RowKit
def keysSS {V:Type} (m:List (ByteArray×V)):Option (List ByteArray):=
 if (m.map (·.1)).Nodup∧(m.all fun p=>decide (p.1.size ≤ maxLen))=true∧m.length ≤ 1000000000000 then some (((m.map (·.1.data.toList)).mergeSort fun x y=>decide (x ≤ y)).map fun l=>⟨l.toArray⟩) else none
theorem sortedKeysS_ok {P:Program} {ρk ρs:Ren} (LK:SlLaysZ.n7 P ρk) (LS:SlLaysZ.n6 P ρs) (hf:FnOK P (ρs.f 6)) (hsort :∀m,AnyZ.SortsIn P ρs Fence.wide m)
  (e9 :∀args w,(callFunc (ρs.f 9) args).run P w=.ok (.enter (ρs.f 9) args) w) (eg :∀args w,(callFunc (ρk.f 10) args).run P w=.ok (.enter (ρk.f 10) args) w)
  {V:Type} {ev:V→D} {m:List (ByteArray×V)} {r:List ByteArray} (h:keysSS m=some r) {k e:Nat} :
  CallsOK True P (ρs.f 6) [.it (ρk.f 10) 0] [.map k e (entsD D.s ev m)] (.own 1 (List.map D.s r).length) [.map k e (entsD D.s ev m),.row (ρs.t 26) 1 (List.map D.s r) false]:=by
 unfold keysSS at h
 split at h
 rotate_left
 ·simp at h
 rename_i hcond
 obtain ⟨hnd,hrg,hlen⟩:=hcond
 obtain rfl:=Option.some.inj h
 refine ⟨hf,fun w S φ vals hs hr hn mm=>?_⟩
 have r0:=(hr 0 (by simp)).1
 simp only [List.getElem_cons_zero] at r0
 generalize hv:vals.getD 0 undef=v at r0
 have hv:=one_val hs hv
 cases r0 with | it _ _ b c B hφ hb hcc hS hcell=>
 rw [hv]
 obtain ⟨b',c',arr,clock,q1,q2,⟨q3,q4⟩,q5,q6⟩:=mm.obj 0 _ (show ofL [OB.map k e (entsD D.s ev m)] 0=some _ from rfl)
 rw [hφ] at q1
 simp only [Option.some.injEq,Prod.mk.injEq] at q1
 obtain ⟨rfl,rfl⟩:=q1
 have hsz:arr.size=m.length:=by rw [q3];simp [entsD]
 have hkey :∀i (hi:i < m.length),arr[i]?.map (·.key)=some (.string m[i].1):=by
  intro i hi
  obtain ⟨x,g1,⟨u,g2,g3,_⟩,_⟩:=q6 i (by simpa [entsD] using hi)
  simp only [entsD,List.getElem_map] at g2
  rw [g1]
  simp only [Option.map_some,g3]
  injection g2 with g2
  rw [← g2]
 have hkeys:arr.toList.map (·.key)=m.map fun p=>Value.string p.1:=by
  apply List.ext_getElem?
  intro i
  by_cases hi:i < m.length
  ·have:=hkey i hi
   simp only [List.getElem?_map,Array.getElem?_toList,List.getElem?_eq_getElem hi,Option.map_some]
   exact this
  ·rw [List.getElem?_eq_none (by simp;omega),List.getElem?_eq_none (by simp;omega)]
 let R:Value→Option (DataW Unit×List MemPlace):=fun _=>some (.nil,[])
 have hu:P.underlying (ρk.t 26)=some .string:=LK.t26
 have hko :∀x ∈ arr.toList,∃n:ByteArray,x.key=.string n∧keyOf P (ρk.t 26) x.key=some (.string n.data.toList):=by
  intro x hx
  have:x.key ∈ arr.toList.map (·.key):=List.mem_map.2 ⟨x,hx,rfl⟩
  rw [hkeys] at this
  obtain ⟨p,hp,he⟩:=List.mem_map.1 this
  have hw:p.1.size ≤ maxLen:=by
   have:=List.all_eq_true.1 hrg p hp
   simpa using this
  exact ⟨p.1,he.symm,by rw [← he];simp [keyOf,hu,mapKey,hw]⟩
 have F:WideElems.Fit P (ρk.t 26) R arr clock:=by
  refine ⟨by unfold maxLen;omega,⟨q4.1,q4.2,?_⟩,fun x hx=>?_⟩
  ·rw [hkeys]
   have:(m.map fun p=>Value.string p.1)=(m.map (·.1)).map Value.string:=by simp
   rw [this]
   exact List.pairwise_map.2 (hnd.imp fun h e=>h (by injection e))
  ·obtain ⟨n,_,h2⟩:=hko x hx
   exact ⟨_,by simp [WideElems.rd,h2,R];rfl⟩
 have hD :∃D0:DataW Unit,w.ownsMap P (ρk.t 26) R b arr.size D0∧(strKeys D0).Perm (m.map (·.1.data.toList))∧Maps.size D0=m.length:=by
  refine ⟨_,⟨arr,clock,q2,F,Nat.le_refl _,rfl⟩,?_,?_⟩
  ·have h1:=(Go.WideShapes.sorted_perm (arr.toList.map (WideElems.rg P (ρk.t 26) R))).map fun p=>strOf p.1
   refine h1.trans ?_
   have:(arr.toList.map (WideElems.rg P (ρk.t 26) R)).map (fun p=>strOf p.1)=m.map (·.1.data.toList):=by
    have h2:arr.toList.map (fun x=>(WideElems.rg P (ρk.t 26) R x).1)=(arr.toList.map (·.key)).map fun v=>match v with | .string n=>Lit.string n.data.toList | _=>.bool false:=by
     rw [List.map_map]
     apply List.map_congr_left
     intro x hx
     obtain ⟨n,g1,g2⟩:=hko x hx
     rw [g1] at g2
     simp [WideElems.rg,WideElems.rd,g2,R,g1]
    have h3:(arr.toList.map (WideElems.rg P (ρk.t 26) R)).map (fun p=>strOf p.1)=(arr.toList.map (fun x=>(WideElems.rg P (ρk.t 26) R x).1)).map strOf:=by simp
    rw [h3,h2,hkeys]
    simp [strOf,Function.comp_def]
   rw [this]
  ·have:=(Go.WideShapes.sorted_perm (arr.toList.map (WideElems.rg P (ρk.t 26) R))).length_eq
   simp only [List.length_map,Array.length_toList] at this
   simp only [Maps.size]
   omega
 obtain ⟨D0,hown,hperm,hsize⟩:=hD
 have hbl:=(mm.ow 0 b c (by simp [ofL]) hφ).1
 have hBl:=mm.bS B 0 hS
 have hseq:SeqGives Fence.wide 2 P (ρk.f 10) #[.pointer (some ⟨B,0,none⟩)] encStr (fun ss=>ss.Perm (strKeys D0)) (Maps.size D0) w:=
  AnyZ.keys_gives (ρ:=ρk) { LK with } Fence.wide _ trivial rfl (by omega) B b arr.size D0 w hBl hcell hown
 have cS:=AnyZ.sorted_in LS Fence.wide 5 trivial trivial trivial trivial rfl (by omega) (hsort _) e9 (ρk.f 10) #[.pointer (some ⟨B,0,none⟩)] trivial eg _ _ (by unfold maxLen;omega) (by omega) w hseq
 refine (callsIn_wide.1 cS).mono fun e' w' ⟨v,ss,he,hss,hrow,hnil,hbelow⟩=>?_
 have hms:(ss.mergeSort fun x y=>decide (x ≤ y))=(m.map (·.1.data.toList)).mergeSort fun x y=>decide (x ≤ y):=mergeSort_of_perm (hss.trans hperm)
 obtain ⟨m1,k1⟩:=mm.grow (w':=w') (.below hbelow)
 have hlen2:((m.map (·.1.data.toList)).mergeSort fun x y=>decide (x ≤ y)).length=ss.length:=by rw [← hms,List.length_mergeSort]
 rw [hms] at hrow
 obtain ⟨φ',m2,k2,hrep⟩:=m1.ownsRow1 1 (by simp [ofL]) (e:=ρs.t 26) (v:=v) (xs:=(((m.map (·.1.data.toList)).mergeSort fun x y=>decide (x ≤ y)).map encStr)) (base:=w.heap.size) (fun x hx=>by
   obtain ⟨n,_,rfl⟩:=List.mem_map.1 hx
   rfl) (by rw [List.length_map,hlen2];exact hrow) (Nat.le_refl _) (fun r' b' c' h1 h2=>(mm.ow r' b' c' h1 h2).1) (fun b' o' h=>mm.bS b' o' h)
 have hob:upd (ofL [OB.map k e (entsD D.s ev m)]) 1 (some (.row (ρs.t 26) 1 ((((m.map (·.1.data.toList)).mergeSort fun x y=>decide (x ≤ y)).map encStr).map .val) false)) =
   ofL [OB.map k e (entsD D.s ev m),.row (ρs.t 26) 1 (List.map D.s (((m.map (·.1.data.toList)).mergeSort fun x y=>decide (x ≤ y)).map fun l=>(⟨l.toArray⟩:ByteArray))) false]:=by
  funext q
  match q with
  | 0=>rfl
  | 1=>simp [upd,ofL,Function.comp_def]
  | q + 2=>simp [upd,ofL]
 rw [hob] at m2 k2 hrep
 refine ⟨v,he,S,φ',m2,k1.trans k2,?_,fun q hq=>?_⟩
 ·simpa using hrep
 ·simp only [AV.refs,List.mem_singleton] at hq
  rw [hq]
  simp [ofL]
end Go.AX
end
section
namespace Go.AX
open Go.Sort
def ltC {X:Type} (cmp:X→X→Option Int) (a b:X):Bool:=match cmp a b with
 | some r=>decide (r < 0)
 | none=>false
def swoB {X:Type} (cmp:X→X→Option Int) (l:List X):Bool:=
 (l.all fun a=>l.all fun b=>(cmp a b).isSome) && (l.all fun a=>!ltC cmp a a) &&
 (l.all fun a=>l.all fun b=>l.all fun c=>!(ltC cmp a b) || !(ltC cmp b c) || ltC cmp a c) &&
 (l.all fun a=>l.all fun b=>l.all fun c=>ltC cmp a b || ltC cmp b c || !(ltC cmp a c)) && decide (l.length ≤ 1000000000)
def ixL {X:Type} (l:List X) (i:Nat):Option X:=l[min i (l.length - 1)]?
def cfI {X:Type} (cmp:X→X→Option Int) (l:List X) (i j:Nat):Int:=match ixL l i,ixL l j with
 | some a,some b=>(cmp a b).getD 0
 | _,_=>0
def pdqI {X:Type} (cmp:X→X→Option Int) (l:List X):Array Nat:=Sort.pdq (Proofs.ltOf (cfI cmp l)) (Array.range l.length) 0 l.length (Lib.bitLen l.length) true true
def sortF {X:Type} (cmp:X→X→Option Int) (l:List X):Option (List X):=match swoB cmp l with
 | true=>some ((pdqI cmp l).toList.filterMap fun i=>l[i]?)
 | false=>none
section
variable {X:Type} {cmp:X→X→Option Int} {l:List X}
theorem ixL_mem (h:0 < l.length) (i:Nat) :∃x ∈ l,ixL l i=some x:=by
 have hi:min i (l.length - 1) < l.length:=by omega
 exact ⟨l[min i (l.length - 1)],List.getElem_mem hi,by unfold ixL;exact List.getElem?_eq_getElem hi⟩
theorem swoB_spec (h:swoB cmp l=true):(∀a ∈ l,∀b ∈ l,∃r,cmp a b=some r)∧(∀a ∈ l,ltC cmp a a=false)∧
  (∀a ∈ l,∀b ∈ l,∀c ∈ l,ltC cmp a b=true→ltC cmp b c=true→ltC cmp a c=true)∧(∀a ∈ l,∀b ∈ l,∀c ∈ l,ltC cmp a b=false→ltC cmp b c=false→ltC cmp a c=false)∧l.length ≤ 1000000000:=by
 simp only [swoB,Bool.and_eq_true,List.all_eq_true,decide_eq_true_eq] at h
 obtain ⟨⟨⟨⟨h1,h2⟩,h3⟩,h4⟩,h5⟩:=h
 refine ⟨fun a ha b hb=>Option.isSome_iff_exists.1 (h1 a ha b hb),fun a ha=>by simpa using h2 a ha,fun a ha b hb c hc g1 g2=>?_,fun a ha b hb c hc g1 g2=>?_,h5⟩
 ·have:=h3 a ha b hb c hc
  simpa [g1,g2] using this
 ·have:=h4 a ha b hb c hc
  simpa [g1,g2] using this
theorem swoB_of (h1 :∀a ∈ l,∀b ∈ l,∃r,cmp a b=some r) (h2 :∀a ∈ l,ltC cmp a a=false)
  (h3 :∀a ∈ l,∀b ∈ l,∀c ∈ l,ltC cmp a b=true→ltC cmp b c=true→ltC cmp a c=true) (h4 :∀a ∈ l,∀b ∈ l,∀c ∈ l,ltC cmp a b=false→ltC cmp b c=false→ltC cmp a c=false) (h5:l.length ≤ 1000000000):swoB cmp l=true:=by
 simp only [swoB,Bool.and_eq_true,List.all_eq_true,decide_eq_true_eq]
 refine ⟨⟨⟨⟨fun a ha b hb=>Option.isSome_iff_exists.2 (h1 a ha b hb),fun a ha=>by simp [h2 a ha]⟩,fun a ha b hb c hc=>?_⟩,fun a ha b hb c hc=>?_⟩,h5⟩
 ·cases g1:ltC cmp a b
  ·simp
  ·cases g2:ltC cmp b c
   ·simp
   ·simp [h3 a ha b hb c hc g1 g2]
 ·cases g1:ltC cmp a b
  ·cases g2:ltC cmp b c
   ·simp [h4 a ha b hb c hc g1 g2]
   ·simp
  ·simp
theorem ltOf_cfI (i j:Nat) (a b:X) (ha:ixL l i=some a) (hb:ixL l j=some b):Proofs.ltOf (cfI cmp l) i j=ltC cmp a b:=by
 unfold Proofs.ltOf cfI ltC
 rw [ha,hb]
 cases h:cmp a b<;>simp [h]
theorem swo_cfI (h:swoB cmp l=true) (hl:0 < l.length):SWO (Proofs.ltOf (cfI cmp l)):=by
 obtain ⟨_,h2,h3,h4,_⟩:=swoB_spec h
 refine ⟨fun x=>?_,fun x y z=>?_,fun x y z=>?_⟩
 ·obtain ⟨a,ha,ea⟩:=ixL_mem hl x
  rw [ltOf_cfI x x a a ea ea]
  exact h2 a ha
 ·obtain ⟨a,ha,ea⟩:=ixL_mem hl x
  obtain ⟨b,hb,eb⟩:=ixL_mem hl y
  obtain ⟨c,hc,ec⟩:=ixL_mem hl z
  rw [ltOf_cfI _ _ _ _ ea eb,ltOf_cfI _ _ _ _ eb ec,ltOf_cfI _ _ _ _ ea ec]
  exact h3 a ha b hb c hc
 ·obtain ⟨a,ha,ea⟩:=ixL_mem hl x
  obtain ⟨b,hb,eb⟩:=ixL_mem hl y
  obtain ⟨c,hc,ec⟩:=ixL_mem hl z
  rw [ltOf_cfI _ _ _ _ ea eb,ltOf_cfI _ _ _ _ eb ec,ltOf_cfI _ _ _ _ ea ec]
  exact h4 a ha b hb c hc
theorem pdqI_spec (h:swoB cmp l=true) (hl:0 < l.length):(pdqI cmp l).size=l.length∧(pdqI cmp l).toList.Perm (List.range l.length)∧∀i j,i < j→j < l.length→Proofs.ltOf (cfI cmp l) (pdqI cmp l)[j]! (pdqI cmp l)[i]! = false:=by
 obtain ⟨⟨h1,_,h2⟩,h3⟩:=pdq_sorts (Proofs.ltOf (cfI cmp l)) (swo_cfI h hl) (Array.range l.length) 0 l.length (Lib.bitLen l.length) true true (Nat.zero_le _) (by simp) (Or.inl rfl)
 have h1:(pdqI cmp l).size=l.length:=by simpa [pdqI] using h1
 refine ⟨h1,?_,fun i j hij hj=>h3 i j (Nat.zero_le _) hij hj⟩
 have e1:((pdqI cmp l).extract 0 l.length)=pdqI cmp l:=by rw [← h1];exact Array.extract_size
 have e2:((Array.range l.length).extract 0 l.length)=Array.range l.length:=by
  have:(Array.range l.length).size=l.length:=by simp
  conv=>lhs;arg 3;rw [← this]
  exact Array.extract_size
 have h2':((pdqI cmp l).extract 0 l.length).toList.Perm ((Array.range l.length).extract 0 l.length).toList:=h2
 rw [e1,e2] at h2'
 simpa using h2'
theorem filterMap_range (l:List X):(List.range l.length).filterMap (fun i=>l[i]?)=l:=by
 have :∀(n:Nat),n ≤ l.length→(List.range n).filterMap (fun i=>l[i]?)=l.take n:=by
  intro n
  induction n with
  | zero=>intro _;simp
  | succ n ih=>
   intro hn
   have hlt:n < l.length:=by omega
   rw [List.range_succ,List.filterMap_append,ih (by omega),List.take_add_one]
   simp [List.getElem?_eq_getElem hlt]
 rw [this _ (Nat.le_refl _),List.take_length]
theorem sortF_get {r:List X} (h:sortF cmp l=some r) (hl:0 < l.length):r.length=l.length∧∀i,i < l.length→(pdqI cmp l)[i]! < l.length∧r[i]?=l[(pdqI cmp l)[i]!]?:=by
 unfold sortF at h
 split at h
 ·rename_i hs
  obtain ⟨h1,h2,h3⟩:=pdqI_spec hs hl
  obtain rfl:=Option.some.inj h
  have hm :∀i ∈ (pdqI cmp l).toList,i < l.length:=fun i hi=>by simpa using h2.mem_iff.1 hi
  have key :∀(q:List Nat),(∀i ∈ q,i < l.length)→(q.filterMap fun i=>l[i]?).length=q.length∧∀j (hj:j < q.length),(q.filterMap fun i=>l[i]?)[j]?=l[q[j]]?:=by
   intro q
   induction q with
   | nil=>intro _;exact ⟨rfl,fun j hj=>by simp at hj⟩
   | cons x q ih=>
    intro hq
    obtain ⟨g1,g2⟩:=ih fun i hi=>hq i (List.mem_cons_of_mem _ hi)
    have hx:=hq x (List.mem_cons_self ..)
    have e:(x::q).filterMap (fun i=>l[i]?)=l[x]::q.filterMap fun i=>l[i]?:=by
     rw [List.filterMap_cons,List.getElem?_eq_getElem hx]
    rw [e]
    refine ⟨by simp [g1],fun j hj=>?_⟩
    cases j with
    | zero=>simp [List.getElem?_eq_getElem hx]
    | succ j=>simpa using g2 j (by simpa using hj)
  obtain ⟨g1,g2⟩:=key (pdqI cmp l).toList hm
  refine ⟨by rw [g1];simpa using h1,fun i hi=>?_⟩
  have hi':i < (pdqI cmp l).toList.length:=by simpa [h1] using hi
  have hget:(pdqI cmp l)[i]! = (pdqI cmp l).toList[i]:=by
   rw [getElem!_pos _ i (by simpa using hi')]
   simp
  rw [hget]
  exact ⟨hm _ (List.getElem_mem hi'),g2 i hi'⟩
 ·simp at h
theorem sortF_spec {r:List X} (h:sortF cmp l=some r):r.Perm l∧r.Pairwise fun a b=>ltC cmp b a=false:=by
 by_cases hl:0 < l.length
 ·have h0:=h
  obtain ⟨hlen,hget⟩:=sortF_get h hl
  unfold sortF at h
  split at h
  ·rename_i hs
   obtain ⟨h1,h2,h3⟩:=pdqI_spec hs hl
   obtain rfl:=Option.some.inj h
   refine ⟨?_,?_⟩
   ·have:=h2.filterMap fun i=>l[i]?
    rwa [filterMap_range] at this
   ·rw [List.pairwise_iff_getElem]
    intro i j hi hj hij
    have hi':i < l.length:=by omega
    have hj':j < l.length:=by omega
    obtain ⟨p1,p2⟩:=hget i hi'
    obtain ⟨q1,q2⟩:=hget j hj'
    rw [List.getElem?_eq_getElem hi,List.getElem?_eq_getElem p1] at p2
    rw [List.getElem?_eq_getElem hj,List.getElem?_eq_getElem q1] at q2
    have:=h3 i j hij hj'
    rw [ltOf_cfI (cmp:=cmp) (l:=l) _ _ _ _ (by unfold ixL;rw [Nat.min_eq_left (by omega)];exact List.getElem?_eq_getElem q1) (by unfold ixL;rw [Nat.min_eq_left (by omega)];exact List.getElem?_eq_getElem p1)] at this
    rw [Option.some.inj p2,Option.some.inj q2]
    exact this
  ·simp at h
 ·have:l=[]:=List.eq_nil_of_length_eq_zero (by omega)
  subst this
  unfold sortF at h
  split at h
  ·obtain rfl:=Option.some.inj h
   have:(pdqI cmp ([]:List X)).toList.filterMap (fun i=>([]:List X)[i]?)=[]:=by simp
   rw [this]
   exact ⟨.refl _,.nil⟩
  ·simp at h
theorem sortF_len {r:List X} (h:sortF cmp l=some r):r.length=l.length:=(sortF_spec h).1.length_eq
theorem sortF_some (h:swoB cmp l=true) :∃r,sortF cmp l=some r:=by
 unfold sortF
 rw [h]
 exact ⟨_,rfl⟩
end
end Go.AX
end
section
namespace Go.AX.Q20
open Go Go.AX
set_option linter.unusedVariables false
structure Set where
  Name:ByteArray
  ASNs:List Int
  Sets:List ByteArray
def Set.toD (x:Set):D:=.agg [D.s x.Name,D.l 1 D.i x.ASNs,D.l 1 D.s x.Sets]
def Set.av (x:Set):List AV:=[.d (D.s x.Name),.d (D.l 1 D.i x.ASNs),.d (D.l 1 D.s x.Sets)]
def Set.zv:List AV:=[.d (D.s ByteArray.empty),.d (D.nil 1),.d (D.nil 1)]
def Set.wf (x:Set):Prop:=(x.Name.size ≤ maxLen∧x.Name.size ≤ reachBytes)∧(x.ASNs.length ≤ maxLen∧x.ASNs.length * 8 ≤ reachBytes∧∀y0 ∈ x.ASNs,I64 y0)∧(x.Sets.length ≤ maxLen∧x.Sets.length * 16 ≤ reachBytes∧∀y0 ∈ x.Sets,(y0.size ≤ maxLen∧y0.size ≤ reachBytes))∧True
structure Addr where
  V6:Bool
  Hi:UInt64
  Lo:UInt64
def Addr.toD (x:Addr):D:=.agg [D.b x.V6,D.u64 x.Hi,D.u64 x.Lo]
def Addr.av (x:Addr):List AV:=[.d (D.b x.V6),.d (D.u64 x.Hi),.d (D.u64 x.Lo)]
def Addr.zv:List AV:=[.d (D.b false),.d (D.u64 (0:UInt64)),.d (D.u64 (0:UInt64))]
def Addr.wf (x:Addr):Prop:=True∧True∧True∧True
def Addr.eqd (x y:Addr):Bool:=((x.V6 == y.V6) && (((x.Hi.toNat:Int) == (y.Hi.toNat:Int)) && (((x.Lo.toNat:Int) == (y.Lo.toNat:Int)) && true)))
structure Prefix where
  Addr:Addr
  Len:Int
def Prefix.toD (x:Prefix):D:=.agg [D.b x.Addr.V6,D.u64 x.Addr.Hi,D.u64 x.Addr.Lo,D.i x.Len]
def Prefix.av (x:Prefix):List AV:=[.d (D.b x.Addr.V6),.d (D.u64 x.Addr.Hi),.d (D.u64 x.Addr.Lo),.d (D.i x.Len)]
def Prefix.zv:List AV:=[.d (D.b false),.d (D.u64 (0:UInt64)),.d (D.u64 (0:UInt64)),.d (D.i 0)]
def Prefix.wf (x:Prefix):Prop:=Addr.wf x.Addr∧I64 x.Len∧True
def Prefix.eqd (x y:Prefix):Bool:=(((x.Addr.V6 == y.Addr.V6) && (((x.Addr.Hi.toNat:Int) == (y.Addr.Hi.toNat:Int)) && (((x.Addr.Lo.toNat:Int) == (y.Addr.Lo.toNat:Int)) && true))) && ((x.Len == y.Len) && true))
structure Object where
  Prefix:Prefix
  Max:Int
  ASN:Int
def Object.toD (x:Object):D:=.agg [D.b x.Prefix.Addr.V6,D.u64 x.Prefix.Addr.Hi,D.u64 x.Prefix.Addr.Lo,D.i x.Prefix.Len,D.i x.Max,D.i x.ASN]
def Object.av (x:Object):List AV:=[.d (D.b x.Prefix.Addr.V6),.d (D.u64 x.Prefix.Addr.Hi),.d (D.u64 x.Prefix.Addr.Lo),.d (D.i x.Prefix.Len),.d (D.i x.Max),.d (D.i x.ASN)]
def Object.zv:List AV:=[.d (D.b false),.d (D.u64 (0:UInt64)),.d (D.u64 (0:UInt64)),.d (D.i 0),.d (D.i 0),.d (D.i 0)]
def Object.wf (x:Object):Prop:=Prefix.wf x.Prefix∧I64 x.Max∧I64 x.ASN∧True
def Object.eqd (x y:Object):Bool:=((((x.Prefix.Addr.V6 == y.Prefix.Addr.V6) && (((x.Prefix.Addr.Hi.toNat:Int) == (y.Prefix.Addr.Hi.toNat:Int)) && (((x.Prefix.Addr.Lo.toNat:Int) == (y.Prefix.Addr.Lo.toNat:Int)) && true))) && ((x.Prefix.Len == y.Prefix.Len) && true)) && ((x.Max == y.Max) && ((x.ASN == y.ASN) && true)))
structure Registry where
  Sets:List Set
  Objects:List Object
def Registry.toD (x:Registry):D:=.agg [D.l 3 Set.toD x.Sets,D.l 6 Object.toD x.Objects]
def Registry.av (x:Registry):List AV:=[.d (D.l 3 Set.toD x.Sets),.d (D.l 6 Object.toD x.Objects)]
def Registry.zv:List AV:=[.d (D.nil 3),.d (D.nil 6)]
def Registry.wf (x:Registry):Prop:=(x.Sets.length ≤ maxLen∧x.Sets.length * 64 ≤ reachBytes∧∀y0 ∈ x.Sets,Set.wf y0)∧(x.Objects.length ≤ maxLen∧x.Objects.length * 48 ≤ reachBytes∧∀y0 ∈ x.Objects,Object.wf y0)∧True
structure Deck where
  L:List Int
  At:Int
def Deck.toD (x:Deck):D:=.agg [D.l 1 D.i x.L,D.i x.At]
def Deck.av (x:Deck):List AV:=[.d (D.l 1 D.i x.L),.d (D.i x.At)]
def Deck.zv:List AV:=[.d (D.nil 1),.d (D.i 0)]
def Deck.wf (x:Deck):Prop:=(x.L.length ≤ maxLen∧x.L.length * 8 ≤ reachBytes∧∀y0 ∈ x.L,I64 y0)∧I64 x.At∧True
structure A2_Int where
  e0:Int
  e1:Int
def A2_Int.toD (x:A2_Int):D:=.agg [D.i x.e0,D.i x.e1]
def A2_Int.av (x:A2_Int):List AV:=[.d (D.i x.e0),.d (D.i x.e1)]
def A2_Int.zv:List AV:=[.d (D.i 0),.d (D.i 0)]
def A2_Int.wf (x:A2_Int):Prop:=I64 x.e0∧I64 x.e1∧True
def law20_light (a0:Registry):Option Bool:= joinP (τ:=Unit) (fun k1=> forR (σ:=Unit) (fun _=> k1 ()
) (fun next2 x3 i4 _=> joinP (τ:=Bool) (fun k5=> if (decide ((x3.Name.size:Int) > 60)) then k5 true else if (cond false true (decide ((x3.ASNs.length:Int) > 70))) then k5 true else k5 (cond false true (decide ((x3.Sets.length:Int) > 70)))
) fun v6=> if v6 then some false else next2 ()
) a0.Sets 0 ()
) fun _=> joinP (τ:=Bool) (fun k7=> if (decide ((a0.Sets.length:Int) ≤ 20)) then k7 (cond true (decide ((a0.Objects.length:Int) ≤ 40)) false) else k7 false
) fun v8=> some v8
def aspath_Number (a0:Int):Option Bool:= joinP (τ:=Bool) (fun k1=> if (decide (a0 ≥ 1)) then k1 (cond true (decide (a0 ≤ 4294967295)) false) else k1 false
) fun v2=> some v2
def irr_set_1 (a0:Int):Option Bool:= Option.bind (aspath_Number a0) fun v1=> some (!v1)
def member_within (a0:Int) (a1:Int) (a2:Int):Option Bool:= joinP (τ:=Bool) (fun k1=> if (decide (a0 ≥ a1)) then k1 (cond true (decide (a0 ≤ a2)) false) else k1 false
) fun v2=> some v2
def member_Named (a0:ByteArray):Option Bool:= Option.bind (trimC a0 (ByteArray.mk (List.toArray (List.cons 97 (List.cons 98 (List.cons 99 (List.cons 100 (List.cons 101 (List.cons 102 (List.cons 103 (List.cons 104 (List.cons 105 (List.cons 106 (List.cons 107 (List.cons 108 (List.cons 109 (List.cons 110 (List.cons 111 (List.cons 112 (List.cons 113 (List.cons 114 (List.cons 115 (List.cons 116 (List.cons 117 (List.cons 118 (List.cons 119 (List.cons 120 (List.cons 121 (List.cons 122 (List.cons 65 (List.cons 66 (List.cons 67 (List.cons 68 (List.cons 69 (List.cons 70 (List.cons 71 (List.cons 72 (List.cons 73 (List.cons 74 (List.cons 75 (List.cons 76 (List.cons 77 (List.cons 78 (List.cons 79 (List.cons 80 (List.cons 81 (List.cons 82 (List.cons 83 (List.cons 84 (List.cons 85 (List.cons 86 (List.cons 87 (List.cons 88 (List.cons 89 (List.cons 90 (List.cons 48 (List.cons 49 (List.cons 50 (List.cons 51 (List.cons 52 (List.cons 53 (List.cons 54 (List.cons 55 (List.cons 56 (List.cons 57 (List.cons 45 (List.cons 58 List.nil))))))))))))))))))))))))))))))))))))))))))))))))))))))))))))))))))) fun v1=> joinP (τ:=Bool) (fun k2=> Option.bind (member_within (a0.size:Int) 1 32) fun v3=> if v3 then k2 (cond true (v1.toList == (ByteArray.mk (List.toArray List.nil)).toList) false) else k2 false
) fun v4=> some v4
def irr_set_2 (a0:ByteArray):Option Bool:= Option.bind (member_Named a0) fun v1=> some (!v1)
def slices_IndexFunc_int_int__irr_set_1 (a0:List Int):Option Int:= joinP (τ:=Unit) (fun k1=> forR (σ:=Unit) (fun _=> k1 ()
) (fun next2 x3 i4 _=> Option.bind (irr_set_1 x3) fun v5=> if v5 then some (i4:Int) else next2 ()
) a0 0 ()
) fun _=> some (-1)
def slices_ContainsFunc_int_int__irr_set_1 (a0:List Int):Option Bool:= Option.bind (slices_IndexFunc_int_int__irr_set_1 a0) fun v1=> some (decide (v1 ≥ 0))
def slices_IndexFunc_string_string__irr_set_2 (a0:List ByteArray):Option Int:= joinP (τ:=Unit) (fun k1=> forR (σ:=Unit) (fun _=> k1 ()
) (fun next2 x3 i4 _=> Option.bind (irr_set_2 x3) fun v5=> if v5 then some (i4:Int) else next2 ()
) a0 0 ()
) fun _=> some (-1)
def slices_ContainsFunc_string_string__irr_set_2 (a0:List ByteArray):Option Bool:= Option.bind (slices_IndexFunc_string_string__irr_set_2 a0) fun v1=> some (decide (v1 ≥ 0))
def irr_set (a0:Set):Option Bool:= joinP (τ:=Bool) (fun k1=> Option.bind (member_Named a0.Name) fun v2=> if v2 then if (cond true (decide ((a0.ASNs.length:Int) ≤ 64)) false) then if (cond true (decide ((a0.Sets.length:Int) ≤ 64)) false) then Option.bind (slices_ContainsFunc_int_int__irr_set_1 a0.ASNs) fun v3=> if (cond true (!v3) false) then Option.bind (slices_ContainsFunc_string_string__irr_set_2 a0.Sets) fun v4=> k1 (cond true (!v4) false) else k1 false else k1 false else k1 false else k1 false
) fun v5=> some v5
def addr_Valid (a0:Addr):Option Bool:= joinP (τ:=Bool) (fun k1=> if a0.V6 then k1 true else if ((a0.Hi.toNat:Int) == 0) then k1 (cond false true (cond true (decide ((a0.Lo.toNat:Int) < 4294967296)) false)) else k1 false
) fun v2=> some v2
def prefix_width (a0:Addr):Option Int:= if a0.V6 then some 128 else some 32
def prefix_masks (a0:Int):Option (UInt64×UInt64):= if (decide (a0 > 64)) then some ((toU64 (((toU64 (1 * (2 ^ (min (Int.toNat ((toU64 (i64w (a0 - 64))).toNat:Int)) 64)))).toNat:Int) - 1)),(18446744073709551615:UInt64)) else some ((0:UInt64),(toU64 (((toU64 (1 * (2 ^ (min (Int.toNat ((toU64 a0).toNat:Int)) 64)))).toNat:Int) - 1)))
def prefix_first (a0:Addr) (a1:Int):Option Addr:= Option.bind (prefix_width a0) fun v1=> Option.bind (prefix_masks (i64w (v1 - a1))) fun (v2,v3)=> some (⟨a0.V6,(toU64 ((BitVec.ofInt 64 (a0.Hi.toNat:Int) &&& ~~~BitVec.ofInt 64 (v2.toNat:Int)).toNat:Int)),(toU64 ((BitVec.ofInt 64 (a0.Lo.toNat:Int) &&& ~~~BitVec.ofInt 64 (v3.toNat:Int)).toNat:Int))⟩:Addr)
def prefix_Valid (a0:Prefix):Option Bool:= joinP (τ:=Bool) (fun k1=> Option.bind (addr_Valid a0.Addr) fun v2=> if v2 then if (cond true (decide (a0.Len ≥ 0)) false) then Option.bind (prefix_width a0.Addr) fun v3=> if (cond true (decide (a0.Len ≤ v3)) false) then Option.bind (prefix_first a0.Addr a0.Len) fun v4=> k1 (cond true (Addr.eqd v4 a0.Addr) false) else k1 false else k1 false else k1 false
) fun v5=> some v5
def irr_width (a0:Prefix):Option Int:= if a0.Addr.V6 then some 128 else some 32
def irr_Valid (a0:Registry):Option Bool:= joinP (τ:=Unit) (fun k1=> forR (σ:=(List (ByteArray×Bool))) (fun v2=> k1 ()
) (fun next3 x4 i5 v2=> joinP (τ:=Bool) (fun k6=> Option.bind (some (Option.getD (mget v2 x4.Name) false)) fun v7=> if v7 then k6 true else Option.bind (irr_set x4) fun v8=> k6 (cond false true (!v8))
) fun v9=> if v9 then some false else next3 (mset v2 x4.Name true)
) a0.Sets 0 []
) fun _=> joinP (τ:=Unit) (fun k10=> forR (σ:=Unit) (fun _=> k10 ()
) (fun next11 x12 i13 _=> joinP (τ:=Bool) (fun k14=> Option.bind (prefix_Valid x12.Prefix) fun v15=> if (!v15) then k14 true else if (cond false true (decide (x12.Max < x12.Prefix.Len))) then k14 true else Option.bind (irr_width x12.Prefix) fun v16=> if (cond false true (decide (x12.Max > v16))) then k14 true else Option.bind (aspath_Number x12.ASN) fun v17=> k14 (cond false true (!v17))
) fun v18=> if v18 then some false else next11 ()
) a0.Objects 0 ()
) fun _=> joinP (τ:=Bool) (fun k19=> if (decide ((a0.Sets.length:Int) ≤ 64)) then k19 (cond true (decide ((a0.Objects.length:Int) ≤ 512)) false) else k19 false
) fun v20=> some v20
def irr_Expand (a0:Registry) (a1:ByteArray):Option ((List Int)×(List ByteArray)×Int):= Option.bind (irr_Valid a0) fun v1=> if (!v1) then some ([],[],1) else joinP (τ:=(List (ByteArray×Set))) (fun k2=> forR (σ:=(List (ByteArray×Set))) (fun v3=> k2 v3
) (fun next4 x5 i6 v3=> next4 (mset v3 x5.Name x5)
) a0.Sets 0 []
) fun v7=> Option.bind (some (Option.getD (mget v7 a1) (⟨ByteArray.empty,[],[]⟩:Set))) fun v8=> Option.bind (some (Option.isSome (mget v7 a1))) fun v9=> if (!v9) then some ([],[],11) else joinP (τ:=(List (Int×Bool))×(List (ByteArray×Bool))) (fun k10=> whileR (σ:=(List (ByteArray×Bool))×(List (Int×Bool))×(List (ByteArray×Bool))×(List ByteArray)) (fun next11 (v12,v13,v14,v15)=> if (decide ((v15.length:Int) > 0)) then joinP (τ:=(List (ByteArray×Bool))×(List (Int×Bool))×(List (ByteArray×Bool))×(List ByteArray)) (fun k16=> Option.bind (geti v15 0) fun v17=> Option.bind (some (Option.getD (mget v7 v17) (⟨ByteArray.empty,[],[]⟩:Set))) fun v18=> Option.bind (some (Option.isSome (mget v7 v17))) fun v19=> joinP (τ:=(List (ByteArray×Bool))×(List (Int×Bool))×(List (ByteArray×Bool))×(List ByteArray)) (fun k20=> joinP (τ:=(List (ByteArray×Bool))×(List (Int×Bool))×(List (ByteArray×Bool))×(List ByteArray)) (fun k21=> if (!v19) then Option.bind (geti v15 0) fun v22=> k21 (v12,v13,(mset v14 v22 true),v15) else Option.bind (some (Option.getD (mget v12 v18.Name) false)) fun v23=> joinP (τ:=(List (ByteArray×Bool))×(List (Int×Bool))×(List ByteArray)) (fun k24=> if (!v23) then joinP (τ:=(List (Int×Bool))) (fun k25=> forR (σ:=(List (Int×Bool))) (fun v26=> k25 v26
) (fun next27 x28 i29 v26=> next27 (mset v26 x28 true)
) v18.ASNs 0 v13
) fun v30=> Option.bind (apnd (α:=ByteArray) 16 v15 v18.Sets) fun v31=> k24 ((mset v12 v18.Name true),v30,v31) else k24 (v12,v13,v15)
) fun (v32,v33,v34)=> k21 (v32,v33,v14,v34)
) fun (v35,v36,v37,v38)=> k20 (v35,v36,v37,v38)
) fun (v39,v40,v41,v42)=> k16 (v39,v40,v41,v42)
) fun (v43,v44,v45,v46)=> Option.bind (part v46 1 (v46.length:Int)) fun v47=> next11 (v43,v44,v45,v47) else k10 (v13,v14)
) fuel ([],[],[],([a1]:List ByteArray))
) fun (v48,v49)=> Option.bind (keysSI v48) fun v50=> Option.bind (keysSS v49) fun v51=> some (v50,v51,0)
def law20_awake:Option Bool:= Option.bind (irr_Expand (⟨([(⟨(ByteArray.mk (List.toArray (List.cons 65 List.nil))),([1]:List Int),([(ByteArray.mk (List.toArray (List.cons 66 List.nil)))]:List ByteArray)⟩:Set),(⟨(ByteArray.mk (List.toArray (List.cons 66 List.nil))),([2]:List Int),([(ByteArray.mk (List.toArray (List.cons 65 List.nil))),(ByteArray.mk (List.toArray (List.cons 67 List.nil)))]:List ByteArray)⟩:Set)]:List Set),[]⟩:Registry) (ByteArray.mk (List.toArray (List.cons 65 List.nil)))) fun (v1,v2,v3)=> joinP (τ:=Bool) (fun k4=> if (v3 == 0) then if (cond true ((v1.length:Int) == 2) false) then Option.bind (geti v1 1) fun v5=> if (cond true (v5 == 2) false) then if (cond true ((v2.length:Int) == 1) false) then Option.bind (geti v2 0) fun v6=> k4 (cond true (v6.toList == (ByteArray.mk (List.toArray (List.cons 67 List.nil))).toList) false) else k4 false else k4 false else k4 false else k4 false
) fun v7=> some v7
def make_New (a0:List Int):Option Deck:= some (⟨a0,0⟩:Deck)
def make_Mod (a0:Int) (a1:Int):Option Int:= Option.bind (chk (a1 ≠ 0)) fun _=> joinP (τ:=Int) (fun k1=> if (decide ((Int.tmod a0 a1) < 0)) then k1 (i64w ((Int.tmod a0 a1) + a1)) else k1 (Int.tmod a0 a1)
) fun v2=> some v2
def make_Deck_Next (a0:Deck) (a1:Int):Option (Int×Deck):= if (decide (a0.At ≥ (a0.L.length:Int))) then some (0,a0) else Option.bind (geti a0.L (i64w ((i64w (a0.At + 1)) - 1))) fun v1=> Option.bind (make_Mod v1 a1) fun v2=> some (v2,(⟨a0.L,(i64w (a0.At + 1))⟩:Deck))
def ref01_Valid (a0:Addr):Option Bool:= joinP (τ:=Bool) (fun k1=> if a0.V6 then k1 true else if ((a0.Hi.toNat:Int) == 0) then k1 (cond false true (cond true (decide ((a0.Lo.toNat:Int) < 4294967296)) false)) else k1 false
) fun v2=> some v2
def ref02_width (a0:Addr):Option Int:= if a0.V6 then some 128 else some 32
def ref01_Bytes (a0:Addr):Option (List UInt8):= Option.bind (ref01_Valid a0) fun v1=> if (!v1) then some [] else joinP (τ:=Int) (fun k2=> if a0.V6 then k2 16 else k2 4
) fun v3=> joinP (τ:=(List UInt8)) (fun k4=> whileR (σ:=Int×(List UInt8)) (fun next5 (v6,v7)=> if (decide (v6 ≥ 0)) then joinP (τ:=UInt64) (fun k8=> if (decide (v6 ≥ 8)) then k8 a0.Hi else k8 a0.Lo
) fun v9=> Option.bind (apnd (α:=UInt8) 1 v7 ([(toU8 ((toU64 (Int.fdiv (v9.toNat:Int) (2 ^ (min (Int.toNat ((toU64 (8 * ((toU64 (Int.tmod v6 8)).toNat:Int))).toNat:Int)) 64)))).toNat:Int))]:List UInt8)) fun v10=> next5 ((i64w (v6 - 1)),v10) else k4 v7
) fuel ((i64w (v3 - 1)),[])
) fun v11=> some v11
def ref01_FromBytes (a0:List UInt8):Option (Addr×Int):= joinP (τ:=Bool) (fun k1=> if ((a0.length:Int) != 4) then k1 (cond true ((a0.length:Int) != 16) false) else k1 false
) fun v2=> if v2 then some ((⟨false,(0:UInt64),(0:UInt64)⟩:Addr),1) else joinP (τ:=Addr) (fun k3=> forR (σ:=Addr) (fun v4=> k3 v4
) (fun next5 x6 i7 v4=> next5 (⟨v4.V6,(toU64 ((BitVec.ofInt 64 ((toU64 ((v4.Hi.toNat:Int) * (2 ^ (min (Int.toNat 8) 64)))).toNat:Int) ||| BitVec.ofInt 64 ((toU64 (Int.fdiv (v4.Lo.toNat:Int) (2 ^ (min (Int.toNat 56) 64)))).toNat:Int)).toNat:Int)),(toU64 ((BitVec.ofInt 64 ((toU64 ((v4.Lo.toNat:Int) * (2 ^ (min (Int.toNat 8) 64)))).toNat:Int) ||| BitVec.ofInt 64 ((toU64 (x6.toNat:Int)).toNat:Int)).toNat:Int))⟩:Addr)
) a0 0 (⟨((a0.length:Int) == 16),(0:UInt64),(0:UInt64)⟩:Addr)
) fun v8=> some (v8,0)
def ref02_Make (a0:Addr) (a1:Int):Option (Prefix×Int):= Option.bind (ref01_Valid a0) fun v1=> if (!v1) then some ((⟨(⟨false,(0:UInt64),(0:UInt64)⟩:Addr),0⟩:Prefix),1) else joinP (τ:=Bool) (fun k2=> if (decide (a1 < 0)) then k2 true else Option.bind (ref02_width a0) fun v3=> k2 (cond false true (decide (a1 > v3)))
) fun v4=> if v4 then some ((⟨(⟨false,(0:UInt64),(0:UInt64)⟩:Addr),0⟩:Prefix),9) else Option.bind (ref01_Bytes a0) fun v5=> joinP (τ:=(List UInt8)) (fun k6=> whileR (σ:=Int×(List UInt8)) (fun next7 (v8,v9)=> if (decide (v8 < (i64w (8 * (v9.length:Int))))) then Option.bind (geti v9 (i64w (Int.tdiv v8 8))) fun v10=> Option.bind (geti v9 (i64w (Int.tdiv v8 8))) fun v11=> Option.bind (seti v9 (i64w (Int.tdiv v8 8)) (toU8 ((BitVec.ofInt 8 (v10.toNat:Int) &&& ~~~BitVec.ofInt 8 ((toU8 (Int.fdiv 128 (2 ^ (min (Int.toNat ((toU64 (Int.tmod v8 8)).toNat:Int)) 8)))).toNat:Int)).toNat:Int))) fun v12=> next7 ((i64w (v8 + 1)),v12) else k6 v9
) fuel (a1,v5)
) fun v13=> Option.bind (ref01_FromBytes v13) fun (v14,v15)=> some ((⟨v14,a1⟩:Prefix),0)
def make_Deck_Addr (a0:Deck):Option (Addr×Deck):= Option.bind (make_Deck_Next a0 6) fun (v1,v2)=> if (v1 == 0) then Option.bind (make_Deck_Next v2 8) fun (v3,v4)=> Option.bind (make_Deck_Next v4 4) fun (v5,v6)=> some ((⟨false,(0:UInt64),(toU64 (i64w ((i64w (167772160 + (i64w (v3 * (2 ^ (min (Int.toNat 8) 64)))))) + v5)))⟩:Addr),v6) else if (v1 == 1) then Option.bind (make_Deck_Next v2 4) fun (v7,v8)=> Option.bind (make_Deck_Next v8 8) fun (v9,v10)=> some ((⟨true,(toU64 (2306139568115548160 + ((toU64 v7).toNat:Int))),(toU64 v9)⟩:Addr),v10) else if (v1 == 2) then Option.bind (make_Deck_Next v2 5) fun (v11,v12)=> Option.bind (geti ([(0:UInt64),(1:UInt64),(4294967295:UInt64),(2147483647:UInt64),(2147483648:UInt64)]:List UInt64) v11) fun v13=> some ((⟨false,(0:UInt64),v13⟩:Addr),v12) else if (v1 == 3) then Option.bind (make_Deck_Next v2 4) fun (v14,v15)=> Option.bind (geti ([(0:UInt64),(1:UInt64),(18446744073709551615:UInt64),(9223372036854775808:UInt64)]:List UInt64) v14) fun v16=> Option.bind (make_Deck_Next v15 4) fun (v17,v18)=> Option.bind (geti ([(0:UInt64),(1:UInt64),(18446744073709551615:UInt64),(9223372036854775808:UInt64)]:List UInt64) v17) fun v19=> some ((⟨true,v16,v19⟩:Addr),v18) else if (v1 == 4) then Option.bind (make_Deck_Next v2 1073741824) fun (v20,v21)=> Option.bind (make_Deck_Next v21 5) fun (v22,v23)=> Option.bind (make_Deck_Next v23 1073741824) fun (v24,v25)=> Option.bind (make_Deck_Next v25 5) fun (v26,v27)=> some ((⟨true,(toU64 (((toU64 v20).toNat:Int) * (2 ^ (min (Int.toNat ((toU64 (i64w (v22 * 8))).toNat:Int)) 64)))),(toU64 (((toU64 v24).toNat:Int) * (2 ^ (min (Int.toNat ((toU64 (i64w (v26 * 8))).toNat:Int)) 64))))⟩:Addr),v27) else Option.bind (make_Deck_Next v2 1073741824) fun (v28,v29)=> some ((⟨false,(0:UInt64),(toU64 v28)⟩:Addr),v29)
def make_Deck_Prefix (a0:Deck):Option (Prefix×Deck):= Option.bind (make_Deck_Addr a0) fun (v1,v2)=> joinP (τ:=Int) (fun k3=> if v1.V6 then k3 128 else k3 32
) fun v4=> Option.bind (make_Deck_Next v2 4) fun (v5,v6)=> joinP (τ:=Int×Deck) (fun k7=> if (v5 == 0) then Option.bind (make_Deck_Next v6 (i64w (v4 + 1))) fun (v8,v9)=> k7 (v8,v9) else joinP (τ:=Int×Deck) (fun k10=> if (v5 == 1) then Option.bind (make_Deck_Next v6 9) fun (v11,v12)=> k10 ((i64w (v4 - v11)),v12) else joinP (τ:=Int×Deck) (fun k13=> if (v5 == 2) then Option.bind (make_Deck_Next v6 5) fun (v14,v15)=> Option.bind (geti ([8,22,23,24,16]:List Int) v14) fun v16=> k13 (v16,v15) else k13 (v4,v6)
) fun (v17,v18)=> k10 (v17,v18)
) fun (v19,v20)=> k7 (v19,v20)
) fun (v21,v22)=> Option.bind (ref02_Make v1 v21) fun (v23,v24)=> some (v23,v22)
def make_Deck_Object (a0:Deck):Option (Object×Deck):= Option.bind (make_Deck_Prefix a0) fun (v1,v2)=> joinP (τ:=Int) (fun k3=> if v1.Addr.V6 then k3 128 else k3 32
) fun v4=> Option.bind (make_Deck_Next v2 4) fun (v5,v6)=> Option.bind (make_Deck_Next v6 4) fun (v7,v8)=> Option.bind (make_Deck_Next v8 5) fun (v9,v10)=> some ((⟨v1,(if (i64w (v1.Len + (i64w (v5 * v7)))) < v4 then (i64w (v1.Len + (i64w (v5 * v7)))) else v4),(i64w (1 + v9))⟩:Object),v10)
def make_Deck_Registry (a0:Deck):Option (Registry×Deck):= Option.bind (make_Deck_Next a0 5) fun (v1,v2)=> joinP (τ:=Deck×(List Set)) (fun k3=> whileR (σ:=Int×Deck×(List Set)) (fun next4 (v5,v6,v7)=> if (decide (v5 < v1)) then joinP (τ:=Deck×(List Set)) (fun k8=> Option.bind (geti ([(ByteArray.mk (List.toArray (List.cons 65 (List.cons 83 (List.cons 45 (List.cons 65 List.nil)))))),(ByteArray.mk (List.toArray (List.cons 65 (List.cons 83 (List.cons 45 (List.cons 66 List.nil)))))),(ByteArray.mk (List.toArray (List.cons 65 (List.cons 83 (List.cons 45 (List.cons 67 List.nil)))))),(ByteArray.mk (List.toArray (List.cons 65 (List.cons 83 (List.cons 45 (List.cons 68 List.nil)))))),(ByteArray.mk (List.toArray (List.cons 65 (List.cons 83 (List.cons 45 (List.cons 69 List.nil))))))]:List ByteArray) v5) fun v9=> Option.bind (make_Deck_Next v6 4) fun (v10,v11)=> joinP (τ:=Deck×(List Int)) (fun k12=> whileR (σ:=Int×Deck×(List Int)) (fun next13 (v14,v15,v16)=> if (decide (v14 > 0)) then Option.bind (make_Deck_Next v15 6) fun (v17,v18)=> Option.bind (apnd (α:=Int) 8 v16 ([(i64w (1 + v17))]:List Int)) fun v19=> next13 ((i64w (v14 - 1)),v18,v19) else k12 (v15,v16)
) fuel (v10,v11,[])
) fun (v20,v21)=> Option.bind (make_Deck_Next v20 4) fun (v22,v23)=> joinP (τ:=Deck×(List ByteArray)) (fun k24=> whileR (σ:=Int×Deck×(List ByteArray)) (fun next25 (v26,v27,v28)=> if (decide (v26 > 0)) then Option.bind (make_Deck_Next v27 5) fun (v29,v30)=> Option.bind (geti ([(ByteArray.mk (List.toArray (List.cons 65 (List.cons 83 (List.cons 45 (List.cons 65 List.nil)))))),(ByteArray.mk (List.toArray (List.cons 65 (List.cons 83 (List.cons 45 (List.cons 66 List.nil)))))),(ByteArray.mk (List.toArray (List.cons 65 (List.cons 83 (List.cons 45 (List.cons 67 List.nil)))))),(ByteArray.mk (List.toArray (List.cons 65 (List.cons 83 (List.cons 45 (List.cons 68 List.nil)))))),(ByteArray.mk (List.toArray (List.cons 65 (List.cons 83 (List.cons 45 (List.cons 69 List.nil))))))]:List ByteArray) v29) fun v31=> Option.bind (apnd (α:=ByteArray) 16 v28 ([v31]:List ByteArray)) fun v32=> next25 ((i64w (v26 - 1)),v30,v32) else k24 (v27,v28)
) fuel (v22,v23,[])
) fun (v33,v34)=> Option.bind (apnd (α:=Set) 64 v7 ([(⟨v9,v21,v34⟩:Set)]:List Set)) fun v35=> k8 (v33,v35)
) fun (v36,v37)=> next4 ((i64w (v5 + 1)),v36,v37) else k3 (v6,v7)
) fuel (0,v2,[])
) fun (v38,v39)=> Option.bind (make_Deck_Next v38 12) fun (v40,v41)=> joinP (τ:=Deck×(List Object)) (fun k42=> whileR (σ:=Int×Deck×(List Object)) (fun next43 (v44,v45,v46)=> if (decide (v44 > 0)) then Option.bind (make_Deck_Object v45) fun (v47,v48)=> Option.bind (apnd (α:=Object) 48 v46 ([v47]:List Object)) fun v49=> next43 ((i64w (v44 - 1)),v48,v49) else k42 (v45,v46)
) fuel (v40,v41,[])
) fun (v50,v51)=> some ((⟨v39,v51⟩:Registry),v50)
def law20_bent (a0:Registry) (a1:Int) (a2:Int):Option Registry:= Option.bind (apnd (α:=Set) 64 [] a0.Sets) fun _=> Option.bind (apnd (α:=Object) 48 [] a0.Objects) fun _=> joinP (τ:=(List Set)) (fun k1=> if (decide ((a0.Sets.length:Int) > 0)) then Option.bind (make_Mod a2 (a0.Sets.length:Int)) fun v2=> Option.bind (geti a0.Sets v2) fun v3=> Option.bind (make_Mod a1 8) fun v4=> joinP (τ:=(List Set)) (fun k5=> if (v4 == 0) then Option.bind (make_Mod a2 3) fun v6=> Option.bind (geti ([(ByteArray.mk (List.toArray List.nil)),(ByteArray.mk (List.toArray (List.cons 97 (List.cons 32 (List.cons 98 List.nil))))),(ByteArray.mk (List.toArray (List.cons 65 (List.cons 83 (List.cons 45 (List.cons 65 List.nil))))))]:List ByteArray) v6) fun v7=> Option.bind (seti a0.Sets v2 ({ v3 with Name:=v7 })) fun v8=> k5 v8 else joinP (τ:=(List Set)) (fun k9=> if (v4 == 1) then Option.bind (apnd (α:=Int) 8 [] v3.ASNs) fun _=> Option.bind (make_Mod a2 3) fun v10=> Option.bind (geti ([0,4294967295,4294967296]:List Int) v10) fun v11=> Option.bind (apnd (α:=Int) 8 v3.ASNs ([v11]:List Int)) fun v12=> Option.bind (seti a0.Sets v2 ({ v3 with ASNs:=v12 })) fun v13=> k9 v13 else joinP (τ:=(List Set)) (fun k14=> if (v4 == 2) then Option.bind (apnd (α:=ByteArray) 16 [] v3.Sets) fun _=> Option.bind (make_Mod a2 2) fun v15=> Option.bind (geti ([(ByteArray.mk (List.toArray List.nil)),(ByteArray.mk (List.toArray (List.cons 65 (List.cons 83 (List.cons 45 (List.cons 90 List.nil))))))]:List ByteArray) v15) fun v16=> Option.bind (apnd (α:=ByteArray) 16 v3.Sets ([v16]:List ByteArray)) fun v17=> Option.bind (seti a0.Sets v2 ({ v3 with Sets:=v17 })) fun v18=> k14 v18 else k14 a0.Sets
) fun v19=> k9 v19
) fun v20=> k5 v20
) fun v21=> k1 v21 else k1 a0.Sets
) fun v22=> joinP (τ:=(List Object)) (fun k23=> if (decide ((a0.Objects.length:Int) > 0)) then Option.bind (make_Mod a2 (a0.Objects.length:Int)) fun v24=> Option.bind (geti a0.Objects v24) fun v25=> Option.bind (make_Mod a1 8) fun v26=> joinP (τ:=(List Object)) (fun k27=> if (v26 == 3) then Option.bind (make_Mod a2 2) fun v28=> Option.bind (seti a0.Objects v24 ({ v25 with Max:=(i64w (v25.Prefix.Len - v28)) })) fun v29=> k27 v29 else joinP (τ:=(List Object)) (fun k30=> if (v26 == 4) then Option.bind (make_Mod a2 4) fun v31=> Option.bind (geti ([32,33,128,129]:List Int) v31) fun v32=> Option.bind (seti a0.Objects v24 ({ v25 with Max:=v32 })) fun v33=> k30 v33 else joinP (τ:=(List Object)) (fun k34=> if (v26 == 5) then Option.bind (make_Mod a2 3) fun v35=> Option.bind (geti ([0,4294967295,4294967296]:List Int) v35) fun v36=> Option.bind (seti a0.Objects v24 ({ v25 with ASN:=v36 })) fun v37=> k34 v37 else joinP (τ:=(List Object)) (fun k38=> if (v26 == 6) then Option.bind (seti a0.Objects v24 ({ v25 with Prefix:=(⟨v25.Prefix.Addr,(i64w (v25.Prefix.Len + 1))⟩:Prefix) })) fun v39=> k38 v39 else k38 a0.Objects
) fun v40=> k34 v40
) fun v41=> k30 v41
) fun v42=> k27 v42
) fun v43=> k23 v43 else k23 a0.Objects
) fun v44=> some (⟨v22,v44⟩:Registry)
def ref08_Name (a0:ByteArray):Option Bool:= joinP (τ:=Unit) (fun k1=> whileR (σ:=Int) (fun next2 v3=> if (decide (v3 < (a0.size:Int))) then Option.bind (geti a0.toList v3) fun v4=> joinP (τ:=Bool) (fun k5=> if (decide ((v4.toNat:Int) ≥ 97)) then if (cond true (decide ((v4.toNat:Int) ≤ 122)) false) then k5 (!true) else if (decide ((v4.toNat:Int) ≥ 65)) then if (cond false true (cond true (decide ((v4.toNat:Int) ≤ 90)) false)) then k5 (!true) else if (decide ((v4.toNat:Int) ≥ 48)) then if (cond false true (cond true (decide ((v4.toNat:Int) ≤ 57)) false)) then k5 (!true) else if (cond false true ((v4.toNat:Int) == 45)) then k5 (!true) else k5 (!(cond false true ((v4.toNat:Int) == 58))) else if (cond false true ((v4.toNat:Int) == 45)) then k5 (!true) else k5 (!(cond false true ((v4.toNat:Int) == 58))) else if (decide ((v4.toNat:Int) ≥ 48)) then if (cond false true (cond true (decide ((v4.toNat:Int) ≤ 57)) false)) then k5 (!true) else if (cond false true ((v4.toNat:Int) == 45)) then k5 (!true) else k5 (!(cond false true ((v4.toNat:Int) == 58))) else if (cond false true ((v4.toNat:Int) == 45)) then k5 (!true) else k5 (!(cond false true ((v4.toNat:Int) == 58))) else if (decide ((v4.toNat:Int) ≥ 65)) then if (cond false true (cond true (decide ((v4.toNat:Int) ≤ 90)) false)) then k5 (!true) else if (decide ((v4.toNat:Int) ≥ 48)) then if (cond false true (cond true (decide ((v4.toNat:Int) ≤ 57)) false)) then k5 (!true) else if (cond false true ((v4.toNat:Int) == 45)) then k5 (!true) else k5 (!(cond false true ((v4.toNat:Int) == 58))) else if (cond false true ((v4.toNat:Int) == 45)) then k5 (!true) else k5 (!(cond false true ((v4.toNat:Int) == 58))) else if (decide ((v4.toNat:Int) ≥ 48)) then if (cond false true (cond true (decide ((v4.toNat:Int) ≤ 57)) false)) then k5 (!true) else if (cond false true ((v4.toNat:Int) == 45)) then k5 (!true) else k5 (!(cond false true ((v4.toNat:Int) == 58))) else if (cond false true ((v4.toNat:Int) == 45)) then k5 (!true) else k5 (!(cond false true ((v4.toNat:Int) == 58)))
) fun v6=> if v6 then some false else next2 (i64w (v3 + 1)) else k1 ()
) fuel 0
) fun _=> joinP (τ:=Bool) (fun k7=> if (decide ((a0.size:Int) ≥ 1)) then k7 (cond true (decide ((a0.size:Int) ≤ 32)) false) else k7 false
) fun v8=> some v8
def ref02_Valid (a0:Prefix):Option Bool:= Option.bind (ref02_Make a0.Addr a0.Len) fun (v1,v2)=> joinP (τ:=Bool) (fun k3=> if (v2 == 0) then k3 (cond true (Prefix.eqd a0 v1) false) else k3 false
) fun v4=> some v4
def ref20_ValidObject (a0:Object):Option Bool:= joinP (τ:=Int) (fun k1=> if a0.Prefix.Addr.V6 then k1 128 else k1 32
) fun v2=> joinP (τ:=Bool) (fun k3=> Option.bind (ref02_Valid a0.Prefix) fun v4=> if v4 then if (cond true (decide (a0.Max ≥ a0.Prefix.Len)) false) then if (cond true (decide (a0.Max ≤ v2)) false) then if (cond true (decide (a0.ASN ≥ 1)) false) then k3 (cond true (decide (a0.ASN ≤ 4294967295)) false) else k3 false else k3 false else k3 false else k3 false
) fun v5=> some v5
def ref20_Valid (a0:Registry):Option Bool:= joinP (τ:=Unit) (fun k1=> forR (σ:=(List (ByteArray×Bool))) (fun v2=> k1 ()
) (fun next3 x4 i5 v2=> joinP (τ:=Unit) (fun k6=> joinP (τ:=Bool) (fun k7=> Option.bind (ref08_Name x4.Name) fun v8=> if (!v8) then k7 true else Option.bind (some (Option.getD (mget v2 x4.Name) false)) fun v9=> if (cond false true v9) then k7 true else if (cond false true (decide ((x4.ASNs.length:Int) > 64))) then k7 true else k7 (cond false true (decide ((x4.Sets.length:Int) > 64)))
) fun v10=> if v10 then some false else joinP (τ:=Unit) (fun k11=> forR (σ:=Unit) (fun _=> k11 ()
) (fun next12 x13 i14 _=> joinP (τ:=Bool) (fun k15=> if (decide (x13 < 1)) then k15 true else k15 (cond false true (decide (x13 > 4294967295)))
) fun v16=> if v16 then some false else next12 ()
) x4.ASNs 0 ()
) fun _=> joinP (τ:=Unit) (fun k17=> forR (σ:=Unit) (fun _=> k17 ()
) (fun next18 x19 i20 _=> Option.bind (ref08_Name x19) fun v21=> if (!v21) then some false else next18 ()
) x4.Sets 0 ()
) fun _=> k6 ()
) fun _=> next3 (mset v2 x4.Name true)
) a0.Sets 0 []
) fun _=> joinP (τ:=Unit) (fun k22=> forR (σ:=Unit) (fun _=> k22 ()
) (fun next23 x24 i25 _=> Option.bind (ref20_ValidObject x24) fun v26=> if (!v26) then some false else next23 ()
) a0.Objects 0 ()
) fun _=> joinP (τ:=Bool) (fun k27=> if (decide ((a0.Sets.length:Int) ≤ 64)) then k27 (cond true (decide ((a0.Objects.length:Int) ≤ 512)) false) else k27 false
) fun v28=> some v28
def ref20_find (a0:Registry) (a1:ByteArray):Option (Set×Bool):= joinP (τ:=Unit) (fun k1=> forR (σ:=Unit) (fun _=> k1 ()
) (fun next2 x3 i4 _=> if (x3.Name.toList == a1.toList) then some (x3,true) else next2 ()
) a0.Sets 0 ()
) fun _=> some ((⟨ByteArray.empty,[],[]⟩:Set),false)
def ref20_insertName (a0:List ByteArray) (a1:ByteArray):Option (List ByteArray):= joinP (τ:=Int) (fun k1=> whileR (σ:=Int) (fun next2 v3=> joinP (τ:=Bool) (fun k4=> if (decide (v3 < (a0.length:Int))) then Option.bind (geti a0 v3) fun v5=> k4 (cond true (Op.bytesLess v5.toList a1.toList) false) else k4 false
) fun v6=> if v6 then next2 (i64w (v3 + 1)) else k1 v3
) fuel 0
) fun v7=> joinP (τ:=Bool) (fun k8=> if (decide (v7 < (a0.length:Int))) then Option.bind (geti a0 v7) fun v9=> k8 (cond true (v9.toList == a1.toList) false) else k8 false
) fun v10=> if v10 then some a0 else Option.bind (part a0 0 v7) fun v11=> Option.bind (apnd (α:=ByteArray) 16 [] v11) fun _=> Option.bind (apnd (α:=ByteArray) 16 v11 ([a1]:List ByteArray)) fun v12=> Option.bind (part a0 v7 (a0.length:Int)) fun v13=> Option.bind (apnd (α:=ByteArray) 16 v12 v13) fun v14=> some v14
def ref20_insert (a0:List Int) (a1:Int):Option (List Int):= joinP (τ:=Int) (fun k1=> whileR (σ:=Int) (fun next2 v3=> joinP (τ:=Bool) (fun k4=> if (decide (v3 < (a0.length:Int))) then Option.bind (geti a0 v3) fun v5=> k4 (cond true (decide (v5 < a1)) false) else k4 false
) fun v6=> if v6 then next2 (i64w (v3 + 1)) else k1 v3
) fuel 0
) fun v7=> joinP (τ:=Bool) (fun k8=> if (decide (v7 < (a0.length:Int))) then Option.bind (geti a0 v7) fun v9=> k8 (cond true (v9 == a1) false) else k8 false
) fun v10=> if v10 then some a0 else Option.bind (part a0 0 v7) fun v11=> Option.bind (apnd (α:=Int) 8 [] v11) fun _=> Option.bind (apnd (α:=Int) 8 v11 ([a1]:List Int)) fun v12=> Option.bind (part a0 v7 (a0.length:Int)) fun v13=> Option.bind (apnd (α:=Int) 8 v12 v13) fun v14=> some v14
def ref20_Expand (a0:Registry) (a1:ByteArray):Option ((List Int)×(List ByteArray)×Int):= Option.bind (ref20_Valid a0) fun v1=> if (!v1) then some ([],[],1) else Option.bind (ref20_find a0 a1) fun (v2,v3)=> if (!v3) then some ([],[],11) else joinP (τ:=(List Int)×(List ByteArray)) (fun k4=> whileR (σ:=(List Int)×(List ByteArray)×(List (ByteArray×Bool))×(List ByteArray)) (fun next5 (v6,v7,v8,v9)=> if (decide ((v9.length:Int) > 0)) then joinP (τ:=(List Int)×(List ByteArray)×(List (ByteArray×Bool))×(List ByteArray)) (fun k10=> Option.bind (geti v9 0) fun v11=> Option.bind (ref20_find a0 v11) fun (v12,v13)=> joinP (τ:=(List ByteArray)) (fun k14=> if (!v13) then Option.bind (geti v9 0) fun v15=> Option.bind (ref20_insertName v7 v15) fun v16=> k14 v16 else k14 v7
) fun v17=> Option.bind (part v9 1 (v9.length:Int)) fun v18=> joinP (τ:=(List Int)) (fun k19=> forR (σ:=(List Int)) (fun v20=> k19 v20
) (fun next21 x22 i23 v20=> Option.bind (ref20_insert v20 x22) fun v24=> next21 v24
) v12.ASNs 0 v6
) fun v25=> joinP (τ:=(List (ByteArray×Bool))×(List ByteArray)) (fun k26=> forR (σ:=(List (ByteArray×Bool))×(List ByteArray)) (fun (v27,v28)=> k26 (v27,v28)
) (fun next29 x30 i31 (v27,v28)=> Option.bind (some (Option.getD (mget v27 x30) false)) fun v32=> joinP (τ:=(List (ByteArray×Bool))×(List ByteArray)) (fun k33=> if (!v32) then Option.bind (apnd (α:=ByteArray) 16 v28 ([x30]:List ByteArray)) fun v34=> k33 ((mset v27 x30 true),v34) else k33 (v27,v28)
) fun (v35,v36)=> next29 (v35,v36)
) v12.Sets 0 (v8,v18)
) fun (v37,v38)=> k10 (v25,v17,v37,v38)
) fun (v39,v40,v41,v42)=> next5 (v39,v40,v41,v42) else k4 (v6,v7)
) fuel ([],[],(mset [] a1 true),([a1]:List ByteArray))
) fun (v43,v44)=> some (v43,v44,0)
def law20_ints (a0:List Int) (a1:List Int):Option Bool:= if ((a0.length:Int) != (a1.length:Int)) then some false else joinP (τ:=Unit) (fun k1=> forR (σ:=Unit) (fun _=> k1 ()
) (fun next2 x3 i4 _=> Option.bind (geti a1 (i4:Int)) fun v5=> if (v5 != x3) then some false else next2 ()
) a0 0 ()
) fun _=> some true
def law20_names (a0:List ByteArray) (a1:List ByteArray):Option Bool:= if ((a0.length:Int) != (a1.length:Int)) then some false else joinP (τ:=Unit) (fun k1=> forR (σ:=Unit) (fun _=> k1 ()
) (fun next2 x3 i4 _=> Option.bind (geti a1 (i4:Int)) fun v5=> if (!(v5.toList == x3.toList)) then some false else next2 ()
) a0 0 ()
) fun _=> some true
def law20_IrrExpands (a0:Registry) (a1:ByteArray) (a2:List Int) (a3:Int) (a4:Int):Option Bool:= joinP (τ:=Bool) (fun k1=> Option.bind (law20_light a0) fun v2=> if (!v2) then k1 true else k1 (cond false true (decide ((a1.size:Int) > 60)))
) fun v3=> if v3 then Option.bind (law20_awake) fun v4=> some v4 else Option.bind (make_New a2) fun v5=> Option.bind (make_Deck_Registry v5) fun (v6,v7)=> Option.bind (law20_bent v6 a3 a4) fun v8=> joinP (τ:=Unit) (fun k9=> forR (σ:=Unit) (fun _=> k9 ()
) (fun next10 x11 i12 _=> joinP (τ:=Unit) (fun k13=> Option.bind (irr_Valid x11) fun v14=> Option.bind (ref20_Valid x11) fun v15=> if (!(v14 == v15)) then some false else joinP (τ:=Unit) (fun k16=> forR (σ:=Unit) (fun _=> k16 ()
) (fun next17 x18 i19 _=> Option.bind (irr_Expand x11 x18) fun (v20,v21,v22)=> Option.bind (ref20_Expand x11 x18) fun (v23,v24,v25)=> joinP (τ:=Bool) (fun k26=> Option.bind (law20_ints v20 v23) fun v27=> if (!v27) then k26 true else Option.bind (law20_names v21 v24) fun v28=> if (cond false true (!v28)) then k26 true else k26 (cond false true (v22 != v25))
) fun v29=> if v29 then some false else next17 ()
) ([a1,(ByteArray.mk (List.toArray (List.cons 65 (List.cons 83 (List.cons 45 (List.cons 65 List.nil)))))),(ByteArray.mk (List.toArray (List.cons 65 (List.cons 83 (List.cons 45 (List.cons 67 List.nil)))))),(ByteArray.mk (List.toArray (List.cons 65 (List.cons 83 (List.cons 45 (List.cons 69 List.nil))))))]:List ByteArray) 0 ()
) fun _=> k13 ()
) fun _=> next10 ()
) ([a0,v6,v8]:List Registry) 0 ()
) fun _=> joinP (τ:=Bool) (fun k30=> Option.bind (irr_Valid v6) fun v31=> if v31 then Option.bind (law20_awake) fun v32=> k30 (cond true v32 false) else k30 false
) fun v33=> some v33
def law20_IrrOrder (a0:List Int) (a1:Int):Option Bool:= Option.bind (make_New a0) fun v1=> Option.bind (make_Deck_Registry v1) fun (v2,v3)=> if ((v2.Sets.length:Int) == 0) then Option.bind (law20_awake) fun v4=> some v4 else Option.bind (make_Mod a1 (v2.Sets.length:Int)) fun v5=> Option.bind (part v2.Sets v5 (v2.Sets.length:Int)) fun v6=> Option.bind (apnd (α:=Set) 64 [] v6) fun _=> Option.bind (part v2.Sets 0 v5) fun v7=> Option.bind (apnd (α:=Set) 64 v6 v7) fun v8=> joinP (τ:=(List Set)) (fun k9=> whileR (σ:=Int×(List Set)) (fun next10 (v11,v12)=> if (decide (v11 < (v8.length:Int))) then joinP (τ:=(List Set)) (fun k13=> Option.bind (geti v12 v11) fun v14=> joinP (τ:=(List ByteArray)) (fun k15=> forR (σ:=(List ByteArray)) (fun v16=> k15 v16
) (fun next17 x18 i19 v16=> Option.bind (geti v14.Sets (i64w ((i64w ((v14.Sets.length:Int) - 1)) - (i19:Int)))) fun v20=> Option.bind (apnd (α:=ByteArray) 16 v16 ([v20]:List ByteArray)) fun v21=> next17 v21
) v14.Sets 0 []
) fun v22=> joinP (τ:=(List Int)) (fun k23=> forR (σ:=(List Int)) (fun v24=> k23 v24
) (fun next25 x26 i27 v24=> Option.bind (geti v14.ASNs (i64w ((i64w ((v14.ASNs.length:Int) - 1)) - (i27:Int)))) fun v28=> Option.bind (apnd (α:=Int) 8 v24 ([v28]:List Int)) fun v29=> next25 v29
) v14.ASNs 0 []
) fun v30=> Option.bind (geti v12 v11) fun v31=> Option.bind (seti v12 v11 (⟨v14.Name,v30,v22⟩:Set)) fun v32=> k13 v32
) fun v33=> next10 ((i64w (v11 + 1)),v33) else k9 v12
) fuel (0,v8)
) fun v34=> joinP (τ:=Unit) (fun k35=> forR (σ:=Unit) (fun _=> k35 ()
) (fun next36 x37 i38 _=> joinP (τ:=Unit) (fun k39=> Option.bind (irr_Expand v2 x37.Name) fun (v40,v41,v42)=> Option.bind (irr_Expand (⟨v34,v2.Objects⟩:Registry) x37.Name) fun (v43,v44,v45)=> joinP (τ:=Bool) (fun k46=> if (v42 != 0) then k46 true else if (cond false true (v45 != 0)) then k46 true else Option.bind (law20_ints v40 v43) fun v47=> if (cond false true (!v47)) then k46 true else Option.bind (law20_names v41 v44) fun v48=> k46 (cond false true (!v48))
) fun v49=> if v49 then some false else joinP (τ:=(List (Int×Bool))) (fun k50=> forR (σ:=(List (Int×Bool))) (fun v51=> k50 v51
) (fun next52 x53 i54 v51=> next52 (mset v51 x53 true)
) v40 0 []
) fun v55=> joinP (τ:=Unit) (fun k56=> forR (σ:=Unit) (fun _=> k56 ()
) (fun next57 x58 i59 _=> Option.bind (some (Option.getD (mget v55 x58) false)) fun v60=> if (!v60) then some false else next57 ()
) x37.ASNs 0 ()
) fun _=> joinP (τ:=Unit) (fun k61=> forR (σ:=Unit) (fun _=> k61 ()
) (fun next62 x63 i64 _=> joinP (τ:=Unit) (fun k65=> Option.bind (irr_Expand v2 x63) fun (v66,v67,v68)=> joinP (τ:=Unit) (fun k69=> forR (σ:=Unit) (fun _=> k69 ()
) (fun next70 x71 i72 _=> joinP (τ:=Bool) (fun k73=> if (v68 == 0) then Option.bind (some (Option.getD (mget v55 x71) false)) fun v74=> k73 (cond true (!v74) false) else k73 false
) fun v75=> if v75 then some false else next70 ()
) v66 0 ()
) fun _=> k65 ()
) fun _=> next62 ()
) x37.Sets 0 ()
) fun _=> k39 ()
) fun _=> next36 ()
) v2.Sets 0 ()
) fun _=> Option.bind (law20_awake) fun v76=> some v76
def slices_Clone_api_Object_api_Object (a0:List Object):Option (List Object):= Option.bind (apnd (α:=Object) 48 ([]:List Object) a0) fun v1=> some v1
def cmp_Or_int (a0:List Int):Option Int:= joinP (τ:=Unit) (fun k1=> forR (σ:=Unit) (fun _=> k1 ()
) (fun next2 x3 i4 _=> if (x3 != 0) then some x3 else next2 ()
) a0 0 ()
) fun _=> some 0
def cmp_isNaN_int (a0:Int):Option Bool:= some (a0 != a0)
def cmp_Compare_int (a0:Int) (a1:Int):Option Int:= Option.bind (cmp_isNaN_int a0) fun v1=> Option.bind (cmp_isNaN_int a1) fun v2=> if v1 then if v2 then some 0 else some (-1) else if v2 then some 1 else if (decide (a0 < a1)) then some (-1) else if (decide (a0 > a1)) then some 1 else some 0
def addr_family (a0:Addr):Option Int:= if a0.V6 then some 1 else some 0
def cmp_isNaN_uint64 (a0:UInt64):Option Bool:= some ((a0.toNat:Int) != (a0.toNat:Int))
def cmp_Compare_uint64 (a0:UInt64) (a1:UInt64):Option Int:= Option.bind (cmp_isNaN_uint64 a0) fun v1=> Option.bind (cmp_isNaN_uint64 a1) fun v2=> if v1 then if v2 then some 0 else some (-1) else if v2 then some 1 else if (decide ((a0.toNat:Int) < (a1.toNat:Int))) then some (-1) else if (decide ((a0.toNat:Int) > (a1.toNat:Int))) then some 1 else some 0
def addr_Cmp (a0:Addr) (a1:Addr):Option Int:= Option.bind (addr_family a0) fun v1=> Option.bind (addr_family a1) fun v2=> Option.bind (cmp_Compare_int v1 v2) fun v3=> Option.bind (cmp_Compare_uint64 a0.Hi a1.Hi) fun v4=> Option.bind (cmp_Compare_uint64 a0.Lo a1.Lo) fun v5=> Option.bind (cmp_Or_int ([v3,v4,v5]:List Int)) fun v6=> some v6
def prefix_Cmp (a0:Prefix) (a1:Prefix):Option Int:= Option.bind (addr_Cmp a0.Addr a1.Addr) fun v1=> Option.bind (cmp_Compare_int a0.Len a1.Len) fun v2=> Option.bind (cmp_Or_int ([v1,v2]:List Int)) fun v3=> some v3
def irr_Compare (a0:Object) (a1:Object):Option Int:= Option.bind (prefix_Cmp a0.Prefix a1.Prefix) fun v1=> Option.bind (cmp_Compare_int a0.Max a1.Max) fun v2=> Option.bind (cmp_Compare_int a0.ASN a1.ASN) fun v3=> Option.bind (cmp_Or_int ([v1,v2,v3]:List Int)) fun v4=> some v4
def slices_Compact_api_Object_api_Object (a0:List Object):Option (List Object):= if (decide ((a0.length:Int) < 2)) then some a0 else joinP (τ:=Unit) (fun k1=> whileR (σ:=Int) (fun next2 v3=> if (decide (v3 < (a0.length:Int))) then joinP (τ:=Unit) (fun k4=> Option.bind (geti a0 v3) fun v5=> Option.bind (geti a0 (i64w (v3 - 1))) fun v6=> if (Object.eqd v5 v6) then Option.bind (chk (0 ≤ v3∧v3 ≤ (a0.length:Int)∧(a0.length:Int) ≤ (a0.length:Int))) fun _=> joinP (τ:=Int×(List Object)) (fun k7=> whileR (σ:=Int×Int×(List Object)) (fun next8 (v9,v10,v11)=> if (decide (v10 < (((Int.toNat (a0.length:Int) - Int.toNat v3):Nat):Int))) then Option.bind (geti (List.take (Int.toNat (a0.length:Int) - Int.toNat v3) (List.drop (Int.toNat v3) v11)) v10) fun v12=> Option.bind (geti (List.take (Int.toNat (a0.length:Int) - Int.toNat v3) (List.drop (Int.toNat v3) v11)) (i64w (v10 - 1))) fun v13=> joinP (τ:=Int×(List Object)) (fun k14=> if (!(Object.eqd v12 v13)) then Option.bind (geti (List.take (Int.toNat (a0.length:Int) - Int.toNat v3) (List.drop (Int.toNat v3) v11)) v10) fun v15=> Option.bind (geti v11 v9) fun v16=> Option.bind (seti v11 v9 v15) fun v17=> k14 ((i64w (v9 + 1)),v17) else k14 (v9,v11)
) fun (v18,v19)=> next8 (v18,(i64w (v10 + 1)),v19) else k7 (v9,v11)
) fuel (v3,1,a0)
) fun (v20,v21)=> Option.bind (chk (0 ≤ v20∧v20 ≤ (v21.length:Int)∧(v21.length:Int) ≤ (v21.length:Int))) fun _=> Option.bind (part (List.take (Int.toNat v20) v21 ++ List.replicate (Int.toNat (v21.length:Int) - Int.toNat v20) (⟨(⟨(⟨false,(0:UInt64),(0:UInt64)⟩:Addr),0⟩:Prefix),0,0⟩:Object) ++ List.drop ((Int.toNat v20) + (Int.toNat (v21.length:Int) - Int.toNat v20)) v21) 0 v20) fun v22=> some v22 else k4 ()
) fun _=> next2 (i64w (v3 + 1)) else k1 ()
) fuel 1
) fun _=> some a0
def irr_Ordered (a0:List Object):Option (List Object):= Option.bind (slices_Clone_api_Object_api_Object a0) fun v1=> Option.bind (sortF irr_Compare v1) fun v2=> Option.bind (slices_Compact_api_Object_api_Object v2) fun v3=> some v3
def prefix_Contains (a0:Prefix) (a1:Addr):Option Bool:= joinP (τ:=Bool) (fun k1=> if (a0.Addr.V6 == a1.V6) then if (cond true (decide (a0.Len ≥ 0)) false) then Option.bind (prefix_width a1) fun v2=> if (cond true (decide (a0.Len ≤ v2)) false) then Option.bind (prefix_first a1 a0.Len) fun v3=> k1 (cond true (Addr.eqd v3 a0.Addr) false) else k1 false else k1 false else k1 false
) fun v4=> some v4
def prefix_Covers (a0:Prefix) (a1:Prefix):Option Bool:= joinP (τ:=Bool) (fun k1=> if (decide (a1.Len ≥ a0.Len)) then Option.bind (prefix_Contains a0 a1.Addr) fun v2=> k1 (cond true v2 false) else k1 false
) fun v3=> some v3
def irr_Normal_1 (a0:Object) (a1:Object):Option (Bool×Object):= joinP (τ:=Bool) (fun k1=> if (!(Object.eqd a0 a1)) then if (cond true (a0.ASN == a1.ASN) false) then if (cond true (decide (a0.Max ≥ a1.Max)) false) then Option.bind (prefix_Covers a0.Prefix a1.Prefix) fun v2=> k1 (cond true v2 false) else k1 false else k1 false else k1 false
) fun v3=> some (v3,a1)
def slices_IndexFunc_api_Object_api_Object__irr_Normal_1 (a0:List Object) (a1c0:Object):Option (Int×Object):= joinP (τ:=Object) (fun k1=> forR (σ:=Object) (fun v2=> k1 v2
) (fun next3 x4 i5 v2=> Option.bind (irr_Normal_1 x4 v2) fun (v6,v7)=> if v6 then some ((i5:Int),v7) else next3 v7
) a0 0 a1c0
) fun v8=> some ((-1),v8)
def slices_ContainsFunc_api_Object_api_Object__irr_Normal_1 (a0:List Object) (a1c0:Object):Option (Bool×Object):= Option.bind (slices_IndexFunc_api_Object_api_Object__irr_Normal_1 a0 a1c0) fun (v1,v2)=> some ((decide (v1 ≥ 0)),v2)
def irr_Normal (a0:List Object):Option (List Object):= Option.bind (irr_Ordered a0) fun v1=> joinP (τ:=(List Object)) (fun k2=> forR (σ:=(List Object)) (fun v3=> k2 v3
) (fun next4 x5 i6 v3=> Option.bind (slices_ContainsFunc_api_Object_api_Object__irr_Normal_1 v1 x5) fun (v7,v8)=> joinP (τ:=(List Object)) (fun k9=> if (!v7) then Option.bind (apnd (α:=Object) 48 v3 ([v8]:List Object)) fun v10=> k9 v10 else k9 v3
) fun v11=> next4 v11
) v1 0 []
) fun v12=> some v12
def irr_Permits (a0:List Object) (a1:Prefix) (a2:Int):Option Int:= Option.bind (prefix_Valid a1) fun v1=> if (!v1) then some 1 else joinP (τ:=Int) (fun k2=> forR (σ:=Int) (fun v3=> k2 v3
) (fun next4 x5 i6 v3=> joinP (τ:=Int) (fun k7=> if (x5.ASN != a2) then k7 v3 else Option.bind (prefix_Covers x5.Prefix a1) fun v8=> joinP (τ:=Int) (fun k9=> if (!v8) then joinP (τ:=Int) (fun k10=> if (v3 == 11) then k10 7 else k10 v3
) fun v11=> k9 v11 else if (decide (a1.Len > x5.Max)) then k9 9 else some 0
) fun v12=> k7 v12
) fun v13=> next4 v13
) a0 0 11
) fun v14=> some v14
def ref02_Contains (a0:Prefix) (a1:Addr):Option Bool:= Option.bind (ref02_Make a1 a0.Len) fun (v1,v2)=> joinP (τ:=Bool) (fun k3=> if (v2 == 0) then k3 (cond true (Prefix.eqd v1 a0) false) else k3 false
) fun v4=> some v4
def ref02_Covers (a0:Prefix) (a1:Prefix):Option Bool:= joinP (τ:=Bool) (fun k1=> if (decide (a1.Len ≥ a0.Len)) then Option.bind (ref02_Contains a0 a1.Addr) fun v2=> k1 (cond true v2 false) else k1 false
) fun v3=> some v3
def law20_IrrNormal (a0:List Int) (a1:Int):Option Bool:= Option.bind (make_New a0) fun v1=> Option.bind (make_Deck_Registry v1) fun (v2,v3)=> Option.bind (irr_Normal v2.Objects) fun v4=> Option.bind (make_Deck_Prefix v3) fun (v5,v6)=> Option.bind (make_Deck_Prefix v6) fun (v7,v8)=> joinP (τ:=(List Prefix)) (fun k9=> forR (σ:=(List Prefix)) (fun v10=> k9 v10
) (fun next11 x12 i13 v10=> Option.bind (ref02_Make x12.Prefix.Addr x12.Max) fun (v14,v15)=> Option.bind (apnd (α:=Prefix) 32 v10 ([x12.Prefix,v14]:List Prefix)) fun v16=> next11 v16
) v2.Objects 0 ([v5,v7]:List Prefix)
) fun v17=> joinP (τ:=Unit) (fun k18=> forR (σ:=Unit) (fun _=> k18 ()
) (fun next19 x20 i21 _=> joinP (τ:=Unit) (fun k22=> joinP (τ:=Unit) (fun k23=> whileR (σ:=Int) (fun next24 v25=> if (decide (v25 < 7)) then Option.bind (irr_Permits v2.Objects x20 v25) fun v26=> Option.bind (irr_Permits v4 x20 v25) fun v27=> if (!((v26 == 0) == (v27 == 0))) then some false else next24 (i64w (v25 + 1)) else k23 ()
) fuel 1
) fun _=> joinP (τ:=Bool) (fun k28=> Option.bind (irr_Permits v4 x20 a1) fun v29=> if (v29 == 0) then if (decide (a1 < 1)) then k28 true else k28 (cond true (cond false true (decide (a1 > 6))) false) else k28 false
) fun v30=> if v30 then some false else k22 ()
) fun _=> next19 ()
) v17 0 ()
) fun _=> joinP (τ:=Unit) (fun k31=> forR (σ:=Unit) (fun _=> k31 ()
) (fun next32 x33 i34 _=> joinP (τ:=Unit) (fun k35=> Option.bind (part v4 0 (i34:Int)) fun v36=> Option.bind (apnd (α:=Object) 48 [] v36) fun _=> Option.bind (part v4 ((i34 + 1:Nat):Int) (v4.length:Int)) fun v37=> Option.bind (apnd (α:=Object) 48 v36 v37) fun v38=> Option.bind (ref02_Make x33.Prefix.Addr x33.Prefix.Len) fun (v39,v40)=> Option.bind (ref02_Make x33.Prefix.Addr x33.Max) fun (v41,v42)=> joinP (τ:=Bool) (fun k43=> Option.bind (irr_Permits v38 v39 x33.ASN) fun v44=> if (v44 == 0) then Option.bind (irr_Permits v38 v41 x33.ASN) fun v45=> k43 (cond true (v45 == 0) false) else k43 false
) fun v46=> joinP (τ:=Unit) (fun k47=> if v46 then joinP (τ:=Bool) (fun k48=> forR (σ:=Bool) (fun v49=> k48 v49
) (fun next50 x51 i52 v49=> joinP (τ:=Bool) (fun k53=> if v49 then k53 true else if (x51.ASN == x33.ASN) then Option.bind (ref02_Covers x51.Prefix x33.Prefix) fun v54=> if (cond true v54 false) then k53 (cond false true (cond true (decide (x51.Max ≥ x33.Max)) false)) else k53 false else k53 false
) fun v55=> next50 v55
) v38 0 false
) fun v56=> if v56 then some false else k47 () else k47 ()
) fun _=> k35 ()
) fun _=> next32 ()
) v4 0 ()
) fun _=> Option.bind (law20_awake) fun v57=> some v57
def slices_Index_int_int (a0:List Int) (a1:Int):Option Int:= joinP (τ:=Unit) (fun k1=> forR (σ:=Unit) (fun _=> k1 ()
) (fun next2 x3 i4 _=> if (a1 == x3) then some (i4:Int) else next2 ()
) a0 0 ()
) fun _=> some (-1)
def slices_Contains_int_int (a0:List Int) (a1:Int):Option Bool:= Option.bind (slices_Index_int_int a0 a1) fun v1=> some (decide (v1 ≥ 0))
def irr_Own_1 (a0:Object) (a1:List Int):Option (Bool×(List Int)):= Option.bind (slices_Contains_int_int a1 a0.ASN) fun v1=> some ((!v1),a1)
def slices_IndexFunc_api_Object_api_Object__irr_Own_1 (a0:List Object) (a1c0:List Int):Option (Int×(List Int)):= joinP (τ:=(List Int)) (fun k1=> forR (σ:=(List Int)) (fun v2=> k1 v2
) (fun next3 x4 i5 v2=> Option.bind (irr_Own_1 x4 v2) fun (v6,v7)=> if v6 then some ((i5:Int),v7) else next3 v7
) a0 0 a1c0
) fun v8=> some ((-1),v8)
def slices_IndexFunc_api_Object_api_Object_o__irr_Own_1 (a0:List Object) (a1c0:List Int):Option (Int×(List Int)):= joinP (τ:=(List Int)) (fun k1=> forR (σ:=(List Int)) (fun v2=> k1 v2
) (fun next3 x4 i5 v2=> Option.bind (irr_Own_1 x4 v2) fun (v6,v7)=> if v6 then some ((i5:Int),v7) else next3 v7
) a0 0 a1c0
) fun v8=> some ((-1),v8)
def slices_DeleteFunc_api_Object_api_Object__irr_Own_1 (a0:List Object) (a1c0:List Int):Option ((List Object)×(List Int)):= Option.bind (slices_IndexFunc_api_Object_api_Object_o__irr_Own_1 a0 a1c0) fun (v1,v2)=> if (v1 == (-1)) then some (a0,v2) else joinP (τ:=Int×(List Object)×(List Int)) (fun k3=> whileR (σ:=Int×Int×(List Object)×(List Int)) (fun next4 (v5,v6,v7,v8)=> if (decide (v6 < (v7.length:Int))) then Option.bind (geti v7 v6) fun v9=> Option.bind (irr_Own_1 v9 v8) fun (v10,v11)=> joinP (τ:=Int×(List Object)) (fun k12=> if (!v10) then Option.bind (geti v7 v5) fun v13=> Option.bind (seti v7 v5 v9) fun v14=> k12 ((i64w (v5 + 1)),v14) else k12 (v5,v7)
) fun (v15,v16)=> next4 (v15,(i64w (v6 + 1)),v16,v11) else k3 (v5,v7,v8)
) fuel (v1,(i64w (v1 + 1)),a0,v2)
) fun (v17,v18,v19)=> Option.bind (chk (0 ≤ v17∧v17 ≤ (v18.length:Int)∧(v18.length:Int) ≤ (v18.length:Int))) fun _=> Option.bind (part (List.take (Int.toNat v17) v18 ++ List.replicate (Int.toNat (v18.length:Int) - Int.toNat v17) (⟨(⟨(⟨false,(0:UInt64),(0:UInt64)⟩:Addr),0⟩:Prefix),0,0⟩:Object) ++ List.drop ((Int.toNat v17) + (Int.toNat (v18.length:Int) - Int.toNat v17)) v18) 0 v17) fun v20=> some (v20,v19)
def irr_Own (a0:Registry) (a1:List Int):Option (List Object):= Option.bind (slices_Clone_api_Object_api_Object a0.Objects) fun v1=> Option.bind (slices_DeleteFunc_api_Object_api_Object__irr_Own_1 v1 a1) fun (v2,v3)=> Option.bind (irr_Ordered v2) fun v4=> some v4
def law20_IrrMore (a0:List Int) (a1:List Int) (a2:Int):Option Bool:= Option.bind (make_New a0) fun v1=> Option.bind (make_Deck_Registry v1) fun (v2,v3)=> Option.bind (make_New a1) fun v4=> Option.bind (make_Deck_Registry v4) fun (v5,v6)=> Option.bind (make_Deck_Prefix v3) fun (v7,v8)=> joinP (τ:=Bool×Deck) (fun k9=> if (decide ((v2.Objects.length:Int) > 0)) then Option.bind (make_Deck_Next v8 3) fun (v10,v11)=> k9 ((cond true (decide (v10 > 0)) false),v11) else k9 (false,v8)
) fun (v12,v13)=> joinP (τ:=Prefix) (fun k14=> if v12 then Option.bind (make_Deck_Next v13 (v2.Objects.length:Int)) fun (v15,v16)=> Option.bind (geti v2.Objects v15) fun v17=> k14 v17.Prefix else k14 v7
) fun v18=> Option.bind (make_Mod a2 6) fun v19=> Option.bind (irr_Permits v2.Objects v18 (i64w (1 + v19))) fun v20=> Option.bind (apnd (α:=Object) 48 [] v2.Objects) fun _=> Option.bind (apnd (α:=Object) 48 v2.Objects v5.Objects) fun v21=> Option.bind (irr_Permits v21 v18 (i64w (1 + v19))) fun v22=> Option.bind (irr_Own v2 ([(i64w (1 + v19))]:List Int)) fun v23=> Option.bind (irr_Permits v23 v18 (i64w (1 + v19))) fun v24=> joinP (τ:=Bool) (fun k25=> if (v20 != 0) then if (cond true (v20 == v24) false) then Option.bind (irr_Permits [] v18 (i64w (1 + v19))) fun v26=> if (cond true (v26 == 11) false) then Option.bind (law20_awake) fun v27=> k25 (cond true v27 false) else k25 false else k25 false else if (cond false true (v22 == 0)) then if (cond true (v20 == v24) false) then Option.bind (irr_Permits [] v18 (i64w (1 + v19))) fun v28=> if (cond true (v28 == 11) false) then Option.bind (law20_awake) fun v29=> k25 (cond true v29 false) else k25 false else k25 false else k25 false
) fun v30=> some v30
def ref20_SameObjects (a0:List Object) (a1:List Object):Option Bool:= if ((a0.length:Int) != (a1.length:Int)) then some false else joinP (τ:=Unit) (fun k1=> forR (σ:=Unit) (fun _=> k1 ()
) (fun next2 x3 i4 _=> Option.bind (geti a1 (i4:Int)) fun v5=> if (!(Object.eqd v5 x3)) then some false else next2 ()
) a0 0 ()
) fun _=> some true
def ref20_has (a0:List Int) (a1:Int):Option Bool:= joinP (τ:=Unit) (fun k1=> forR (σ:=Unit) (fun _=> k1 ()
) (fun next2 x3 i4 _=> if (x3 == a1) then some true else next2 ()
) a0 0 ()
) fun _=> some false
def ref01_Cmp (a0:Addr) (a1:Addr):Option Int:= if (Addr.eqd a0 a1) then some 0 else if (!(a0.V6 == a1.V6)) then if a1.V6 then some (-1) else some 1 else joinP (τ:=Bool) (fun k1=> if (decide ((a0.Hi.toNat:Int) < (a1.Hi.toNat:Int))) then k1 true else if ((a0.Hi.toNat:Int) == (a1.Hi.toNat:Int)) then k1 (cond false true (cond true (decide ((a0.Lo.toNat:Int) < (a1.Lo.toNat:Int))) false)) else k1 false
) fun v2=> if v2 then some (-1) else some 1
def ref02_Cmp (a0:Prefix) (a1:Prefix):Option Int:= Option.bind (ref01_Cmp a0.Addr a1.Addr) fun v1=> if (v1 != 0) then some v1 else if (decide (a0.Len < a1.Len)) then some (-1) else if (decide (a0.Len > a1.Len)) then some 1 else some 0
def ref20_Cmp (a0:Object) (a1:Object):Option Int:= Option.bind (ref02_Cmp a0.Prefix a1.Prefix) fun v1=> if (v1 != 0) then some v1 else joinP (τ:=Bool) (fun k2=> if (decide (a0.Max < a1.Max)) then k2 true else if (a0.Max == a1.Max) then k2 (cond false true (cond true (decide (a0.ASN < a1.ASN)) false)) else k2 false
) fun v3=> if v3 then some (-1) else if (Object.eqd a0 a1) then some 0 else some 1
def ref20_Sorted (a0:List Object):Option (List Object):= joinP (τ:=(List Object)) (fun k1=> forR (σ:=(List Object)) (fun v2=> k1 v2
) (fun next3 x4 i5 v2=> joinP (τ:=(List Object)) (fun k6=> joinP (τ:=Int) (fun k7=> whileR (σ:=Int) (fun next8 v9=> joinP (τ:=Bool) (fun k10=> if (decide (v9 < (v2.length:Int))) then Option.bind (geti v2 v9) fun v11=> Option.bind (ref20_Cmp v11 x4) fun v12=> k10 (cond true (decide (v12 < 0)) false) else k10 false
) fun v13=> if v13 then next8 (i64w (v9 + 1)) else k7 v9
) fuel 0
) fun v14=> joinP (τ:=Bool) (fun k15=> if (decide (v14 < (v2.length:Int))) then Option.bind (geti v2 v14) fun v16=> k15 (cond true (Object.eqd v16 x4) false) else k15 false
) fun v17=> if v17 then k6 v2 else Option.bind (chk (0 ≤ (0:Int)∧(0:Int) ≤ v14∧v14 ≤ (v2.length:Int))) fun _=> Option.bind (apnd (α:=Object) 48 [] (List.take (Int.toNat v14 - Int.toNat 0) (List.drop (Int.toNat 0) v2))) fun _=> Option.bind (apnd (α:=Object) 48 (List.take (Int.toNat v14 - Int.toNat 0) (List.drop (Int.toNat 0) v2)) ([x4]:List Object)) fun v18=> Option.bind (chk (0 ≤ v14∧v14 ≤ (v2.length:Int)∧(v2.length:Int) ≤ (v2.length:Int))) fun _=> Option.bind (apnd (α:=Object) 48 v18 (List.take (Int.toNat (v2.length:Int) - Int.toNat v14) (List.drop (Int.toNat v14) v2))) fun v19=> k6 v19
) fun v20=> next3 v20
) a0 0 []
) fun v21=> some v21
def ref20_Own (a0:Registry) (a1:List Int):Option (List Object):= joinP (τ:=(List Object)) (fun k1=> forR (σ:=(List Object)) (fun v2=> k1 v2
) (fun next3 x4 i5 v2=> Option.bind (ref20_has a1 x4.ASN) fun v6=> joinP (τ:=(List Object)) (fun k7=> if v6 then Option.bind (apnd (α:=Object) 48 v2 ([x4]:List Object)) fun v8=> k7 v8 else k7 v2
) fun v9=> next3 v9
) a0.Objects 0 []
) fun v10=> Option.bind (ref20_Sorted v10) fun v11=> some v11
def ref20_Permits (a0:List Object) (a1:Prefix) (a2:Int):Option Int:= Option.bind (ref02_Valid a1) fun v1=> if (!v1) then some 1 else joinP (τ:=Int) (fun k2=> forR (σ:=Int) (fun v3=> k2 v3
) (fun next4 x5 i6 v3=> joinP (τ:=Int) (fun k7=> if (x5.ASN != a2) then k7 v3 else Option.bind (ref02_Covers x5.Prefix a1) fun v8=> joinP (τ:=Int) (fun k9=> if (!v8) then joinP (τ:=Int) (fun k10=> if (v3 == 11) then k10 7 else k10 v3
) fun v11=> k9 v11 else if (decide (x5.Max < a1.Len)) then k9 9 else some 0
) fun v12=> k7 v12
) fun v13=> next4 v13
) a0 0 11
) fun v14=> some v14
def ref20_Normal (a0:List Object):Option (List Object):= Option.bind (ref20_Sorted a0) fun v1=> joinP (τ:=(List Object)) (fun k2=> forR (σ:=(List Object)) (fun v3=> k2 v3
) (fun next4 x5 i6 v3=> joinP (τ:=(List Object)) (fun k7=> joinP (τ:=Bool) (fun k8=> forR (σ:=Bool) (fun v9=> k8 v9
) (fun next10 x11 i12 v9=> joinP (τ:=Bool) (fun k13=> if v9 then k13 true else if (!(Object.eqd x11 x5)) then if (cond true (x11.ASN == x5.ASN) false) then Option.bind (ref02_Covers x11.Prefix x5.Prefix) fun v14=> if (cond true v14 false) then k13 (cond false true (cond true (decide (x11.Max ≥ x5.Max)) false)) else k13 false else k13 false else k13 false
) fun v15=> next10 v15
) v1 0 false
) fun v16=> joinP (τ:=(List Object)) (fun k17=> if (!v16) then Option.bind (apnd (α:=Object) 48 v3 ([x5]:List Object)) fun v18=> k17 v18 else k17 v3
) fun v19=> k7 v19
) fun v20=> next4 v20
) v1 0 []
) fun v21=> some v21
def law20_IrrObjects (a0:List Int) (a1:List Int) (a2:Prefix) (a3:Int):Option Bool:= if (decide ((a1.length:Int) > 40)) then Option.bind (law20_awake) fun v1=> some v1 else Option.bind (make_New a0) fun v2=> Option.bind (make_Deck_Registry v2) fun (v3,v4)=> Option.bind (make_Deck_Prefix v4) fun (v5,v6)=> joinP (τ:=Bool×Deck) (fun k7=> if (decide ((v3.Objects.length:Int) > 0)) then Option.bind (make_Deck_Next v6 3) fun (v8,v9)=> k7 ((cond true (decide (v8 > 0)) false),v9) else k7 (false,v6)
) fun (v10,v11)=> joinP (τ:=Prefix) (fun k12=> if v10 then Option.bind (make_Deck_Next v11 (v3.Objects.length:Int)) fun (v13,v14)=> Option.bind (geti v3.Objects v13) fun v15=> Option.bind (make_Deck_Next v14 3) fun (v16,v17)=> Option.bind (ref02_Make v15.Prefix.Addr (if (32:Int) < (i64w ((i64w (v15.Max + v16)) - 1)) then 32 else (i64w ((i64w (v15.Max + v16)) - 1)))) fun (v18,v19)=> k12 v18 else k12 v5
) fun v20=> Option.bind (chk (0 ≤ (a1.length:Int)∧(a1.length:Int) ≤ (a1.length:Int)∧(a1.length:Int) ≤ 1048576)) fun _=> joinP (τ:=(List Int)) (fun k21=> forR (σ:=(List Int)) (fun v22=> k21 v22
) (fun next23 x24 i25 v22=> Option.bind (make_Mod x24 7) fun v26=> Option.bind (geti v22 (i25:Int)) fun v27=> Option.bind (seti v22 (i25:Int) v26) fun v28=> next23 v28
) a1 0 (List.replicate (Int.toNat (a1.length:Int)) 0)
) fun v29=> joinP (τ:=Unit) (fun k30=> forR (σ:=Unit) (fun _=> k30 ()
) (fun next31 x32 i33 _=> Option.bind (irr_Own v3 x32) fun v34=> Option.bind (ref20_Own v3 x32) fun v35=> Option.bind (ref20_SameObjects v34 v35) fun v36=> if (!v36) then some false else next31 ()
) ([a1,v29]:List (List Int)) 0 ()
) fun _=> joinP (τ:=Unit) (fun k37=> forR (σ:=Unit) (fun _=> k37 ()
) (fun next38 x39 i40 _=> joinP (τ:=Unit) (fun k41=> Option.bind (make_Mod a3 7) fun v42=> joinP (τ:=Unit) (fun k43=> forR (σ:=Unit) (fun _=> k43 ()
) (fun next44 x45 i46 _=> Option.bind (irr_Permits v3.Objects x39 x45) fun v47=> Option.bind (ref20_Permits v3.Objects x39 x45) fun v48=> if (v47 != v48) then some false else next44 ()
) ([a3,v42]:List Int) 0 ()
) fun _=> k41 ()
) fun _=> next38 ()
) ([a2,v20]:List Prefix) 0 ()
) fun _=> joinP (τ:=Bool) (fun k49=> Option.bind (irr_Normal v3.Objects) fun v50=> Option.bind (ref20_Normal v3.Objects) fun v51=> Option.bind (ref20_SameObjects v50 v51) fun v52=> if v52 then Option.bind (law20_awake) fun v53=> k49 (cond true v53 false) else k49 false
) fun v54=> some v54
def irr_Permitted (a0:Registry) (a1:Int) (a2:ByteArray) (a3:Prefix) (a4:Int):Option Int:= Option.bind (irr_Valid a0) fun v1=> if (!v1) then some 1 else joinP (τ:=(List Int)) (fun k2=> if (!(a2.toList == (ByteArray.mk (List.toArray List.nil)).toList)) then Option.bind (irr_Expand a0 a2) fun (v3,v4,v5)=> if (v5 != 0) then some v5 else Option.bind (apnd (α:=Int) 8 ([a1]:List Int) v3) fun v6=> k2 v6 else k2 ([a1]:List Int)
) fun v7=> Option.bind (slices_Contains_int_int v7 a4) fun v8=> if (!v8) then some 17 else Option.bind (irr_Own a0 v7) fun v9=> Option.bind (irr_Permits v9 a3 a4) fun v10=> some v10
def ref20_Permitted (a0:Registry) (a1:Int) (a2:ByteArray) (a3:Prefix) (a4:Int):Option Int:= Option.bind (ref20_Valid a0) fun v1=> if (!v1) then some 1 else joinP (τ:=(List Int)) (fun k2=> if (!(a2.toList == (ByteArray.mk (List.toArray List.nil)).toList)) then Option.bind (ref20_Expand a0 a2) fun (v3,v4,v5)=> if (v5 != 0) then some v5 else Option.bind (apnd (α:=Int) 8 ([a1]:List Int) v3) fun v6=> k2 v6 else k2 ([a1]:List Int)
) fun v7=> Option.bind (ref20_has v7 a4) fun v8=> if (!v8) then some 17 else Option.bind (ref20_Own a0 v7) fun v9=> Option.bind (ref20_Permits v9 a3 a4) fun v10=> some v10
def law20_IrrPermitted (a0:Registry) (a1:List Int) (a2:Int) (a3:Int) (a4:Int) (a5:Int):Option Bool:= Option.bind (law20_light a0) fun v1=> if (!v1) then Option.bind (law20_awake) fun v2=> some v2 else Option.bind (make_New a1) fun v3=> Option.bind (make_Deck_Registry v3) fun (v4,v5)=> Option.bind (make_Deck_Prefix v5) fun (v6,v7)=> joinP (τ:=Bool×Deck) (fun k8=> if (decide ((v4.Objects.length:Int) > 0)) then Option.bind (make_Deck_Next v7 3) fun (v9,v10)=> k8 ((cond true (decide (v9 > 0)) false),v10) else k8 (false,v7)
) fun (v11,v12)=> joinP (τ:=Prefix) (fun k13=> if v11 then Option.bind (make_Deck_Next v12 (v4.Objects.length:Int)) fun (v14,v15)=> Option.bind (geti v4.Objects v14) fun v16=> k13 v16.Prefix else k13 v6
) fun v17=> Option.bind (law20_bent v4 a4 a5) fun v18=> joinP (τ:=Unit) (fun k19=> forR (σ:=Unit) (fun _=> k19 ()
) (fun next20 x21 i22 _=> joinP (τ:=Unit) (fun k23=> joinP (τ:=Unit) (fun k24=> forR (σ:=Unit) (fun _=> k24 ()
) (fun next25 x26 i27 _=> joinP (τ:=Unit) (fun k28=> Option.bind (make_Mod a2 7) fun v29=> Option.bind (make_Mod a3 7) fun v30=> joinP (τ:=Unit) (fun k31=> forR (σ:=Unit) (fun _=> k31 ()
) (fun next32 x33 i34 _=> Option.bind (irr_Permitted x21 x33.e0 x26 v17 x33.e1) fun v35=> Option.bind (ref20_Permitted x21 x33.e0 x26 v17 x33.e1) fun v36=> if (v35 != v36) then some false else next32 ()
) ([(⟨a2,a3⟩:A2_Int),(⟨v29,v30⟩:A2_Int)]:List A2_Int) 0 ()
) fun _=> k28 ()
) fun _=> next25 ()
) ([(ByteArray.mk (List.toArray List.nil)),(ByteArray.mk (List.toArray (List.cons 65 (List.cons 83 (List.cons 45 (List.cons 65 List.nil)))))),(ByteArray.mk (List.toArray (List.cons 65 (List.cons 83 (List.cons 45 (List.cons 66 List.nil)))))),(ByteArray.mk (List.toArray (List.cons 65 (List.cons 83 (List.cons 45 (List.cons 90 List.nil))))))]:List ByteArray) 0 ()
) fun _=> k23 ()
) fun _=> next20 ()
) ([a0,v4,v18]:List Registry) 0 ()
) fun _=> Option.bind (law20_awake) fun v37=> some v37
end Go.AX.Q20
end
section
namespace Go.AX.Q20
open Go Go.AX
set_option maxRecDepth 8000
instance (a0:Addr):Tt (ref01_Valid a0):=by unfold ref01_Valid;exact Tt.auto
instance (a0:Addr):Tt (ref02_width a0):=by unfold ref02_width;exact Tt.auto
instance (a0:List UInt8):Tt (ref01_FromBytes a0):=by unfold ref01_FromBytes;exact Tt.auto
theorem andnot_low {a k:Nat} (ha:a < 2 ^ 64) (hk:k ≤ 64):(BitVec.ofInt 64 (a:Int) &&& ~~~BitVec.ofInt 64 ((2 ^ k - 1:Nat):Int)).toNat=a / 2 ^ k * 2 ^ k:=by
 apply Nat.eq_of_testBit_eq
 intro i
 rw [BitVec.ofInt_natCast,BitVec.ofInt_natCast,BitVec.testBit_toNat]
 simp only [BitVec.getLsbD_and,BitVec.getLsbD_not,BitVec.getLsbD_ofNat,Nat.testBit_mul_two_pow,Nat.testBit_div_two_pow,Nat.testBit_two_pow_sub_one]
 by_cases hi:i < 64
 ·by_cases hki:k ≤ i
  ·simp [hi,hki,Nat.not_lt.2 hki]
  ·simp [hi,hki,Nat.lt_of_not_le hki]
 ·have:a.testBit i=false:=Nat.testBit_lt_two_pow (Nat.lt_of_lt_of_le ha (Nat.pow_le_pow_right (by omega) (by omega)))
  by_cases hki:k ≤ i
  ·simp [hi,hki,this]
  ·omega
theorem toU64_nat (n:Nat):toU64 (n:Int)=UInt64.ofNat n:=by
 unfold toU64
 apply UInt64.toNat_inj.1
 simp only [UInt64.toNat_ofNat']
 omega
theorem ofNat_eq {x:UInt64} {n:Nat} (h:n=x.toNat):UInt64.ofNat n=x:=by
 subst h;exact UInt64.ofNat_toNat
def Addr.n (a:Addr):Nat:=a.Hi.toNat * 2 ^ 64 + a.Lo.toNat
def Addr.w (a:Addr):Nat:=if a.V6 then 128 else 32
def Addr.ok (a:Addr):Bool:=cond a.V6 true (cond ((a.Hi.toNat:Int) == 0) (decide ((a.Lo.toNat:Int) < 4294967296)) false)
def mkA (v6:Bool) (n:Nat):Addr:=⟨v6,UInt64.ofNat (n / 2 ^ 64),UInt64.ofNat n⟩
def Addr.cut (a:Addr) (n:Nat):Addr:=mkA a.V6 (a.n / 2 ^ (a.w - n) * 2 ^ (a.w - n))
theorem mkA_v6 (b:Bool) (m:Nat):(mkA b m).V6=b:=by unfold mkA;rfl
theorem cut_v6 (a:Addr) (n:Nat):(a.cut n).V6=a.V6:=mkA_v6 _ _
theorem n_hi (h l k:Nat) (hl:l < 2 ^ 64) (hk:k ≤ 64):(h * 2 ^ 64 + l) / 2 ^ k * 2 ^ k=h * 2 ^ 64 + l / 2 ^ k * 2 ^ k:=by
 have:(2:Nat) ^ 64=2 ^ (64 - k) * 2 ^ k:=by rw [← Nat.pow_add];congr 1;omega
 rw [this,← Nat.mul_assoc,Nat.add_comm,Nat.add_mul_div_right _ _ (Nat.two_pow_pos k),Nat.add_mul,Nat.add_comm]
theorem mask_a:toU64 (((0:Nat):Int) - 1)=UInt64.ofNat 18446744073709551615:=by
   unfold toU64
   congr 1
theorem mask_b {k:Nat} (hk:k < 64):toU64 (((UInt64.ofNat (2 ^ k)).toNat:Int) - 1)=UInt64.ofNat (2 ^ k - 1):=by
  have h3:(2:Nat) ^ k < 2 ^ 64:=Nat.pow_lt_pow_right (by omega) (by omega)
  have h4:0 < (2:Nat) ^ k:=Nat.two_pow_pos k
  have h5:(UInt64.ofNat (2 ^ k)).toNat=2 ^ k:=by simp only [UInt64.toNat_ofNat'];omega
  rw [h5]
  have h6:((2 ^ k:Nat):Int) - 1=((2 ^ k - 1:Nat):Int):=by omega
  rw [h6,toU64_nat]
theorem mask_c:toU64 (((UInt64.ofNat (2 ^ 64)).toNat:Int) - 1)=UInt64.ofNat (2 ^ 64 - 1):=by
  have h5:(UInt64.ofNat (2 ^ 64)).toNat=0:=by simp only [UInt64.toNat_ofNat',Nat.mod_self]
  rw [h5]
  exact mask_a
theorem mask_d {k:Nat} (hk:k ≤ 64):toU64 (1 * (2 ^ (min (Int.toNat ((toU64 (k:Int)).toNat:Int)) 64)))=UInt64.ofNat (2 ^ k):=by
 rw [toU64_nat]
 have h1:(UInt64.ofNat k).toNat=k:=by simp;omega
 rw [h1,Int.toNat_natCast,Nat.min_eq_left hk,Int.one_mul]
 have h2:((2:Int) ^ k)=((2 ^ k:Nat):Int):=by simp
 rw [h2,toU64_nat]
theorem mask_low {k:Nat} (hk:k ≤ 64):toU64 (((toU64 (1 * (2 ^ (min (Int.toNat ((toU64 (k:Int)).toNat:Int)) 64)))).toNat:Int) - 1)=UInt64.ofNat (2 ^ k - 1):=by
 rw [mask_d hk]
 rcases Nat.lt_or_eq_of_le hk with h | h
 ·exact mask_b h
 ·rw [h];exact mask_c
theorem andnot_u {x:UInt64} {k:Nat} (hk:k ≤ 64):toU64 ((BitVec.ofInt 64 (x.toNat:Int) &&& ~~~BitVec.ofInt 64 ((UInt64.ofNat (2 ^ k - 1)).toNat:Int)).toNat:Int)=UInt64.ofNat (x.toNat / 2 ^ k * 2 ^ k):=by
 have h:(UInt64.ofNat (2 ^ k - 1)).toNat=2 ^ k - 1:=by
  have:(2:Nat) ^ k ≤ 2 ^ 64:=Nat.pow_le_pow_right (by omega) hk
  have h4:0 < (2:Nat) ^ k:=Nat.two_pow_pos k
  simp only [UInt64.toNat_ofNat'];omega
 rw [h,andnot_low x.toNat_lt hk,toU64_nat]
theorem prefix_first_eq (a:Addr) {n:Nat} (hn:n ≤ a.w):prefix_first a (n:Int)=some (a.cut n):=by
 have hw:prefix_width a=some (a.w:Int):=by unfold prefix_width Addr.w;split<;>rfl
 have hwn:i64w ((a.w:Int) - (n:Int))=((a.w - n:Nat):Int):=by
  have:a.w ≤ 128:=by unfold Addr.w;split<;>omega
  rw [i64w_id (by omega)];omega
 have hlo:=a.Lo.toNat_lt
 have hhi:=a.Hi.toNat_lt
 unfold prefix_first
 rw [hw,some_bind',hwn]
 have hk128:a.w - n ≤ 128:=by unfold Addr.w;split<;>omega
 generalize hk:a.w - n=k at *
 unfold prefix_masks
 by_cases h64:k > 64
 ·rw [if_pos (by simp;omega),some_bind']
  have e:i64w ((k:Int) - 64)=((k - 64:Nat):Int):=by rw [i64w_id (by omega)];omega
  rw [e,mask_low (by omega)]
  simp only [andnot_u (show k - 64 ≤ 64 by omega)]
  have h1:(18446744073709551615:UInt64)=UInt64.ofNat (2 ^ 64 - 1):=rfl
  rw [h1,andnot_u (Nat.le_refl 64)]
  have h0:a.Lo.toNat / 2 ^ 64=0:=Nat.div_eq_of_lt hlo
  unfold Addr.cut mkA Addr.n
  rw [hk]
  have hsplit:(2:Nat) ^ k=2 ^ 64 * 2 ^ (k - 64):=by rw [← Nat.pow_add];congr 1;omega
  have hd:(a.Hi.toNat * 2 ^ 64 + a.Lo.toNat) / 2 ^ k=a.Hi.toNat / 2 ^ (k - 64):=by
   rw [hsplit,← Nat.div_div_eq_div_mul,Nat.add_comm,Nat.add_mul_div_right _ _ (Nat.two_pow_pos 64),h0,Nat.zero_add]
  rw [hd]
  have he:a.Hi.toNat / 2 ^ (k - 64) * 2 ^ k=a.Hi.toNat / 2 ^ (k - 64) * 2 ^ (k - 64) * 2 ^ 64:=by
   rw [hsplit,Nat.mul_comm (2 ^ 64),Nat.mul_assoc]
  rw [he,Nat.mul_div_cancel _ (Nat.two_pow_pos 64),h0]
  have e0:UInt64.ofNat (a.Hi.toNat / 2 ^ (k - 64) * 2 ^ (k - 64) * 2 ^ 64)=UInt64.ofNat 0:=by
   apply UInt64.toNat_inj.1
   simp only [UInt64.toNat_ofNat',Nat.mul_mod_left,Nat.zero_mod]
  rw [e0,Nat.zero_mul]
 ·rw [if_neg (by simp;omega),some_bind',mask_low (by omega)]
  simp only [andnot_u (show k ≤ 64 by omega)]
  have h1:(0:UInt64)=UInt64.ofNat (2 ^ 0 - 1):=rfl
  rw [h1,andnot_u (Nat.zero_le 64)]
  unfold Addr.cut mkA Addr.n
  rw [hk,n_hi _ _ _ hlo (by omega)]
  have hlt:a.Lo.toNat / 2 ^ k * 2 ^ k < 2 ^ 64:=Nat.lt_of_le_of_lt (Nat.div_mul_le_self _ _) hlo
  have e1:UInt64.ofNat (a.Hi.toNat / 2 ^ 0 * 2 ^ 0)=UInt64.ofNat ((a.Hi.toNat * 2 ^ 64 + a.Lo.toNat / 2 ^ k * 2 ^ k) / 2 ^ 64):=by
   congr 1
   omega
  have e2:UInt64.ofNat (a.Lo.toNat / 2 ^ k * 2 ^ k)=UInt64.ofNat (a.Hi.toNat * 2 ^ 64 + a.Lo.toNat / 2 ^ k * 2 ^ k):=by
   apply UInt64.toNat_inj.1
   simp only [UInt64.toNat_ofNat']
   omega
  rw [e1,e2]
theorem toU8_nat (n:Nat):toU8 (n:Int)=UInt8.ofNat n:=by
 unfold toU8
 apply UInt8.toNat_inj.1
 simp only [UInt8.toNat_ofNat']
 omega
def Addr.L (a:Addr):Nat:=if a.V6 then 16 else 4
def byteN (a:Addr) (k:Nat):UInt8:=UInt8.ofNat (a.n / 2 ^ (8 * k))
theorem ref01_Valid_eq (a:Addr):ref01_Valid a=some a.ok:=by
 unfold ref01_Valid Addr.ok
 rw [joinP_def]
 generalize ((a.Hi.toNat:Int) == 0)=x
 generalize decide ((a.Lo.toNat:Int) < 4294967296)=y
 generalize a.V6=z
 cases z<;>cases x<;>rfl
theorem shift_byte {w:UInt64} {k:Nat} (hk:k < 8) :
  toU8 ((toU64 (Int.fdiv (w.toNat:Int) (2 ^ (min (Int.toNat ((toU64 (8 * ((toU64 (k:Int)).toNat:Int))).toNat:Int)) 64)))).toNat:Int)=UInt8.ofNat (w.toNat / 2 ^ (8 * k)):=by
 have h1:(toU64 (k:Int)).toNat=k:=by rw [toU64_nat];simp;omega
 have h2:(toU64 (8 * ((toU64 (k:Int)).toNat:Int))).toNat=8 * k:=by
  rw [h1]
  have:(8 * (k:Int))=((8 * k:Nat):Int):=by omega
  rw [this,toU64_nat];simp;omega
 have h3:Int.fdiv (w.toNat:Int) ((2:Int) ^ (8 * k))=((w.toNat / 2 ^ (8 * k):Nat):Int):=by
  have:((2:Int) ^ (8 * k))=((2 ^ (8 * k):Nat):Int):=by simp
  rw [this,Int.fdiv_eq_ediv_of_nonneg _ (Int.natCast_nonneg _),Int.natCast_ediv]
 rw [h2,Int.toNat_natCast,Nat.min_eq_left (by omega),h3,toU64_nat,toU8_nat]
 have:(UInt64.ofNat (w.toNat / 2 ^ (8 * k))).toNat=w.toNat / 2 ^ (8 * k):=by
  have hd:w.toNat / 2 ^ (8 * k) < 2 ^ 64:=Nat.lt_of_le_of_lt (Nat.div_le_self _ _) w.toNat_lt
  rw [UInt64.toNat_ofNat',Nat.mod_eq_of_lt hd]
 rw [this]
theorem u8_ofNat_mod {a b:Nat} (h:a % 256=b % 256):UInt8.ofNat a=UInt8.ofNat b:=by
 apply UInt8.toNat_inj.1
 simp only [UInt8.toNat_ofNat']
 exact h
theorem byte_of_word {a:Addr} {k:Nat} (hk:k < 16) (hv:a.ok=true) (h4:a.V6=false→k < 4) :
  UInt8.ofNat ((if k ≥ 8 then a.Hi else a.Lo).toNat / 2 ^ (8 * (k % 8)))=byteN a k:=by
 unfold byteN Addr.n
 have hlo:=a.Lo.toNat_lt
 by_cases h8:k ≥ 8
 ·rw [if_pos h8]
  have e:8 * k=64 + 8 * (k % 8):=by omega
  rw [e,Nat.pow_add,← Nat.div_div_eq_div_mul,Nat.add_comm (a.Hi.toNat * 2 ^ 64),Nat.add_mul_div_right _ _ (Nat.two_pow_pos 64),Nat.div_eq_of_lt hlo,Nat.zero_add]
 ·rw [if_neg h8]
  have e:k % 8=k:=Nat.mod_eq_of_lt (by omega)
  rw [e]
  apply u8_ofNat_mod
  have e2:(2:Nat) ^ 64=2 ^ (8 * k) * 2 ^ (64 - 8 * k):=by rw [← Nat.pow_add];congr 1;omega
  have e3:(2:Nat) ^ (64 - 8 * k)=256 * 2 ^ (56 - 8 * k):=by
   have:(256:Nat)=2 ^ 8:=rfl
   rw [this,← Nat.pow_add];congr 1;omega
  have e4:a.Hi.toNat * 2 ^ 64=a.Hi.toNat * 2 ^ (56 - 8 * k) * 256 * 2 ^ (8 * k):=by
   rw [e2,e3,Nat.mul_assoc,Nat.mul_assoc]
   congr 1
   rw [Nat.mul_comm (2 ^ (56 - 8 * k)),Nat.mul_comm (2 ^ (8 * k))]
   rw [Nat.mul_assoc,Nat.mul_comm (2 ^ (56 - 8 * k)),Nat.mul_assoc]
  rw [e4,Nat.add_comm,Nat.add_mul_div_right _ _ (Nat.two_pow_pos _),Nat.add_mul_mod_self_right]
theorem ref01_Bytes_tt {a:Addr} (hv:a.ok=true):Ok (ref01_Bytes a) fun l=>l.length=a.L∧∀j,j < a.L→l[j]?=some (byteN a (a.L - 1 - j)):=by
 unfold ref01_Bytes
 rw [ref01_Valid_eq,some_bind',hv]
 refine .ite (fun h=>by simp at h) fun _=>?_
 refine .join (fun n:Int=>n=a.L) (fun k hk=>.ite (fun h=>hk _ (by unfold Addr.L;rw [if_pos h];rfl)) fun h=>hk _ (by unfold Addr.L;rw [if_neg h];rfl)) fun n hn=>?_
 have hL:a.L=16 ∨ a.L=4:=by unfold Addr.L;split<;>simp
 subst hn
 refine .join (fun l:List UInt8=>l.length=a.L∧∀j,j < a.L→l[j]?=some (byteN a (a.L - 1 - j))) (fun k hk=>?_) fun l hl=>.ret hl
 refine .whileI (fun s:Int×List UInt8=>-1 ≤ s.1∧s.1=a.L - 1 - s.2.length∧∀j,j < s.2.length→s.2[j]?=some (byteN a (a.L - 1 - j))) (fun s=>(s.1 + 1).toNat) ?_ ?_ ?_
 ·rw [i64w_id (by omega)];simp;omega
 ·rw [i64w_id (by omega)];exact lt_fuel (by omega)
 ·rintro next ⟨p,l⟩ ⟨h1,h2,h3⟩ hn
  simp only at h1 h2 h3
  refine .ite (fun h=>?_) fun h=>hk _ ⟨by simp at h;omega,fun j hj=>h3 j (by simp at h;omega)⟩
  simp only [decide_eq_true_eq] at h
  obtain ⟨k,rfl⟩ :∃k:Nat,p=k:=⟨p.toNat,by omega⟩
  refine .join (fun w:UInt64=>w=if k ≥ 8 then a.Hi else a.Lo) (fun k' hk'=>.ite (fun h=>hk' _ (by rw [if_pos (by simp at h;omega)]) ) fun h=>hk' _ (by rw [if_neg (by simp at h;omega)])) fun w hw=>?_
  refine .bind (Ok.apnd (by decide) (by simp;omega)) fun l' hl'=>?_
  have hb:k < 16:=by omega
  have ht:Int.tmod (k:Int) 8=((k % 8:Nat):Int):=by rw [Int.tmod_eq_emod_of_nonneg (by omega)];omega
  rw [ht,shift_byte (Nat.mod_lt _ (by omega)),hw,byte_of_word hb hv (fun h4=>by unfold Addr.L at h2;simp [h4] at h2;omega)] at hl'
  subst hl'
  rw [i64w_id (by omega)]
  refine hn _ ⟨by simp only;omega,by simp;omega,fun j hj=>?_⟩ (by simp only;omega)
  simp only [List.length_append,List.length_singleton] at hj
  by_cases hj':j < l.length
  ·simp only
   rw [List.getElem?_append_left hj'];exact h3 j hj'
  ·have:j=l.length:=by omega
   subst this
   simp only [List.getElem?_append_right (Nat.le_refl _),Nat.sub_self,List.getElem?_cons_zero]
   congr 2
   omega
def val (l:List UInt8):Nat:=l.foldl (fun m x=>m * 256 + x.toNat) 0
theorem val_snoc (l:List UInt8) (x:UInt8):val (l ++ [x])=val l * 256 + x.toNat:=by simp [val]
theorem or_step {u v:Nat} (hu:u < 2 ^ 64) (hv:v < 256):toU64 ((BitVec.ofInt 64 ((toU64 ((u:Int) * (2 ^ (min (Int.toNat 8) 64)))).toNat:Int) ||| BitVec.ofInt 64 ((toU64 (v:Int)).toNat:Int)).toNat:Int)=UInt64.ofNat (u * 256 + v):=by
 have h1:((u:Int) * (2 ^ (min (Int.toNat 8) 64)))=((u * 256:Nat):Int):=by
  have:min (Int.toNat 8) 64=8:=rfl
  rw [this];omega
 rw [h1,toU64_nat,toU64_nat,toU64_nat]
 have h2:(UInt64.ofNat v).toNat=v:=by simp only [UInt64.toNat_ofNat'];omega
 have h3:(UInt64.ofNat (u * 256)).toNat=2 ^ 8 * (u % 2 ^ 56):=by simp only [UInt64.toNat_ofNat'];omega
 rw [h2,h3,BitVec.ofInt_natCast,BitVec.ofInt_natCast,BitVec.toNat_or,BitVec.toNat_ofNat,BitVec.toNat_ofNat,Nat.mod_eq_of_lt (show 2 ^ 8 * (u % 2 ^ 56) < 2 ^ 64 by omega),Nat.mod_eq_of_lt (show v < 2 ^ 64 by omega),
  ← Nat.two_pow_add_eq_or_of_lt (show v < 2 ^ 8 by omega)]
 apply UInt64.toNat_inj.1
 simp only [UInt64.toNat_ofNat']
 omega
theorem ref01_FromBytes_tt {l:List UInt8} (hl:l.length=4 ∨ l.length=16):Ok (ref01_FromBytes l) fun r=>r=(mkA (l.length == 16) (val l % 2 ^ 128),0):=by
 unfold ref01_FromBytes
 refine .join (fun b=>b=false) (fun k hk=>.ite (fun h=>hk _ ?_) fun _=>hk _ rfl) fun b hb=>?_
 ·rcases hl with h' | h'<;>simp [h'] at h ⊢
 subst hb
 refine .ite (fun h=>by simp at h) fun _=>?_
 refine .join (fun a=>a=mkA (l.length == 16) (val l % 2 ^ 128)) (fun k hk=>?_) fun a ha=>.ret (by rw [ha])
 refine .forX (fun i s=>s=mkA (l.length == 16) (val (l.take i) % 2 ^ 128)) ?_ (fun s hs=>hk _ (by rw [hs,List.take_length])) ?_
 ·have:((l.length:Int) == 16)=(l.length == 16):=by rw [Bool.eq_iff_iff];simp only [beq_iff_eq];omega
  rw [this,List.take_zero]
  have e0:val [] % 2 ^ 128=0:=by simp [val]
  rw [e0]
  unfold mkA
  rfl
 ·rintro next x i s hx rfl hn
  refine hn _ ?_
  have hlt:=(List.getElem?_eq_some_iff.1 hx).1
  have ht:l.take (i + 1)=l.take i ++ [x]:=by rw [List.take_add_one,hx];rfl
  rw [ht,val_snoc]
  generalize val (l.take i)=m
  have hx8:=x.toNat_lt
  have hlo:(mkA (l.length == 16) (m % 2 ^ 128)).Lo.toNat=m % 2 ^ 64:=by unfold mkA;simp only [UInt64.toNat_ofNat'];omega
  have hhi:(mkA (l.length == 16) (m % 2 ^ 128)).Hi.toNat=m / 2 ^ 64 % 2 ^ 64:=by unfold mkA;simp only [UInt64.toNat_ofNat'];omega
  have h1:=or_step (u:=m % 2 ^ 64) (v:=x.toNat) (by omega) hx8
  have h2:=or_step (u:=m / 2 ^ 64 % 2 ^ 64) (v:=m % 2 ^ 64 / 2 ^ 56) (by omega) (by omega)
  have h3:Int.fdiv ((m % 2 ^ 64:Nat):Int) (2 ^ (min (Int.toNat 56) 64))=((m % 2 ^ 64 / 2 ^ 56:Nat):Int):=by
   have:min (Int.toNat 56) 64=56:=rfl
   have e5:((2:Int) ^ 56)=((2 ^ 56:Nat):Int):=by simp
   rw [this,e5,Int.fdiv_eq_ediv_of_nonneg _ (Int.natCast_nonneg _),Int.natCast_ediv]
  rw [hlo,hhi,h3,h1,h2,mkA_v6]
  unfold mkA
  have e1:UInt64.ofNat (m / 2 ^ 64 % 2 ^ 64 * 256 + m % 2 ^ 64 / 2 ^ 56)=UInt64.ofNat ((m * 256 + x.toNat) % 2 ^ 128 / 2 ^ 64):=by
   apply UInt64.toNat_inj.1;simp only [UInt64.toNat_ofNat'];omega
  have e2:UInt64.ofNat (m % 2 ^ 64 * 256 + x.toNat)=UInt64.ofNat ((m * 256 + x.toNat) % 2 ^ 128):=by
   apply UInt64.toNat_inj.1;simp only [UInt64.toNat_ofNat'];omega
  rw [e1,e2]
theorem val_testBit :∀(l:List UInt8) (q:Nat),(val l).testBit q=if q < 8 * l.length then (l.getD (l.length - 1 - q / 8) 0).toNat.testBit (q % 8) else false:=by
 intro l
 induction h:l.length generalizing l with
 | zero=>intro q;have:l=[]:=List.eq_nil_of_length_eq_zero h;subst this;simp [val]
 | succ n ih=>
  intro q
  obtain ⟨l',x,rfl⟩ :∃l' x,l=l' ++ [x]:=by
   rcases List.eq_nil_or_concat l with h' | ⟨l',x,h'⟩
   ·subst h';simp at h
   ·exact ⟨l',x,by simpa using h'⟩
  have hl':l'.length=n:=by simpa using h
  rw [val_snoc,Nat.mul_comm,show (256:Nat)=2 ^ 8 from rfl,Nat.testBit_two_pow_mul_add _ (show x.toNat < 2 ^ 8 from x.toNat_lt)]
  by_cases hq:q < 8
  ·rw [if_pos hq,if_pos (by omega)]
   have e1:n + 1 - 1 - q / 8=l'.length:=by omega
   rw [e1,Nat.mod_eq_of_lt hq]
   simp [List.getD_eq_getElem?_getD]
  ·rw [if_neg hq,ih l' hl']
   by_cases h2:q - 8 < 8 * n
   ·rw [if_pos h2,if_pos (by omega)]
    have e1:n - 1 - (q - 8) / 8=n + 1 - 1 - q / 8:=by omega
    have e2:(q - 8) % 8=q % 8:=by omega
    rw [e1,e2,List.getD_eq_getElem?_getD,List.getD_eq_getElem?_getD,List.getElem?_append_left (by omega)]
   ·rw [if_neg h2,if_neg (by omega)]
theorem clear_bit {x:UInt8} {r:Nat} (hr:r < 8) {s:Nat} (hs:s < 8) :
  (toU8 ((BitVec.ofInt 8 (x.toNat:Int) &&& ~~~BitVec.ofInt 8 ((toU8 (Int.fdiv 128 (2 ^ (min (Int.toNat ((toU64 (r:Int)).toNat:Int)) 8)))).toNat:Int)).toNat:Int)).toNat.testBit s=(x.toNat.testBit s && !decide (7 - r=s)):=by
 have h1:(toU64 (r:Int)).toNat=r:=by rw [toU64_nat];simp;omega
 have h2:Int.fdiv 128 ((2:Int) ^ r)=((2 ^ (7 - r):Nat):Int):=by
  have e1:((2:Int) ^ r)=((2 ^ r:Nat):Int):=by simp
  have e2:(128:Int)=((128:Nat):Int):=rfl
  rw [e1,e2,Int.fdiv_eq_ediv_of_nonneg _ (Int.natCast_nonneg _),← Int.natCast_ediv]
  congr 1
  have e3:(128:Nat)=2 ^ (7 - r) * 2 ^ r:=by rw [← Nat.pow_add,show 7 - r + r=7 by omega]
  rw [e3,Nat.mul_div_cancel _ (Nat.two_pow_pos r)]
 rw [h1,Int.toNat_natCast,Nat.min_eq_left (by omega),h2,toU8_nat,toU8_nat,BitVec.ofInt_natCast,BitVec.ofInt_natCast]
 have hp:2 ^ (7 - r) < 256:=Nat.lt_of_le_of_lt (Nat.pow_le_pow_right (by omega) (show 7 - r ≤ 7 by omega)) (by decide)
 have h3:(UInt8.ofNat (2 ^ (7 - r))).toNat=2 ^ (7 - r):=by simp only [UInt8.toNat_ofNat'];exact Nat.mod_eq_of_lt hp
 rw [h3,UInt8.toNat_ofNat',Nat.testBit_mod_two_pow,BitVec.testBit_toNat]
 simp only [BitVec.getLsbD_and,BitVec.getLsbD_not,BitVec.getLsbD_ofNat,hs,decide_true,Bool.true_and,Nat.testBit_two_pow]
theorem Addr.cut_bit (a:Addr) {n q:Nat} (hn:n ≤ a.w):(a.n / 2 ^ (a.w - n) * 2 ^ (a.w - n)).testBit q=(a.n.testBit q && decide (a.w - n ≤ q)):=by
 rw [Nat.testBit_mul_two_pow,Nat.testBit_div_two_pow]
 by_cases h:a.w - n ≤ q
 ·simp [h]
 ·simp [h]
theorem cond_and {b c:Bool} (h:cond b c false=true):b=true∧c=true:=by cases b<;>simp at h ⊢;exact h
theorem Addr.ok4 {a:Addr} (hv:a.ok=true) (h6:a.V6=false):a.Hi.toNat=0∧a.Lo.toNat < 2 ^ 32:=by
 unfold Addr.ok at hv
 rw [h6] at hv
 obtain ⟨h1,h2⟩:=cond_and hv
 have h2:=of_decide_eq_true h2
 have h1:=eq_of_beq h1
 omega
theorem Addr.n_lt {a:Addr} (hv:a.ok=true):a.n < 2 ^ a.w:=by
 have h1:=a.Lo.toNat_lt
 have h2:=a.Hi.toNat_lt
 cases hv6:a.V6
 ·obtain ⟨g1,g2⟩:=Addr.ok4 hv hv6
  have hw:a.w=32:=by unfold Addr.w;rw [hv6];rfl
  have hn:a.n=a.Lo.toNat:=by unfold Addr.n;rw [g1,Nat.zero_mul,Nat.zero_add]
  rw [hw,hn];exact g2
 ·have hw:a.w=128:=by unfold Addr.w;rw [hv6];rfl
  rw [hw]
  unfold Addr.n
  omega
theorem ref02_Make_tt {a:Addr} {n:Nat} (hv:a.ok=true) (hn:n ≤ a.w):Ok (ref02_Make a (n:Int)) fun r=>r=(⟨a.cut n,n⟩,0):=by
 have hw:a.w=8 * a.L:=by unfold Addr.w Addr.L;split<;>rfl
 have hL:a.L=16 ∨ a.L=4:=by unfold Addr.L;split<;>simp
 unfold ref02_Make
 rw [ref01_Valid_eq,some_bind',hv]
 refine .ite (fun h=>by simp at h) fun _=>?_
 have hwid:ref02_width a=some (a.w:Int):=by unfold ref02_width Addr.w;split<;>rfl
 refine .join (fun b=>b=false) (fun k hk=>.ite (fun h=>by simp at h;omega) fun _=>?_) fun b hb=>?_
 ·rw [hwid,some_bind']
  refine hk _ ?_
  simp only [cond_false,decide_eq_false_iff_not]
  omega
 subst hb
 refine .ite (fun h=>by simp at h) fun _=>?_
 refine .bind (ref01_Bytes_tt hv) fun l hl=>?_
 refine .join (fun l:List UInt8=>l.length=a.L∧val l=a.n / 2 ^ (a.w - n) * 2 ^ (a.w - n)) (fun k hk=>?_) fun l' hl'=>?_
 ·refine .whileI (fun s:Int×List UInt8=>∃P:Nat,s.1=P∧n ≤ P∧P ≤ 8 * a.L∧s.2.length=a.L∧∀q,q < 8 * a.L→(s.2.getD (a.L - 1 - q / 8) 0).toNat.testBit (q % 8)=(a.n.testBit q && !decide (8 * a.L - P ≤ q∧q < 8 * a.L - n)))
   (fun s=>(8 * a.L - s.1).toNat) ⟨n,rfl,Nat.le_refl _,by omega,hl.1,fun q hq=>?_⟩ (lt_fuel (by simp only;omega)) ?_
  ·have h1:a.L - 1 - q / 8 < a.L:=by omega
   have h2:=hl.2 _ h1
   have h3:a.L - 1 - (a.L - 1 - q / 8)=q / 8:=by omega
   have h4:¬ (8 * a.L - n ≤ q∧q < 8 * a.L - n):=by omega
   rw [List.getD_eq_getElem?_getD,h2,h3]
   simp only [Option.getD_some,h4,decide_false,Bool.not_false,Bool.and_true]
   unfold byteN
   rw [UInt8.toNat_ofNat',Nat.testBit_mod_two_pow,Nat.testBit_div_two_pow,Nat.mod_add_div]
   simp [Nat.mod_lt]
  ·rintro next ⟨p,l⟩ ⟨P,h1,h2,h3,h4,h5⟩ hnx
   simp only at h1 h4 h5
   subst h1
   have e8:i64w (8 * (l.length:Int))=((8 * a.L:Nat):Int):=by rw [i64w_id (by omega)];omega
   refine .ite (fun h=>?_) fun h=>hk _ ?_
   ·rw [e8] at h
    simp only [decide_eq_true_eq] at h
    have ed:i64w (Int.tdiv (P:Int) 8)=((P / 8:Nat):Int):=by
     rw [Int.tdiv_eq_ediv_of_nonneg (by omega),i64w_id (by omega)];omega
    have et:Int.tmod (P:Int) 8=((P % 8:Nat):Int):=by rw [Int.tmod_eq_emod_of_nonneg (by omega)];omega
    have hlt:P / 8 < l.length:=by omega
    rw [ed,geti_nat hlt,some_bind',some_bind']
    refine .bind (Ok.seti (by omega)) fun l' hl'=>?_
    rw [Int.toNat_natCast,et] at hl'
    rw [i64w_id (by omega)]
    refine hnx _ ⟨P + 1,by simp only;omega,by omega,by omega,by simp only;omega,fun q hq=>?_⟩ (by simp only;omega)
    simp only
    rw [hl'.1]
    by_cases hb:a.L - 1 - q / 8=P / 8
    ·have hx:=h5 q hq
     rw [hb,List.getD_eq_getElem?_getD,List.getElem?_eq_getElem hlt,Option.getD_some] at hx
     rw [hb,List.getD_eq_getElem?_getD,List.getElem?_set_self (by omega),Option.getD_some,clear_bit (Nat.mod_lt _ (by omega)) (Nat.mod_lt _ (by omega)),hx,Bool.and_assoc]
     congr 1
     rw [Bool.eq_iff_iff]
     simp only [Bool.and_eq_true,Bool.not_eq_true',decide_eq_false_iff_not]
     omega
    ·have hx:=h5 q hq
     rw [List.getD_eq_getElem?_getD] at hx
     rw [List.getD_eq_getElem?_getD,List.getElem?_set_ne (by omega),hx]
     congr 2
     rw [decide_eq_decide]
     omega
   ·rw [e8] at h
    simp only [decide_eq_true_eq] at h
    have hP:P=8 * a.L:=by omega
    subst hP
    refine ⟨h4,?_⟩
    apply Nat.eq_of_testBit_eq
    intro q
    rw [val_testBit,a.cut_bit hn,h4]
    by_cases hq:q < 8 * a.L
    ·rw [if_pos hq,h5 q hq]
     congr 1
     rw [Bool.eq_iff_iff]
     simp only [Bool.not_eq_true',decide_eq_false_iff_not,decide_eq_true_eq]
     omega
    ·rw [if_neg hq]
     have:a.n.testBit q=false:=Nat.testBit_lt_two_pow (Nat.lt_of_lt_of_le (Addr.n_lt hv) (Nat.pow_le_pow_right (by omega) (by omega)))
     rw [this,Bool.false_and]
 ·refine .bind (ref01_FromBytes_tt (by omega)) fun r hr=>?_
  subst hr
  refine .ret ?_
  have e1:(l'.length == 16)=a.V6:=by
   rw [hl'.1]
   unfold Addr.L
   cases a.V6<;>rfl
  have e2:val l' % 2 ^ 128=val l':=by
   refine Nat.mod_eq_of_lt ?_
   rw [hl'.2]
   exact Nat.lt_of_le_of_lt (Nat.div_mul_le_self _ _) (Nat.lt_of_lt_of_le (Addr.n_lt hv) (Nat.pow_le_pow_right (by omega) (by rw [hw];omega)))
  rw [e1,e2,hl'.2,Addr.cut]
theorem ref02_Make_bad {a:Addr} {n:Int} (hn:¬ (a.ok=true∧0 ≤ n∧n ≤ a.w)):Ok (ref02_Make a n) fun r=>r.2 ≠ 0:=by
 have hwid:ref02_width a=some (a.w:Int):=by unfold ref02_width Addr.w;split<;>rfl
 unfold ref02_Make
 rw [ref01_Valid_eq,some_bind']
 refine .ite (fun _=>.ret (by decide)) fun hv=>?_
 have hv:a.ok=true:=by simpa using hv
 refine .join (fun b=>b=true) (fun k hk=>.ite (fun _=>hk _ rfl) fun h=>?_) fun b hb=>?_
 ·rw [hwid,some_bind']
  refine hk _ ?_
  show decide (n > (a.w:Int))=true
  simp at h ⊢
  have:¬ (0 ≤ n∧n ≤ a.w):=fun q=>hn ⟨hv,q⟩
  omega
 ·subst hb
  exact .ite (fun _=>.ret (by decide)) fun h=>absurd rfl h
theorem ref02_Make_eq (a:Addr) (n:Int) :∃r e,ref02_Make a n=some (r,e)∧((a.ok=true∧0 ≤ n∧n ≤ a.w)∧e=0∧r=⟨a.cut n.toNat,n⟩ ∨ ¬ (a.ok=true∧0 ≤ n∧n ≤ a.w)∧e ≠ 0):=by
 by_cases h:a.ok=true∧0 ≤ n∧n ≤ a.w
 ·obtain ⟨k,rfl⟩ :∃k:Nat,n=k:=⟨n.toNat,by omega⟩
  obtain ⟨r,h1,h2⟩:=ref02_Make_tt h.1 (n:=k) (by omega)
  exact ⟨_,_,by rw [h1,h2],.inl ⟨h,rfl,by rw [Int.toNat_natCast]⟩⟩
 ·obtain ⟨r,h1,h2⟩:=ref02_Make_bad h
  exact ⟨r.1,r.2,h1,.inr ⟨h,h2⟩⟩
instance (a:Addr) (n:Int):Tt (ref02_Make a n):=by
 obtain ⟨r,e,h,_⟩:=ref02_Make_eq a n
 exact ⟨_,h⟩
def inB (p:Prefix) (x:Addr):Bool:=decide (0 ≤ p.Len∧p.Len ≤ x.w) && Addr.eqd (x.cut p.Len.toNat) p.Addr
theorem ref02_Contains_eq {p:Prefix} {x:Addr} (hx:x.ok=true):ref02_Contains p x=some (inB p x):=by
 obtain ⟨r,e,h1,h2⟩:=ref02_Make_eq x p.Len
 unfold ref02_Contains
 rw [h1,some_bind']
 dsimp only
 rw [joinP_def]
 rcases h2 with ⟨⟨_,h3,h4⟩,rfl,rfl⟩ | ⟨h3,h4⟩
 ·simp only [beq_self_eq_true,if_true]
  unfold inB Prefix.eqd Addr.eqd
  simp [h3,h4]
 ·simp only [beq_iff_eq,h4,if_false]
  unfold inB
  have:¬ (0 ≤ p.Len∧p.Len ≤ x.w):=fun h=>h3 ⟨hx,h⟩
  simp only [this,decide_false,Bool.false_and]
theorem prefix_Contains_eq (p:Prefix) (x:Addr):prefix_Contains p x=some (inB p x):=by
 have hw:prefix_width x=some (x.w:Int):=by unfold prefix_width Addr.w;split<;>rfl
 have hv:(p.Addr.V6 == x.V6)=false→Addr.eqd (x.cut p.Len.toNat) p.Addr=false:=by
  intro h
  unfold Addr.eqd
  rw [cut_v6]
  have:(x.V6 == p.Addr.V6)=false:=by rw [Bool.beq_comm];exact h
  rw [this,Bool.false_and]
 unfold prefix_Contains
 rw [joinP_def]
 cases hb:(p.Addr.V6 == x.V6)
 ·rw [if_neg (by decide)]
  unfold inB
  rw [hv hb,Bool.and_false]
 ·rw [if_pos rfl]
  by_cases h0:0 ≤ p.Len
  ·rw [if_pos (by simpa using h0),hw,some_bind']
   by_cases h1:p.Len ≤ x.w
   ·rw [if_pos (by simpa using h1)]
    obtain ⟨k,hk⟩ :∃k:Nat,p.Len=k:=⟨p.Len.toNat,by omega⟩
    unfold inB
    rw [hk,prefix_first_eq x (by omega),some_bind',Int.toNat_natCast]
    have:(0:Int) ≤ (k:Int)∧(k:Int) ≤ x.w:=by omega
    simp only [this,and_self,decide_true,Bool.true_and,cond_true]
   ·rw [if_neg (by simpa using h1)]
    unfold inB
    simp [h1]
  ·rw [if_neg (by simpa using h0)]
   unfold inB
   simp [h0]
instance (p:Prefix) (x:Addr):Tt (ref02_Contains p x):=by unfold ref02_Contains;exact Tt.auto
instance (p q:Prefix):Tt (ref02_Covers p q):=by unfold ref02_Covers;exact Tt.auto
instance (p:Prefix):Tt (ref02_Valid p):=by unfold ref02_Valid;exact Tt.auto
instance (p:Prefix) (x:Addr):Tt (prefix_Contains p x):=⟨_,prefix_Contains_eq p x⟩
instance (o:Object):Tt (ref20_ValidObject o):=by unfold ref20_ValidObject;exact Tt.auto
instance (l:List Object) (p:Prefix) (n:Int):Tt (ref20_Permits l p n):=by unfold ref20_Permits;exact Tt.auto
def goodP (p:Prefix):Prop:=p.Addr.ok=true∧0 ≤ p.Len∧p.Len ≤ p.Addr.w∧p.Addr.cut p.Len.toNat=p.Addr
theorem Addr.eqd_iff (a b:Addr):Addr.eqd a b=true ↔ a=b:=by
 unfold Addr.eqd
 simp only [Bool.and_eq_true,beq_iff_eq,Bool.and_true,Int.natCast_inj,UInt64.toNat_inj]
 constructor
 ·rintro ⟨h1,h2,h3⟩;cases a;cases b;simp_all
 ·rintro rfl;exact ⟨rfl,rfl,rfl⟩
theorem Prefix.eqd_iff (a b:Prefix):Prefix.eqd a b=true ↔ a=b:=by
 have h:=Addr.eqd_iff a.Addr b.Addr
 unfold Addr.eqd at h
 unfold Prefix.eqd
 rw [Bool.and_eq_true,h]
 simp only [Bool.and_true,beq_iff_eq]
 constructor
 ·rintro ⟨h1,h2⟩;cases a;cases b;simp_all
 ·rintro rfl;exact ⟨rfl,rfl⟩
theorem ref02_Valid_tt (p:Prefix):Ok (ref02_Valid p) fun b=>b=true ↔ goodP p:=by
 obtain ⟨r,e,h1,h2⟩:=ref02_Make_eq p.Addr p.Len
 unfold ref02_Valid
 rw [h1,some_bind']
 dsimp only
 unfold goodP
 rcases h2 with ⟨h3,rfl,rfl⟩ | ⟨h3,h4⟩
 ·refine .join (fun b=>b=true ↔ p.Addr.cut p.Len.toNat=p.Addr) (fun k hk=>.ite (fun _=>hk _ ?_) fun h=>absurd rfl h) fun b hb=>.ret (by rw [hb];exact ⟨fun h=>⟨h3.1,h3.2.1,h3.2.2,h⟩,fun h=>h.2.2.2⟩)
  show Prefix.eqd p _=true ↔ _
  rw [Prefix.eqd_iff]
  exact ⟨fun h=>(congrArg Prefix.Addr h).symm,fun h=>by rw [h]⟩
 ·refine .join (fun b=>b=false) (fun k hk=>.ite (fun h=>absurd (by simpa using h) h4) fun _=>hk _ rfl) fun b hb=>.ret ⟨fun h=>by rw [hb] at h;simp at h,fun h=>absurd ⟨h.1,h.2.1,h.2.2.1⟩ h3⟩
end Go.AX.Q20
end
section
namespace Go.AX
def Po {ρ:Type} (m:Option ρ) (Q:ρ→Prop):Prop:=∀r,m=some r→Q r
theorem Po.ret {ρ:Type} {Q:ρ→Prop} {r:ρ} (h:Q r):Po (some r) Q:=fun _ e=>Option.some.inj e ▸ h
theorem Po.imp {ρ:Type} {m:Option ρ} {P Q:ρ→Prop} (h:Po m P) (k :∀r,P r→Q r):Po m Q:=fun r e=>k r (h r e)
theorem Po.bind {α ρ:Type} {m:Option α} {f:α→Option ρ} {Q:ρ→Prop} (k :∀a,m=some a→Po (f a) Q):Po (Option.bind m f) Q:=by
 intro r e
 cases hm:m with
 | none=>rw [hm] at e;cases e
 | some a=>rw [hm] at e;exact k a hm r e
theorem Po.bindP {α ρ:Type} {m:Option α} {f:α→Option ρ} {P:α→Prop} {Q:ρ→Prop} (h:Po m P) (k :∀a,P a→Po (f a) Q):Po (Option.bind m f) Q:=.bind fun a e=>k a (h a e)
theorem Po.join {τ ρ:Type} {m:(τ→Option ρ)→Option ρ} {k:τ→Option ρ} {Q:ρ→Prop} (J:τ→Prop) (h1 :∀k',(∀v,J v→Po (k' v) Q)→Po (m k') Q) (h2 :∀v,J v→Po (k v) Q):Po (joinP m k) Q:=h1 k h2
theorem Po.ite {ρ:Type} {p:Prop} [Decidable p] {x y:Option ρ} {Q:ρ→Prop} (h1:p→Po x Q) (h2:¬ p→Po y Q):Po (if p then x else y) Q:=by
 split
 ·exact h1 ‹_›
 ·exact h2 ‹_›
theorem Po.forX {α σ ρ:Type} {done:σ→Option ρ} {body:(σ→Option ρ)→α→Nat→σ→Option ρ} {Q:ρ→Prop} {l:List α} {s0:σ} (I:Nat→σ→Prop) (h0:I 0 s0) (hd :∀s,I l.length s→Po (done s) Q)
  (hs :∀(next:σ→Option ρ) x i s,l[i]?=some x→I i s→(∀s',I (i + 1) s'→Po (next s') Q)→Po (body next x i s) Q):Po (forR done body l 0 s0) Q:=by
 have key :∀(t:List α) (i:Nat) (s:σ),(∃p,l=p ++ t∧p.length=i)→I i s→Po (forR done body t i s) Q:=by
  intro t
  induction t with
  | nil=>intro i s ⟨p,hp,hl⟩ hi;exact hd s (by rw [hp];simpa [hl] using hi)
  | cons x t ih=>
   intro i s ⟨p,hp,hl⟩ hi
   exact hs _ x i s (by rw [hp,← hl];simp) hi fun s' h'=>ih (i + 1) s' ⟨p ++ [x],by simp [hp],by simp [hl]⟩ h'
 exact key l 0 s0 ⟨[],rfl,rfl⟩ h0
theorem Po.for_ {α σ ρ:Type} {done:σ→Option ρ} {body:(σ→Option ρ)→α→Nat→σ→Option ρ} {Q:ρ→Prop} {l:List α} {s0:σ} (I:σ→Prop) (h0:I s0) (hd :∀s,I s→Po (done s) Q)
  (hs :∀(next:σ→Option ρ) x i s,x ∈ l→I s→(∀s',I s'→Po (next s') Q)→Po (body next x i s) Q):Po (forR done body l 0 s0) Q:=
 .forX (fun _=>I) h0 hd fun n x i s hx=>hs n x i s (List.mem_of_getElem? hx)
theorem Po.while_ {σ ρ:Type} {body:(σ→Option ρ)→σ→Option ρ} {n:Nat} {s:σ} {Q:ρ→Prop} (I:σ→Prop) (h0:I s)
  (hs :∀(next:σ→Option ρ) s,I s→(∀s',I s'→Po (next s') Q)→Po (body next s) Q):Po (whileR body n s) Q:=by
 induction n generalizing s with
 | zero=>intro r e;cases e
 | succ n ih=>exact hs _ s h0 fun s' h'=>ih h'
theorem Po.apnd {α:Type} {b:Nat} {l m:List α}:Po (Go.AX.apnd b l m) fun r=>r=l ++ m:=by
 intro r e
 unfold Go.AX.apnd at e
 split at e
 ·exact (Option.some.inj e).symm
 ·cases e
theorem Po.geti {α:Type} {l:List α} {i:Int}:Po (Go.AX.geti l i) fun x=>0 ≤ i∧l[i.toNat]?=some x:=by
 intro r e
 unfold Go.AX.geti at e
 split at e
 ·rename_i h
  exact ⟨h.1,e⟩
 ·cases e
theorem Po.seti {α:Type} {l:List α} {i:Int} {x:α}:Po (Go.AX.seti l i x) fun r=>0 ≤ i∧i.toNat < l.length∧r=l.set i.toNat x:=by
 intro r e
 unfold Go.AX.seti at e
 split at e
 ·rename_i h
  exact ⟨h.1,by omega,(Option.some.inj e).symm⟩
 ·cases e
theorem Po.part {α:Type} {l:List α} {a b:Int}:Po (Go.AX.part l a b) fun r=>r=(l.drop a.toNat).take (b.toNat - a.toNat):=by
 intro r e
 unfold Go.AX.part at e
 split at e
 ·exact (Option.some.inj e).symm
 ·cases e
theorem Ok.and {ρ:Type} {m:Option ρ} {P Q:ρ→Prop} (h:Ok m P) (k:Po m Q):Ok m fun r=>P r∧Q r:=by
 obtain ⟨r,h1,h2⟩:=h
 exact ⟨r,h1,h2,k r h1⟩
theorem Ok.po {ρ:Type} {m:Option ρ} {P:ρ→Prop} (h:Ok m P):Po m P:=by
 obtain ⟨r,h1,h2⟩:=h
 intro q e
 rw [h1] at e
 exact Option.some.inj e ▸ h2
theorem Po.eq {ρ:Type} {m:Option ρ} {r:ρ} {Q:ρ→Prop} (h:m=some r) (k:Q r):Po m Q:=h ▸ .ret k
theorem Po.sel {τ ρ:Type} {m:(τ→Option ρ)→Option ρ} {k:τ→Option ρ} {Q:ρ→Prop} (h1 :∀k',(∀v,Po (k' v) Q)→Po (m k') Q) (h2 :∀v,Po (k v) Q):Po (joinP m k) Q:=h1 k h2
end Go.AX
end
section
namespace Go.AX
theorem allR {α ρ:Type} {g:α→Bool} {body:(Unit→Option ρ)→α→Nat→Unit→Option ρ} {K:Unit→Option ρ} {r0:Option ρ} :
  ∀{l:List α} {i:Nat},(∀next x i,x ∈ l→body next x i ()=cond (g x) (next ()) r0)→forR K body l i ()=cond (l.all g) (K ()) r0
 | [],_,_=>rfl
 | x::t,i,h=>by
  show body (fun s=>forR K body t (i + 1) s) x i ()=_
  rw [h _ x i (by simp),List.all_cons]
  cases g x
  ·rfl
  ·exact allR fun next y j hy=>h next y j (List.mem_cons_of_mem _ hy)
theorem idxR {α:Type} {f:α→Option Bool} {q:α→Bool} :∀{l:List α} {i:Nat},(∀x ∈ l,f x=some (q x))→
  forR (fun _=>some (-1)) (fun next x i _=>Option.bind (f x) fun v=>if v then some (i:Int) else next ()) l i ()=some (match l.findIdx? q with | some j=>((i + j:Nat):Int) | none=>-1)
 | [],_,_=>rfl
 | x::t,i,h=>by
  show Option.bind (f x) (fun v=>if v then some (i:Int) else forR (fun _=>some (-1)) _ t (i + 1) ())=_
  rw [h x (by simp),some_bind',List.findIdx?_cons]
  by_cases hq:q x=true
  ·rw [if_pos hq,if_pos hq];simp
  ·rw [if_neg hq,if_neg hq,idxR fun y hy=>h y (List.mem_cons_of_mem _ hy)]
   cases t.findIdx? q with
   | none=>rfl
   | some j=>simp only [Option.map_some];rw [show i + 1 + j=i + (j + 1) by omega]
theorem contR {α:Type} {f:α→Option Bool} {q:α→Bool} {l:List α} (h :∀x ∈ l,f x=some (q x)) :
  (Option.bind (joinP (τ:=Unit) (fun k1=>forR (fun _=>k1 ()) (fun next x i _=>Option.bind (f x) fun v=>if v then some (i:Int) else next ()) l 0 ()) fun _=>some (-1)) fun v1=>some (decide (v1 ≥ 0)))=some (l.any q):=by
 rw [joinP_def,idxR h,some_bind']
 congr 1
 cases hf:l.findIdx? q with
 | none=>
  have:l.any q=false:=by
   rw [List.findIdx?_eq_none_iff] at hf
   simp only [List.any_eq_false]
   intro x hx
   simp [hf x hx]
  rw [this];rfl
 | some j=>
  have h1:=List.findIdx?_eq_some_iff_getElem.1 hf
  obtain ⟨hj,hq,_⟩:=h1
  have:l.any q=true:=List.any_eq_true.2 ⟨_,List.getElem_mem hj,hq⟩
  rw [this]
  simp
theorem eqR {α:Type} [DecidableEq α] {a b:List α} {e:α→α→Bool} (he :∀x y,e x y=!decide (x=y)) :
  (if ((a.length:Int) != (b.length:Int)) then some false else joinP (τ:=Unit) (fun k1=>forR (fun _=>k1 ()) (fun next x i _=>Option.bind (geti b (i:Int)) fun v=>if e v x then some false else next ()) a 0 ()) fun _=>some true)=some (decide (a=b)):=by
 by_cases hl:a.length=b.length
 ·rw [if_neg (by simp [hl]),joinP_def]
  have key :∀(t:List α) (i:Nat),i + t.length=b.length→forR (fun _=>some true) (fun next x i _=>Option.bind (geti b (i:Int)) fun v=>if e v x then some false else next ()) t i ()=some (decide (t=b.drop i)):=by
   intro t
   induction t with
   | nil=>intro i hi;simp only [List.length_nil,Nat.add_zero] at hi;rw [hi,List.drop_length];rfl
   | cons x t ih=>
    intro i hi
    simp only [List.length_cons] at hi
    have hlt:i < b.length:=by omega
    show Option.bind (geti b (i:Int)) (fun v=>if e v x then some false else forR (fun _=>some true) _ t (i + 1) ())=_
    have hd:b.drop i=b[i]::b.drop (i + 1):=List.drop_eq_getElem_cons hlt
    rw [geti_nat hlt,some_bind',ih (i + 1) (by omega),hd,he]
    generalize b[i]=y
    generalize b.drop (i + 1)=u
    by_cases hx:y=x
    ·subst hx;simp
    ·simp [hx,Ne.symm hx]
  rw [key a 0 (by omega),List.drop_zero]
 ·rw [if_pos (by simp;omega)]
  have:¬ a=b:=by
   rintro rfl
   exact hl rfl
  rw [decide_eq_false this]
theorem baEq (a b:ByteArray):(a.toList == b.toList)=decide (a=b):=by
 have h:a.toList=b.toList ↔ a=b:=by
  rw [ByteArray.toList_eq,ByteArray.toList_eq]
  constructor
  ·intro h
   have h2:a.data=b.data:=Array.toList_inj.1 h
   cases a;cases b;simp_all
  ·rintro rfl;rfl
 rw [Bool.eq_iff_iff,beq_iff_eq,decide_eq_true_eq,h]
theorem ba_eq_of_beq {a b:ByteArray} (h:(a == b)=true):a=b:=(Go.MapKept.bytes_beq a b).1 h
theorem ba_rfl {a:ByteArray}:(a == a)=true:=(Go.MapKept.bytes_beq a a).2 rfl
instance:LawfulBEq ByteArray:={ eq_of_beq:=ba_eq_of_beq,rfl:=ba_rfl }
section
variable {K V:Type} [BEq K] [LawfulBEq K]
theorem mget_mset (l:List (K×V)) (k:K) (v:V) (k':K):mget (mset l k v) k'=if k' == k then some v else mget l k':=by
 induction l with
 | nil=>
  unfold mset
  simp only [mget]
 | cons p l ih=>
  unfold mset
  by_cases hp:(k == p.1)=true
  ·rw [if_pos hp]
   have:=eq_of_beq hp
   simp only [mget]
   by_cases hk:(k' == k)=true
   ·rw [if_pos hk,if_pos hk]
   ·rw [if_neg hk,if_neg hk,if_neg (by rw [← this];exact hk)]
  ·rw [if_neg hp]
   simp only [mget,ih]
   by_cases hk:(k' == k)=true
   ·have:=eq_of_beq hk
    subst this
    rw [if_neg hp,if_pos hk,if_pos hk]
   ·rw [if_neg hk,if_neg hk]
theorem mget_some {l:List (K×V)} {k:K} {v:V} (h:mget l k=some v):(k,v) ∈ l:=by
 induction l with
 | nil=>simp [mget] at h
 | cons p l ih=>
  simp only [mget] at h
  split at h
  ·rename_i hp
   have:=eq_of_beq hp
   simp only [Option.some.injEq] at h
   subst h this
   simp
  ·exact List.mem_cons_of_mem _ (ih h)
theorem mget_none {l:List (K×V)} {k:K}:mget l k=none ↔∀p ∈ l,p.1 ≠ k:=by
 induction l with
 | nil=>simp [mget]
 | cons p l ih=>
  simp only [mget,List.mem_cons,forall_eq_or_imp]
  by_cases hp:(k == p.1)=true
  ·rw [if_pos hp]
   have:=eq_of_beq hp
   simp [this]
  ·rw [if_neg hp,ih]
   have:p.1 ≠ k:=fun e=>hp (by rw [e];exact beq_self_eq_true k)
   simp [this]
theorem mget_keys {l:List (K×V)} {k:K}:(∃v,mget l k=some v) ↔ k ∈ l.map (·.1):=by
 constructor
 ·rintro ⟨v,h⟩
  exact List.mem_map.2 ⟨_,mget_some h,rfl⟩
 ·intro h
  obtain ⟨p,hp,rfl⟩:=List.mem_map.1 h
  cases hg:mget l p.1 with
  | none=>exact absurd rfl (mget_none.1 hg p hp)
  | some v=>exact ⟨v,rfl⟩
theorem mset_keys (l:List (K×V)) (k:K) (v:V):(mset l k v).map (·.1)=if k ∈ l.map (·.1) then l.map (·.1) else l.map (·.1) ++ [k]:=by
 induction l with
 | nil=>simp [mset]
 | cons p l ih=>
  unfold mset
  by_cases hp:(k == p.1)=true
  ·rw [if_pos hp]
   have:=eq_of_beq hp
   simp [this]
  ·rw [if_neg hp,List.map_cons,ih]
   have hne:¬ k=p.1:=fun e=>hp (by rw [e];exact beq_self_eq_true _)
   simp only [List.map_cons,List.mem_cons,hne,false_or]
   split
   ·rfl
   ·simp
theorem mset_nodup {l:List (K×V)} {k:K} {v:V} (h:(l.map (·.1)).Nodup):((mset l k v).map (·.1)).Nodup:=by
 rw [mset_keys]
 split
 ·exact h
 ·rename_i hk
  rw [List.nodup_append]
  exact ⟨h,by simp,fun a ha b hb e=>by simp at hb;subst hb;subst e;exact hk ha⟩
theorem mset_mem {l:List (K×V)} {k:K} {v:V} {x:K}:x ∈ (mset l k v).map (·.1) ↔ x ∈ l.map (·.1) ∨ x=k:=by
 rw [mset_keys]
 split
 ·rename_i hk
  constructor
  ·exact .inl
  ·rintro (h | rfl)
   ·exact h
   ·exact hk
 ·simp
theorem mset_len (l:List (K×V)) (k:K) (v:V):(mset l k v).length ≤ l.length + 1:=by
 have:=congrArg List.length (mset_keys l k v)
 simp only [List.length_map] at this
 rw [this]
 split<;>simp
end
theorem takeWhile_len_le {α:Type} (p:α→Bool) (l:List α):(l.takeWhile p).length ≤ l.length:=(List.takeWhile_prefix p).length_le
theorem takeWhile_at {α:Type} {p:α→Bool} :∀{l:List α} {k:Nat} (hk:k < l.length),k ≤ (l.takeWhile p).length→(k < (l.takeWhile p).length ↔ p l[k]=true)
 | [],_,hk,_=>by simp at hk
 | x::t,k,hk,h=>by
  rw [List.takeWhile_cons] at h ⊢
  by_cases hp:p x=true
  ·rw [if_pos hp] at h ⊢
   cases k with
   | zero=>simp [hp]
   | succ k=>simpa using takeWhile_at (p:=p) (l:=t) (k:=k) (by simpa using hk) (by simpa using h)
  ·rw [if_neg hp] at h ⊢
   have:k=0:=by simpa using h
   subst this
   simp [hp]
theorem posR {α ρ:Type} {l:List α} {p:α→Bool} (g:α→(Bool→Option ρ)→Option ρ) {K:Int→Option ρ} (hl:l.length ≤ 1000000000000) (hg :∀x ∈ l,∀k,g x k=k (p x)) :
  joinP (fun k1=>whileR (fun next v=>joinP (fun k2=>if decide (v < (l.length:Int)) then Option.bind (geti l v) fun x=>g x k2 else k2 false) (fun c=>if c=true then next (i64w (v + 1)) else k1 v)) fuel 0) K=K ((l.takeWhile p).length:Int):=by
 have ht:=takeWhile_len_le p l
 rw [joinP_def,whileR_eq (fun v:Int=>0 ≤ v∧v ≤ ((l.takeWhile p).length:Int)) (fun v=>(l.length - v).toNat) (fun _=>K ((l.takeWhile p).length:Int)) ?_ fuel 0 (by omega) (lt_fuel (by omega))]
 intro next v hv hn
 obtain ⟨k,rfl⟩ :∃k:Nat,v=k:=⟨v.toNat,by omega⟩
 rw [joinP_def]
 by_cases hk:k < l.length
 ·rw [if_pos (by simpa using hk),geti_nat hk,some_bind',hg _ (List.getElem_mem hk)]
  have h:=takeWhile_at (p:=p) hk (by omega)
  by_cases hp:p l[k]=true
  ·rw [if_pos hp,i64w_id (by omega)]
   have:=h.2 hp
   exact hn _ (by omega) (by omega)
  ·rw [if_neg hp]
   have:¬ k < (l.takeWhile p).length:=fun q=>hp (h.1 q)
   have:k=(l.takeWhile p).length:=by omega
   rw [this]
 ·rw [if_neg (by simpa using hk)]
  have:k=(l.takeWhile p).length:=by omega
  subst this
  rfl
theorem nodup_len {α:Type} [DecidableEq α] :∀{l m:List α},l.Nodup→(∀x ∈ l,x ∈ m)→l.length ≤ m.length
 | [],_,_,_=>Nat.zero_le _
 | x::t,m,h,hs=>by
  obtain ⟨h1,h2⟩:=List.nodup_cons.1 h
  have hx:=hs x (by simp)
  have:=nodup_len (m:=m.erase x) h2 fun y hy=>(List.mem_erase_of_ne (fun e=>h1 (by rw [← e];exact hy))).2 (hs y (List.mem_cons_of_mem _ hy))
  rw [List.length_erase_of_mem hx] at this
  have:0 < m.length:=List.length_pos_of_mem hx
  simp only [List.length_cons]
  omega
theorem sorted_ext {α:Type} {lt:α→α→Prop} (hirr :∀a,¬ lt a a) (htr :∀a b c,lt a b→lt b c→lt a c) :∀{l m:List α},l.Pairwise lt→m.Pairwise lt→(∀x,x ∈ l ↔ x ∈ m)→l=m
 | [],[],_,_,_=>rfl
 | [],y::m,_,_,h=>by have:=(h y).2 (by simp);simp at this
 | x::l,[],_,_,h=>by have:=(h x).1 (by simp);simp at this
 | x::l,y::m,h1,h2,h=>by
  obtain ⟨a1,a2⟩:=List.pairwise_cons.1 h1
  obtain ⟨b1,b2⟩:=List.pairwise_cons.1 h2
  have hxy:x=y:=by
   rcases List.mem_cons.1 ((h x).1 (by simp)) with e | e
   ·exact e
   ·rcases List.mem_cons.1 ((h y).2 (by simp)) with e' | e'
    ·exact e'.symm
    ·exact absurd (htr _ _ _ (a1 y e') (b1 x e)) (hirr x)
  subst hxy
  congr 1
  refine sorted_ext hirr htr a2 b2 fun z=>?_
  constructor
  ·intro hz
   rcases List.mem_cons.1 ((h z).1 (List.mem_cons_of_mem _ hz)) with e | e
   ·subst e;exact absurd (a1 z hz) (hirr z)
   ·exact e
  ·intro hz
   rcases List.mem_cons.1 ((h z).2 (List.mem_cons_of_mem _ hz)) with e | e
   ·subst e;exact absurd (b1 z hz) (hirr z)
   ·exact e
def insS {α:Type} (lt:α→α→Bool) (l:List α) (x:α):List α:=l.takeWhile (lt · x) ++ x::l.dropWhile (lt · x)
theorem insS_mem {α:Type} {lt:α→α→Bool} {l:List α} {x y:α}:y ∈ insS lt l x ↔ y ∈ l ∨ y=x:=by
 unfold insS
 have:y ∈ l ↔ y ∈ l.takeWhile (lt · x) ∨ y ∈ l.dropWhile (lt · x):=by
  rw [← List.mem_append,List.takeWhile_append_dropWhile]
 rw [this,List.mem_append,List.mem_cons]
 constructor
 ·rintro (h | h | h)
  ·exact .inl (.inl h)
  ·exact .inr h
  ·exact .inl (.inr h)
 ·rintro ((h | h) | h)
  ·exact .inl h
  ·exact .inr (.inr h)
  ·exact .inr (.inl h)
theorem insS_len {α:Type} (lt:α→α→Bool) (l:List α) (x:α):(insS lt l x).length=l.length + 1:=by
 unfold insS
 have:=congrArg List.length (List.takeWhile_append_dropWhile (p:=(lt · x)) (l:=l))
 simp only [List.length_append,List.length_cons] at this ⊢
 omega
theorem takeWhile_all {α:Type} (p:α→Bool) {l:List α} {x:α} (h:x ∈ l.takeWhile p):p x=true:=by
 induction l with
 | nil=>simp at h
 | cons y t ih=>
  rw [List.takeWhile_cons] at h
  split at h
  ·rcases List.mem_cons.1 h with rfl | h
   ·assumption
   ·exact ih h
  ·simp at h
theorem insS_sorted {α:Type} {lt:α→α→Bool} (htr :∀a b c,lt a b=true→lt b c=true→lt a c=true) (htot :∀a b,lt a b=false→a=b ∨ lt b a=true) {l:List α} {x:α} (h:l.Pairwise fun a b=>lt a b=true) (hx:x ∉ l) :
  (insS lt l x).Pairwise fun a b=>lt a b=true:=by
 have h0:=h
 rw [← List.takeWhile_append_dropWhile (p:=(lt · x)) (l:=l),List.pairwise_append] at h
 obtain ⟨h1,h2,h3⟩:=h
 have hd :∀b ∈ l.dropWhile (lt · x),lt x b=true:=by
  cases hl:l.dropWhile (lt · x) with
  | nil=>intro b hb;simp at hb
  | cons y t=>
   have hy:lt y x=false:=by
    have:=List.head?_dropWhile_not (lt · x) l
    rw [hl] at this
    simpa using this
   have hyl:y ∈ l:=by
    have:y ∈ l.dropWhile (lt · x):=by rw [hl];simp
    exact List.dropWhile_subset _ this
   have hxy:lt x y=true:=by
    rcases htot _ _ hy with e | e
    ·subst e;exact absurd hyl hx
    ·exact e
   rw [hl] at h2
   intro b hb
   rcases List.mem_cons.1 hb with rfl | hb
   ·exact hxy
   ·exact htr _ _ _ hxy ((List.pairwise_cons.1 h2).1 b hb)
 unfold insS
 rw [List.pairwise_append]
 refine ⟨h1,List.pairwise_cons.2 ⟨hd,h2⟩,fun a ha b hb=>?_⟩
 rcases List.mem_cons.1 hb with e | hb
 ·rw [e];exact takeWhile_all (lt · x) ha
 ·exact h3 a ha b hb
theorem takeWhile_take {α:Type} (p:α→Bool) (l:List α):l.take (l.takeWhile p).length=l.takeWhile p∧l.drop (l.takeWhile p).length=l.dropWhile p:=by
 have h:=List.takeWhile_append_dropWhile (p:=p) (l:=l)
 constructor
 ·conv=>lhs;arg 2;rw [← h]
  rw [List.take_left']
  rfl
 ·conv=>lhs;arg 2;rw [← h]
  rw [List.drop_left']
  rfl
end Go.AX
end
section
namespace Go.AX.Q20
open Go Go.AX
set_option maxRecDepth 8000
def goodN (n:Nat):Bool:=(decide (97 ≤ n) && decide (n ≤ 122)) || (decide (65 ≤ n) && decide (n ≤ 90)) || (decide (48 ≤ n) && decide (n ≤ 57)) || decide (n=45) || decide (n=58)
def goodC (c:UInt8):Bool:=goodN c.toNat
def nameB (s:ByteArray):Bool:=decide (1 ≤ s.size) && decide (s.size ≤ 32) && s.toList.all goodC
theorem toList_len (s:ByteArray):s.toList.length=s.size:=by rw [ByteArray.toList_eq,Array.length_toList];rfl
theorem ref08_Name_eq {s:ByteArray} (h:s.size ≤ maxLen):ref08_Name s=some (nameB s):=by
 have hl:=toList_len s
 have hm:maxLen=9223372036854775807:=rfl
 unfold ref08_Name
 rw [joinP_def]
 have hend:joinP (τ:=Bool) (fun k7=>if (decide ((s.size:Int) ≥ 1)) then k7 (cond true (decide ((s.size:Int) ≤ 32)) false) else k7 false) (fun v8=>some v8)=some (decide (1 ≤ s.size) && decide (s.size ≤ 32)):=by
  rw [joinP_def]
  by_cases h1:1 ≤ s.size
  ·rw [if_pos (by simp;omega)];simp [h1];omega
  ·rw [if_neg (by simp;omega)];simp [h1]
 rw [whileR_eq (fun v:Int=>0 ≤ v∧v ≤ s.size) (fun v=>(s.size - v).toNat) (fun v=>cond ((s.toList.drop v.toNat).all goodC) (some (decide (1 ≤ s.size) && decide (s.size ≤ 32))) (some false)) ?_ fuel 0 (by omega) (lt_fuel (by omega))]
 ·unfold nameB
  simp only [Int.toNat_zero,List.drop_zero]
  cases s.toList.all goodC<;>simp
 ·intro next v hv hn
  by_cases hlt:v < s.size
  ·obtain ⟨k,rfl⟩ :∃k:Nat,v=k:=⟨v.toNat,by omega⟩
   have hk:k < s.toList.length:=by omega
   rw [if_pos (by simpa using hlt),geti_nat hk,some_bind']
   have key :∀(c:UInt8) (K:Bool→Option Bool),joinP (τ:=Bool) (fun k5=>
     if (decide ((c.toNat:Int) ≥ 97)) then
      if (cond true (decide ((c.toNat:Int) ≤ 122)) false) then
       k5 (!true)
      else
       if (decide ((c.toNat:Int) ≥ 65)) then
        if (cond false true (cond true (decide ((c.toNat:Int) ≤ 90)) false)) then
         k5 (!true)
        else
         if (decide ((c.toNat:Int) ≥ 48)) then
          if (cond false true (cond true (decide ((c.toNat:Int) ≤ 57)) false)) then
           k5 (!true)
          else
           if (cond false true ((c.toNat:Int) == 45)) then
            k5 (!true)
           else
            k5 (!(cond false true ((c.toNat:Int) == 58)))
         else
          if (cond false true ((c.toNat:Int) == 45)) then
           k5 (!true)
          else
           k5 (!(cond false true ((c.toNat:Int) == 58)))
       else
        if (decide ((c.toNat:Int) ≥ 48)) then
         if (cond false true (cond true (decide ((c.toNat:Int) ≤ 57)) false)) then
          k5 (!true)
         else
          if (cond false true ((c.toNat:Int) == 45)) then
           k5 (!true)
          else
           k5 (!(cond false true ((c.toNat:Int) == 58)))
        else
         if (cond false true ((c.toNat:Int) == 45)) then
          k5 (!true)
         else
          k5 (!(cond false true ((c.toNat:Int) == 58)))
     else
      if (decide ((c.toNat:Int) ≥ 65)) then
       if (cond false true (cond true (decide ((c.toNat:Int) ≤ 90)) false)) then
        k5 (!true)
       else
        if (decide ((c.toNat:Int) ≥ 48)) then
         if (cond false true (cond true (decide ((c.toNat:Int) ≤ 57)) false)) then
          k5 (!true)
         else
          if (cond false true ((c.toNat:Int) == 45)) then
           k5 (!true)
          else
           k5 (!(cond false true ((c.toNat:Int) == 58)))
        else
         if (cond false true ((c.toNat:Int) == 45)) then
          k5 (!true)
         else
          k5 (!(cond false true ((c.toNat:Int) == 58)))
      else
       if (decide ((c.toNat:Int) ≥ 48)) then
        if (cond false true (cond true (decide ((c.toNat:Int) ≤ 57)) false)) then
         k5 (!true)
        else
         if (cond false true ((c.toNat:Int) == 45)) then
          k5 (!true)
         else
          k5 (!(cond false true ((c.toNat:Int) == 58)))
       else
        if (cond false true ((c.toNat:Int) == 45)) then
         k5 (!true)
        else
         k5 (!(cond false true ((c.toNat:Int) == 58)))) K=K (!goodC c):=by
    intro c K
    rw [joinP_def]
    have hb :∀n:Fin 256,(fun n:Nat=>if (decide ((n:Int) ≥ 97)) then if (cond true (decide ((n:Int) ≤ 122)) false) then (!true) else if (decide ((n:Int) ≥ 65)) then if (cond false true (cond true (decide ((n:Int) ≤ 90)) false)) then (!true) else if (decide ((n:Int) ≥ 48)) then if (cond false true (cond true (decide ((n:Int) ≤ 57)) false)) then (!true) else if (cond false true ((n:Int) == 45)) then (!true) else (!(cond false true ((n:Int) == 58))) else if (cond false true ((n:Int) == 45)) then (!true) else (!(cond false true ((n:Int) == 58))) else if (decide ((n:Int) ≥ 48)) then if (cond false true (cond true (decide ((n:Int) ≤ 57)) false)) then (!true) else if (cond false true ((n:Int) == 45)) then (!true) else (!(cond false true ((n:Int) == 58))) else if (cond false true ((n:Int) == 45)) then (!true) else (!(cond false true ((n:Int) == 58))) else if (decide ((n:Int) ≥ 65)) then if (cond false true (cond true (decide ((n:Int) ≤ 90)) false)) then (!true) else if (decide ((n:Int) ≥ 48)) then if (cond false true (cond true (decide ((n:Int) ≤ 57)) false)) then (!true) else if (cond false true ((n:Int) == 45)) then (!true) else (!(cond false true ((n:Int) == 58))) else if (cond false true ((n:Int) == 45)) then (!true) else (!(cond false true ((n:Int) == 58))) else if (decide ((n:Int) ≥ 48)) then if (cond false true (cond true (decide ((n:Int) ≤ 57)) false)) then (!true) else if (cond false true ((n:Int) == 45)) then (!true) else (!(cond false true ((n:Int) == 58))) else if (cond false true ((n:Int) == 45)) then (!true) else (!(cond false true ((n:Int) == 58)))) n.val=!goodN n.val:=by decide +kernel
    have hc:=hb ⟨c.toNat,c.toNat_lt⟩
    unfold goodC
    simp only [← apply_ite K]
    exact congrArg K hc
   rw [key]
   rw [Int.toNat_natCast,List.drop_eq_getElem_cons hk,List.all_cons]
   by_cases hg:goodC s.toList[k]=true
   ·simp only [hg,Bool.not_true,Bool.true_and,if_false,Bool.false_eq_true]
    rw [i64w_id (by omega),hn _ (by omega) (by omega)]
    have:((k:Int) + 1).toNat=k + 1:=by omega
    rw [this]
   ·have hg:goodC s.toList[k]=false:=by simpa using hg
    simp [hg]
  ·rw [if_neg (by simpa using hlt)]
   have:v.toNat=s.toList.length:=by omega
   rw [this,List.drop_length]
   exact hend
theorem dropWhile_nil {p:UInt8→Bool} :∀{l:List UInt8},l.dropWhile p=[] ↔ l.all p=true
 | []=>by simp
 | x::t=>by
  rw [List.dropWhile_cons,List.all_cons]
  cases h:p x
  ·simp
  ·simpa using dropWhile_nil (l:=t)
theorem trimS_nil (l cs:List UInt8):Lib.trimS l cs=[] ↔ l.all (cs.contains ·)=true:=by
 unfold Lib.trimS Lib.trimLeftS
 rw [dropWhile_nil]
 constructor
 ·intro h
  have h2:Lib.trimRightS l cs=[]:=by
   unfold Lib.trimRightS at h ⊢
   cases hr:l.reverse.dropWhile (cs.contains ·) with
   | nil=>rfl
   | cons x t=>
    exfalso
    rw [hr] at h
    have hx:cs.contains x=true:=by
     have:=List.all_eq_true.1 h x (by simp)
     exact this
    have:=List.head?_dropWhile_not (fun c=>cs.contains c) l.reverse
    rw [hr] at this
    simp at this
    simp [this] at hx
  unfold Lib.trimRightS at h2
  have h3:l.reverse.dropWhile (cs.contains ·)=[]:=by simpa using h2
  rw [dropWhile_nil] at h3
  simpa using h3
 ·intro h
  have:Lib.trimRightS l cs=[]:=by
   unfold Lib.trimRightS
   have h3:l.reverse.dropWhile (cs.contains ·)=[]:=by rw [dropWhile_nil];simpa using h
   rw [h3];rfl
  rw [this];rfl
theorem trimC_nil {s cut:ByteArray} (h1:s.size ≤ maxLen) (h2:2 ≤ cut.size) (h3:cut.size < 4294967281) (h4:cut.data.toList.all (fun b=>decide (b.toNat < 128))=true) (hg :∀c:UInt8,cut.data.toList.contains c=goodC c) :
  ∃t,trimC s cut=some t∧(t.toList == (ByteArray.mk (List.toArray List.nil)).toList)=s.toList.all goodC:=by
 have hm:maxLen=9223372036854775807:=rfl
 unfold trimC
 rw [if_pos ⟨by omega,h2,h3,h4⟩]
 refine ⟨_,rfl,?_⟩
 rw [Bool.eq_iff_iff,beq_iff_eq,mk_toList,mk_toList]
 have h5:=trimS_nil s.data.toList cut.data.toList
 have h6:s.data.toList.all (cut.data.toList.contains ·)=s.toList.all goodC:=by
  rw [ByteArray.toList_eq]
  congr 1
  funext c
  exact hg c
 rw [h6] at h5
 exact h5
theorem member_Named_eq {s:ByteArray} (h:s.size ≤ maxLen):member_Named s=some (nameB s):=by
 have hm:maxLen=9223372036854775807:=rfl
 unfold member_Named
 generalize hc:(ByteArray.mk (List.toArray (List.cons 97 (List.cons 98 _))))=cut
 obtain ⟨t,h1,h2⟩:=trimC_nil (s:=s) (cut:=cut) h (by rw [← hc];decide) (by rw [← hc];decide) (by rw [← hc];decide +kernel) (by
  intro c
  have hb :∀n:Fin 256,cut.data.toList.contains (UInt8.ofNat n.val)=goodN n.val:=by rw [← hc];decide +kernel
  have:=hb ⟨c.toNat,c.toNat_lt⟩
  simp only [UInt8.ofNat_toNat] at this
  exact this)
 rw [h1,some_bind',joinP_def]
 have hw:member_within (s.size:Int) 1 32=some (decide (1 ≤ s.size) && decide (s.size ≤ 32)):=by
  unfold member_within
  rw [joinP_def]
  by_cases h1:1 ≤ s.size
  ·rw [if_pos (by simp;omega)];simp [h1];omega
  ·rw [if_neg (by simp;omega)];simp [h1]
 rw [hw,some_bind',h2]
 unfold nameB
 cases decide (1 ≤ s.size) && decide (s.size ≤ 32)<;>simp
def numB (n:Int):Bool:=decide (1 ≤ n) && decide (n ≤ 4294967295)
theorem aspath_Number_eq (n:Int):aspath_Number n=some (numB n):=by
 unfold aspath_Number numB
 rw [joinP_def]
 by_cases h:1 ≤ n
 ·rw [if_pos (by simpa using h)];simp [h]
 ·rw [if_neg (by simpa using h)];simp [h]
def setB (s:Set):Bool:=nameB s.Name && decide (s.ASNs.length ≤ 64) && decide (s.Sets.length ≤ 64) && s.ASNs.all numB && s.Sets.all nameB
def SetSz (s:Set):Prop:=s.Name.size ≤ maxLen∧∀x ∈ s.Sets,x.size ≤ maxLen
theorem irr_set_eq {s:Set} (h:SetSz s):irr_set s=some (setB s):=by
 have c1:slices_ContainsFunc_int_int__irr_set_1 s.ASNs=some (s.ASNs.any fun n=>!numB n):=by
  unfold slices_ContainsFunc_int_int__irr_set_1 slices_IndexFunc_int_int__irr_set_1
  exact contR fun n _=>by unfold irr_set_1;rw [aspath_Number_eq,some_bind']
 have c2:slices_ContainsFunc_string_string__irr_set_2 s.Sets=some (s.Sets.any fun n=>!nameB n):=by
  unfold slices_ContainsFunc_string_string__irr_set_2 slices_IndexFunc_string_string__irr_set_2
  exact contR fun n hn=>by unfold irr_set_2;rw [member_Named_eq (h.2 n hn),some_bind']
 unfold irr_set
 rw [joinP_def,member_Named_eq h.1,some_bind',c1,c2]
 simp only [some_bind',cond_true]
 unfold setB
 have e1:(s.ASNs.any fun n=>!numB n)=!s.ASNs.all numB:=by rw [List.not_all_eq_any_not]
 have e2:(s.Sets.any fun n=>!nameB n)=!s.Sets.all nameB:=by rw [List.not_all_eq_any_not]
 rw [e1,e2]
 have l1 :∀n:Nat,decide ((n:Int) ≤ 64)=decide (n ≤ 64):=fun n=>by rw [decide_eq_decide];omega
 rw [l1,l1]
 cases nameB s.Name<;>cases decide (s.ASNs.length ≤ 64)<;>cases decide (s.Sets.length ≤ 64)<;>cases s.ASNs.all numB<;>cases s.Sets.all nameB<;>rfl
end Go.AX.Q20
end
section
namespace Go.AX.Q20
open Go Go.AX
set_option maxRecDepth 8000
theorem addr_Valid_eq (a:Addr):addr_Valid a=some a.ok:=ref01_Valid_eq a
def goodB (p:Prefix):Bool:=p.Addr.ok && decide (0 ≤ p.Len) && decide (p.Len ≤ p.Addr.w) && Addr.eqd (p.Addr.cut p.Len.toNat) p.Addr
theorem goodB_iff (p:Prefix):goodB p=true ↔ goodP p:=by
 unfold goodB goodP
 simp only [Bool.and_eq_true,decide_eq_true_eq,Addr.eqd_iff,and_assoc]
theorem ref02_Valid_eq (p:Prefix):ref02_Valid p=some (goodB p):=by
 obtain ⟨b,h1,h2⟩:=ref02_Valid_tt p
 rw [h1]
 congr 1
 rw [Bool.eq_iff_iff,h2,goodB_iff]
theorem prefix_Valid_eq (p:Prefix):prefix_Valid p=some (goodB p):=by
 have hw:prefix_width p.Addr=some (p.Addr.w:Int):=by unfold prefix_width Addr.w;split<;>rfl
 unfold prefix_Valid goodB
 rw [joinP_def,addr_Valid_eq,some_bind',hw]
 simp only [some_bind',cond_true]
 cases p.Addr.ok
 ·simp
 by_cases h0:0 ≤ p.Len
 ·by_cases h1:p.Len ≤ p.Addr.w
  ·obtain ⟨k,hk⟩ :∃k:Nat,p.Len=k:=⟨p.Len.toNat,by omega⟩
   have hf:=prefix_first_eq p.Addr (n:=k) (by omega)
   rw [← hk] at hf
   rw [hf,hk]
   simp only [some_bind',Int.toNat_natCast,ge_iff_le]
   rw [if_pos True.intro,if_pos (by simp),if_pos (by simp;omega)]
   have h2:decide ((0:Int) ≤ (k:Int))=true:=by simp
   have h3:decide ((k:Int) ≤ (p.Addr.w:Int))=true:=by simp;omega
   rw [h2,h3];simp
  ·simp [h0,h1]
 ·simp [h0]
def objB (o:Object):Bool:=goodB o.Prefix && decide (o.Prefix.Len ≤ o.Max) && decide (o.Max ≤ o.Prefix.Addr.w) && numB o.ASN
theorem ref20_ValidObject_eq (o:Object):ref20_ValidObject o=some (objB o):=by
 unfold ref20_ValidObject objB
 rw [joinP_ite,joinP_def,ref02_Valid_eq,some_bind']
 have hw:(if o.Prefix.Addr.V6=true then (128:Int) else 32)=o.Prefix.Addr.w:=by unfold Addr.w;split<;>rfl
 rw [hw]
 unfold numB
 simp only [cond_true,ge_iff_le]
 cases goodB o.Prefix<;>cases decide (o.Prefix.Len ≤ o.Max)<;>cases decide (o.Max ≤ (o.Prefix.Addr.w:Int))<;>cases decide (1 ≤ o.ASN)<;>cases decide (o.ASN ≤ 4294967295)<;>rfl
def setsB:List ByteArray→List Set→Bool
 | _,[]=>true
 | seen,x::t=>!decide (x.Name ∈ seen) && setB x && setsB (x.Name::seen) t
def regB (r:Registry):Bool:=setsB [] r.Sets && r.Objects.all objB && decide (r.Sets.length ≤ 64) && decide (r.Objects.length ≤ 512)
def Seen (m:List (ByteArray×Bool)) (seen:List ByteArray):Prop:=∀n,(mget m n).getD false=decide (n ∈ seen)
theorem Seen.nil:Seen [] []:=fun n=>by simp [mget]
theorem Seen.put {m:List (ByteArray×Bool)} {seen:List ByteArray} (h:Seen m seen) (x:ByteArray):Seen (mset m x true) (x::seen):=by
 intro n
 rw [mget_mset]
 by_cases hn:n=x
 ·subst hn;simp
 ·rw [if_neg (by simpa using hn),h n];simp [hn]
theorem tail_eq (a b:Nat):joinP (τ:=Bool) (fun k=>if (decide ((a:Int) ≤ 64)) then k (cond true (decide ((b:Int) ≤ 512)) false) else k false) (fun v=>some v)=some (decide (a ≤ 64) && decide (b ≤ 512)):=by
 rw [joinP_def]
 by_cases h:a ≤ 64
 ·rw [if_pos (by simp;omega)];simp [h];omega
 ·rw [if_neg (by simp;omega)];simp [h]
theorem setsR {body:(List (ByteArray×Bool)→Option Bool)→Set→Nat→List (ByteArray×Bool)→Option Bool} {K:Option Bool} :
  ∀{l:List Set} {i:Nat} {m:List (ByteArray×Bool)} {seen:List ByteArray},(∀next x i m,x ∈ l→body next x i m=cond (!((mget m x.Name).getD false) && setB x) (next (mset m x.Name true)) (some false))→Seen m seen→
  forR (fun _=>K) body l i m=cond (setsB seen l) K (some false)
 | [],_,_,_,_,_=>rfl
 | x::t,i,m,seen,hb,hs=>by
  show body (fun s=>forR (fun _=>K) body t (i + 1) s) x i m=_
  rw [hb _ x i m (by simp),hs x.Name,setsB]
  cases hc:(!decide (x.Name ∈ seen) && setB x)
  ·rfl
  ·rw [Bool.true_and]
   exact setsR (fun next y j m hy=>hb next y j m (List.mem_cons_of_mem _ hy)) (hs.put _)
theorem irr_Valid_eq {r:Registry} (h :∀s ∈ r.Sets,SetSz s):irr_Valid r=some (regB r):=by
 unfold irr_Valid
 rw [joinP_def,setsR (seen:=[]) (K:=joinP _ _) ?_ Seen.nil,joinP_def,allR (g:=objB) (r0:=some false) ?_,tail_eq]
 ·unfold regB
  cases setsB [] r.Sets<;>cases r.Objects.all objB<;>simp
 ·intro next x i _
  have hw:irr_width x.Prefix=some (x.Prefix.Addr.w:Int):=by unfold irr_width Addr.w;split<;>rfl
  rw [joinP_def,prefix_Valid_eq,some_bind',hw,aspath_Number_eq]
  simp only [some_bind',cond_false,gt_iff_lt]
  unfold objB
  have e1:decide (x.Max < x.Prefix.Len)=!decide (x.Prefix.Len ≤ x.Max):=by
   rw [Bool.eq_iff_iff];simp
  have e2:decide ((x.Prefix.Addr.w:Int) < x.Max)=!decide (x.Max ≤ (x.Prefix.Addr.w:Int)):=by
   rw [Bool.eq_iff_iff];simp
  rw [e1,e2]
  cases goodB x.Prefix<;>cases decide (x.Prefix.Len ≤ x.Max)<;>cases decide (x.Max ≤ (x.Prefix.Addr.w:Int))<;>cases numB x.ASN<;>rfl
 ·intro next x i m hx
  rw [joinP_def,irr_set_eq (h x hx)]
  simp only [some_bind',cond_false]
  cases (mget m x.Name).getD false<;>cases setB x<;>rfl
theorem ref20_Valid_eq {r:Registry} (h :∀s ∈ r.Sets,SetSz s):ref20_Valid r=some (regB r):=by
 unfold ref20_Valid
 rw [joinP_def,setsR (seen:=[]) (K:=joinP _ _) ?_ Seen.nil,joinP_def,allR (g:=objB) (r0:=some false) ?_,tail_eq]
 ·unfold regB
  cases setsB [] r.Sets<;>cases r.Objects.all objB<;>simp
 ·intro next x i _
  rw [ref20_ValidObject_eq,some_bind']
  cases objB x<;>rfl
 ·intro next x i m hx
  obtain ⟨h1,h2⟩:=h x hx
  rw [joinP_def,joinP_def,ref08_Name_eq h1]
  simp only [some_bind',cond_false]
  have l1 :∀n:Nat,decide ((n:Int) > 64)=!decide (n ≤ 64):=fun n=>by rw [Bool.eq_iff_iff];simp;omega
  rw [l1,l1]
  have ha :∀K:Unit→Option Bool,joinP (τ:=Unit) (fun k11=>forR (σ:=Unit) (fun _=>k11 ()) (fun next12 x13 i14 _=>
       joinP (τ:=Bool) (fun k15=>
        if (decide (x13 < 1)) then
         k15 true
        else
         k15 (decide (x13 > 4294967295))
       ) fun v16=>
       if v16 then
        some false
       else
        next12 ()) x.ASNs 0 ()) K=cond (x.ASNs.all numB) (K ()) (some false):=by
   intro K
   rw [joinP_def]
   refine allR fun next n i _=>?_
   rw [joinP_ite]
   unfold numB
   by_cases g1:n < 1
   ·have:¬ 1 ≤ n:=by omega
    simp [g1,this]
   ·by_cases g2:n > 4294967295
    ·have:¬ n ≤ 4294967295:=by omega
     simp [g1,g2,this]
    ·have g3:1 ≤ n:=by omega
     have g4:n ≤ 4294967295:=by omega
     simp [g1,g2,g3,g4]
  have hs :∀K:Unit→Option Bool,joinP (τ:=Unit) (fun k17=>forR (σ:=Unit) (fun _=>k17 ()) (fun next18 x19 i20 _=>
       Option.bind (ref08_Name x19) fun v21=>
       if (!v21) then
        some false
       else
        next18 ()) x.Sets 0 ()) K=cond (x.Sets.all nameB) (K ()) (some false):=by
   intro K
   rw [joinP_def]
   refine allR fun next n i hn=>?_
   rw [ref08_Name_eq (h2 n hn),some_bind']
   cases nameB n<;>rfl
  rw [ha,hs]
  unfold setB
  cases nameB x.Name<;>cases (mget m x.Name).getD false<;>cases decide (x.ASNs.length ≤ 64)<;>cases decide (x.Sets.length ≤ 64)<;>cases x.ASNs.all numB<;>cases x.Sets.all nameB<;>rfl
end Go.AX.Q20
end
section
namespace Go.AX.Q20
open Go Go.AX
set_option maxRecDepth 8000
theorem part_pre {α : Type} {l : List α} {n : Nat} (h : n ≤ l.length) : part l 0 (n : Int) = some (l.take n) := by
  have := part_nat (l := l) (a := 0) (b := n) (Nat.zero_le _) h
  simpa using this
theorem part_suf {α : Type} {l : List α} {n : Nat} (h : n ≤ l.length) : part l (n : Int) (l.length : Int) = some (l.drop n) := by
  have := part_nat (l := l) (a := n) (b := l.length) h (Nat.le_refl _)
  rw [this]
  congr 1
  rw [List.take_of_length_le]
  simp
theorem ins_tail {α : Type} {b : Nat} {l : List α} {x : α} [Decidable (x ∈ l)] {p : α → Bool} {n : Nat} (hb : Nat.ble b 65536 = true) (hl : l.length + 1 ≤ 1000000000) (hn : n = (l.takeWhile p).length) (c : Bool) (hc : c = decide (x ∈ l)) :
    (if c = true then some l else Option.bind (part l 0 (n : Int)) fun v11 => Option.bind (apnd (α := α) b [] v11) fun _ => Option.bind (apnd (α := α) b v11 ([x] : List α)) fun v12 => Option.bind (part l (n : Int) (l.length : Int)) fun v13 => Option.bind (apnd (α := α) b v12 v13) fun v14 => some v14) =
      some (if x ∈ l then l else l.takeWhile p ++ x :: l.dropWhile p) := by
  have ht := takeWhile_len_le p l
  obtain ⟨h1, h2⟩ := takeWhile_take p l
  by_cases hx : x ∈ l
  · rw [hc, if_pos (by simpa using hx), if_pos hx]
  · rw [hc, if_neg (by simpa using hx), if_neg hx, part_pre (by omega), some_bind', apnd_some hb (by simp; omega), some_bind', apnd_some hb (by simp; omega), some_bind', part_suf (by omega), some_bind', apnd_some hb (by simp; omega), some_bind', hn, h1, h2]
    simp
theorem ins_here {α : Type} {lt : α → α → Bool} (htr : ∀ a b c, lt a b = true → lt b c = true → lt a c = true) (hirr : ∀ a, lt a a = false) {l : List α} {x : α} (hs : l.Pairwise fun a b => lt a b = true) :
    x ∈ l ↔ l[(l.takeWhile (lt · x)).length]? = some x := by
  constructor
  · intro hx
    rw [← List.takeWhile_append_dropWhile (p := (lt · x)) (l := l), List.mem_append] at hx
    rcases hx with hx | hx
    · have := takeWhile_all (lt · x) hx
      rw [hirr] at this
      simp at this
    · have h2 := (takeWhile_take (lt · x) l).2
      cases hd : l.dropWhile (lt · x) with
      | nil => rw [hd] at hx; simp at hx
      | cons y t =>
        have hy : lt y x = false := by
          have := List.head?_dropWhile_not (lt · x) l
          rw [hd] at this
          simpa using this
        have hp : (y :: t).Pairwise fun a b => lt a b = true := by
          rw [← hd]
          exact hs.sublist (List.dropWhile_sublist _)
        rw [hd] at hx
        have hxy : x = y := by
          rcases List.mem_cons.1 hx with e | e
          · exact e
          · have := (List.pairwise_cons.1 hp).1 x e
            rw [hy] at this; simp at this
        have h3 : (l.drop (l.takeWhile (lt · x)).length)[0]? = some x := by rw [h2, hd, hxy]; rfl
        rw [List.getElem?_drop] at h3
        simpa using h3
  · intro h
    exact List.mem_of_getElem? h
def ltI (a b : Int) : Bool := decide (a < b)
theorem ltI_tr (a b c : Int) (h1 : ltI a b = true) (h2 : ltI b c = true) : ltI a c = true := by simp [ltI] at *; omega
theorem ltI_irr (a : Int) : ltI a a = false := by simp [ltI]
theorem ltI_tot (a b : Int) (h : ltI a b = false) : a = b ∨ ltI b a = true := by simp [ltI] at *; omega
theorem ref20_insert_eq {l : List Int} {n : Int} (hs : l.Pairwise fun a b => ltI a b = true) (hl : l.length + 1 ≤ 1000000000) : ref20_insert l n = some (if n ∈ l then l else insS ltI l n) := by
  have hpos := takeWhile_len_le (ltI · n) l
  unfold ref20_insert
  rw [posR (p := (ltI · n)) (fun x k4 => k4 (cond true (decide (x < n)) false)) (by omega) (fun x _ k => rfl), joinP_def]
  have hh := ins_here ltI_tr ltI_irr (x := n) hs
  have htail := ins_tail (b := 8) (l := l) (x := n) (p := (ltI · n)) (by decide) hl rfl
  by_cases hk : (l.takeWhile (ltI · n)).length < l.length
  · rw [if_pos (by simpa using hk), geti_nat hk, some_bind']
    refine htail _ ?_
    rw [Bool.eq_iff_iff, decide_eq_true_eq, hh, List.getElem?_eq_getElem hk]
    simp
  · rw [if_neg (by simpa using hk)]
    refine htail _ ?_
    rw [Bool.eq_iff_iff, decide_eq_true_eq, hh, List.getElem?_eq_none (by omega)]
    simp
def ltN (a b : ByteArray) : Bool := Op.bytesLess a.toList b.toList
theorem ltN_iff (a b : ByteArray) : ltN a b = true ↔ a.toList < b.toList := by unfold ltN; rw [Go.Proofs.bytesLess_eq]; simp
theorem ba_ext {a b : ByteArray} (h : a.toList = b.toList) : a = b := by
  have := baEq a b
  rw [h] at this
  simpa using this.symm
theorem ltN_tr (a b c : ByteArray) (h1 : ltN a b = true) (h2 : ltN b c = true) : ltN a c = true := by
  rw [ltN_iff] at *
  exact List.lt_trans h1 h2
theorem ltN_irr (a : ByteArray) : ltN a a = false := by
  cases h : ltN a a
  · rfl
  · rw [ltN_iff] at h
    exact absurd h (List.lt_irrefl _)
theorem ltN_tot (a b : ByteArray) (h : ltN a b = false) : a = b ∨ ltN b a = true := by
  have h1 : ¬ a.toList < b.toList := fun q => by rw [← ltN_iff] at q; rw [h] at q; simp at q
  rw [ltN_iff]
  have h2 : b.toList ≤ a.toList := List.not_lt.1 h1
  rcases List.le_iff_lt_or_eq.1 h2 with h3 | h3
  · exact .inr h3
  · exact .inl (ba_ext h3.symm)
theorem ref20_insertName_eq {l : List ByteArray} {n : ByteArray} (hs : l.Pairwise fun a b => ltN a b = true) (hl : l.length + 1 ≤ 1000000000) : ref20_insertName l n = some (if n ∈ l then l else insS ltN l n) := by
  have hpos := takeWhile_len_le (ltN · n) l
  unfold ref20_insertName
  rw [posR (p := (ltN · n)) (fun x k4 => k4 (cond true (Op.bytesLess x.toList n.toList) false)) (by omega) (fun x _ k => rfl), joinP_def]
  have hh := ins_here ltN_tr ltN_irr (x := n) hs
  have htail := ins_tail (b := 16) (l := l) (x := n) (p := (ltN · n)) (by decide) hl rfl
  by_cases hk : (l.takeWhile (ltN · n)).length < l.length
  · rw [if_pos (by simpa using hk), geti_nat hk, some_bind']
    refine htail _ ?_
    rw [Bool.eq_iff_iff, decide_eq_true_eq, hh, List.getElem?_eq_getElem hk]
    simp only [cond_true, baEq, decide_eq_true_eq, Option.some.injEq]
  · rw [if_neg (by simpa using hk)]
    refine htail _ ?_
    rw [Bool.eq_iff_iff, decide_eq_true_eq, hh, List.getElem?_eq_none (by omega)]
    simp
def findS (L : List Set) (n : ByteArray) : Option Set := L.find? fun s => decide (s.Name = n)
def noSet : Set := ⟨ByteArray.empty, [], []⟩
theorem ref20_find_eq (r : Registry) (n : ByteArray) : ref20_find r n = some ((findS r.Sets n).getD noSet, (findS r.Sets n).isSome) := by
  unfold ref20_find findS
  rw [joinP_def]
  have key : ∀ (l : List Set) (i : Nat), forR (fun _ => some ((⟨ByteArray.empty, [], []⟩ : Set), false)) (fun next2 x3 i4 _ => if (x3.Name.toList == n.toList) then some (x3, true) else next2 ()) l i () = some ((l.find? fun s => decide (s.Name = n)).getD noSet, (l.find? fun s => decide (s.Name = n)).isSome) := by
    intro l
    induction l with
    | nil => intro i; rfl
    | cons x t ih =>
      intro i
      show (if (x.Name.toList == n.toList) = true then some (x, true) else forR _ _ t (i + 1) ()) = _
      rw [ih, baEq, List.find?_cons]
      by_cases h : x.Name = n <;> simp [h]
  exact key r.Sets 0
theorem findS_some {L : List Set} {n : ByteArray} {s : Set} (h : findS L n = some s) : s ∈ L ∧ s.Name = n := by
  unfold findS at h
  exact ⟨List.mem_of_find?_eq_some h, by simpa using List.find?_some h⟩
theorem findS_none {L : List Set} {n : ByteArray} (h : findS L n = none) : ∀ s ∈ L, s.Name ≠ n := by
  unfold findS at h
  intro s hs
  simpa using List.find?_eq_none.1 h s hs
def Uni (L : List Set) : Prop := (L.map (·.Name)).Nodup
theorem Uni.eq {L : List Set} (h : Uni L) {s t : Set} (hs : s ∈ L) (ht : t ∈ L) (e : s.Name = t.Name) : s = t := by
  induction L with
  | nil => simp at hs
  | cons x L ih =>
    unfold Uni at h
    obtain ⟨h1, h2⟩ := List.nodup_cons.1 h
    rcases List.mem_cons.1 hs with rfl | hs' <;> rcases List.mem_cons.1 ht with rfl | ht'
    · rfl
    · exact absurd (List.mem_map.2 ⟨t, ht', e.symm⟩) h1
    · exact absurd (List.mem_map.2 ⟨s, hs', e⟩) h1
    · exact ih h2 hs' ht'
theorem Uni.find {L : List Set} (h : Uni L) {s : Set} (hs : s ∈ L) : findS L s.Name = some s := by
  cases hf : findS L s.Name with
  | none => exact absurd rfl (findS_none hf s hs)
  | some t =>
    obtain ⟨h1, h2⟩ := findS_some hf
    rw [h.eq h1 hs h2]
inductive RN (L : List Set) (n : ByteArray) : ByteArray → Prop
  | base : RN L n n
  | step {s : Set} {y : ByteArray} (hs : s ∈ L) (h : RN L n s.Name) (hy : y ∈ s.Sets) : RN L n y
structure Exp (L : List Set) (n : ByteArray) (la : List Int) (ms : List ByteArray) : Prop where
  pa : la.Pairwise fun a b => ltI a b = true
  am : ∀ a, a ∈ la ↔ ∃ s ∈ L, RN L n s.Name ∧ a ∈ s.ASNs
  pm : ms.Pairwise fun a b => ltN a b = true
  mm : ∀ x, x ∈ ms ↔ RN L n x ∧ ∀ s ∈ L, s.Name ≠ x
theorem Exp.unique {L : List Set} {n : ByteArray} {a b : List Int} {x y : List ByteArray} (h : Exp L n a x) (k : Exp L n b y) : a = b ∧ x = y :=
  ⟨sorted_ext (lt := fun a b => ltI a b = true) (fun a => by simp [ltI_irr]) ltI_tr h.pa k.pa fun q => (h.am q).trans (k.am q).symm,
   sorted_ext (lt := fun a b => ltN a b = true) (fun a => by simp [ltN_irr]) ltN_tr h.pm k.pm fun q => (h.mm q).trans (k.mm q).symm⟩
structure Mod (L : List Set) : Prop where
  n : L.length ≤ 64
  u : Uni L
  a : ∀ s ∈ L, s.ASNs.length ≤ 64
  s : ∀ s ∈ L, s.Sets.length ≤ 64
def allN (L : List Set) (n : ByteArray) : List ByteArray := n :: L.flatMap (·.Sets)
theorem allN_len {L : List Set} (h : Mod L) (n : ByteArray) : (allN L n).length ≤ 4097 := by
  have key : ∀ (l : List Set), (∀ s ∈ l, s.Sets.length ≤ 64) → (l.flatMap (·.Sets)).length ≤ 64 * l.length := by
    intro l
    induction l with
    | nil => intro _; simp
    | cons x t ih =>
      intro hx
      have := ih fun s hs => hx s (List.mem_cons_of_mem _ hs)
      have := hx x (by simp)
      simp only [List.flatMap_cons, List.length_append, List.length_cons]
      omega
  have h1 := key L h.s
  have h2 := h.n
  unfold allN
  simp only [List.length_cons]
  omega
theorem allN_mem {L : List Set} {n x : ByteArray} (h : RN L n x) : x ∈ allN L n := by
  cases h with
  | base => unfold allN; simp
  | step hs _ hy =>
    unfold allN
    exact List.mem_cons_of_mem _ (List.mem_flatMap.2 ⟨_, hs, hy⟩)
end Go.AX.Q20
end
section
namespace Go.AX.Q20
open Go Go.AX
set_option maxRecDepth 8000
abbrev keys (m:List (ByteArray×Bool)):List ByteArray:=m.map (·.1)
theorem seen_get {m:List (ByteArray×Bool)} (h :∀p ∈ m,p.2=true) (x:ByteArray):(mget m x).getD false=decide (x ∈ keys m):=by
 cases hg:mget m x with
 | none=>
  have:x ∉ keys m:=fun hx=>by
   obtain ⟨v,hv⟩:=mget_keys.2 hx
   rw [hg] at hv;simp at hv
  simp [this]
 | some v=>
  have h1:=mget_some hg
  have h2:=h _ h1
  have:x ∈ keys m:=List.mem_map.2 ⟨_,h1,rfl⟩
  simp only at h2
  simp [h2,this]
theorem mset_true {m:List (ByteArray×Bool)} (h :∀p ∈ m,p.2=true) (x:ByteArray) :∀p ∈ mset m x true,p.2=true:=by
 induction m with
 | nil=>intro p hp;simp [mset] at hp;rw [hp]
 | cons q m ih=>
  intro p hp
  unfold mset at hp
  split at hp
  ·rcases List.mem_cons.1 hp with rfl | hp
   ·rfl
   ·exact h p (List.mem_cons_of_mem _ hp)
  ·rcases List.mem_cons.1 hp with rfl | hp
   ·exact h _ (by simp)
   ·exact ih (fun p hp=>h p (List.mem_cons_of_mem _ hp)) p hp
theorem mset_len_new {m:List (ByteArray×Bool)} {x:ByteArray} (h:x ∉ keys m) (v:Bool):(mset m x v).length=m.length + 1:=by
 have:=congrArg List.length (mset_keys m x v)
 rw [if_neg h] at this
 simpa using this
structure RI (L:List Set) (n:ByteArray) (a:List Int) (m:List ByteArray) (sn:List (ByteArray×Bool)) (td:List ByteArray):Prop where
 pa:a.Pairwise fun a b=>ltI a b=true
 pm:m.Pairwise fun a b=>ltN a b=true
 nd:(keys sn).Nodup
 tr :∀p ∈ sn,p.2=true
 rn :∀x ∈ keys sn,RN L n x
 tk :∀x ∈ td,x ∈ keys sn
 sa :∀x ∈ a,∃s ∈ L,RN L n s.Name∧x ∈ s.ASNs
 sm :∀x ∈ m,RN L n x∧∀s ∈ L,s.Name ≠ x
 pr :∀x ∈ keys sn,x ∈ td ∨ ((∀s ∈ L,s.Name=x→(∀y ∈ s.ASNs,y ∈ a)∧∀y ∈ s.Sets,y ∈ keys sn)∧((∀s ∈ L,s.Name ≠ x)→x ∈ m))
 n0:n ∈ keys sn
 la:a.length + 64 * (td.length + (4097 - sn.length)) ≤ 64 * 4098
 lm:m.length + (td.length + (4097 - sn.length)) ≤ 4098
theorem keys_len {L:List Set} (h:Mod L) {n:ByteArray} {sn:List (ByteArray×Bool)} (nd:(keys sn).Nodup) (rn :∀x ∈ keys sn,RN L n x):sn.length ≤ 4097:=by
 have h1:=nodup_len nd fun x hx=>allN_mem (rn x hx)
 have h2:=allN_len h n
 simp only [keys,List.length_map] at h1
 omega
theorem RI.fin {L:List Set} {n:ByteArray} {a:List Int} {m:List ByteArray} {sn:List (ByteArray×Bool)} (h:RI L n a m sn []):Exp L n a m:=by
 have hall :∀x,RN L n x→x ∈ keys sn:=by
  intro x hx
  induction hx with
  | base=>exact h.n0
  | step hs _ hy ih=>
   rcases h.pr _ ih with hp | hp
   ·simp at hp
   ·exact (hp.1 _ hs rfl).2 _ hy
 refine ⟨h.pa,fun x=>⟨h.sa x,fun ⟨s,hs,h1,h2⟩=>?_⟩,h.pm,fun x=>⟨h.sm x,fun ⟨h1,h2⟩=>?_⟩⟩
 ·rcases h.pr _ (hall _ h1) with hp | hp
  ·simp at hp
  ·exact (hp.1 s hs rfl).1 x h2
 ·rcases h.pr _ (hall _ h1) with hp | hp
  ·simp at hp
  ·exact hp.2 h2
theorem insAll {a:List Int} {l:List Int} {ρ:Type} {Q:ρ→Prop} {k:List Int→Option ρ} (ha:a.Pairwise fun a b=>ltI a b=true) (hl:a.length + l.length ≤ 1000000)
  (hk :∀v,v.Pairwise (fun a b=>ltI a b=true)→(∀y,y ∈ v ↔ y ∈ a ∨ y ∈ l)→v.length ≤ a.length + l.length→Ok (k v) Q) :
  Ok (forR (fun v=>k v) (fun next x _ v=>Option.bind (ref20_insert v x) fun v'=>next v') l 0 a) Q:=by
 refine .forX (fun i v=>v.Pairwise (fun a b=>ltI a b=true)∧(∀y,y ∈ v ↔ y ∈ a ∨ y ∈ l.take i)∧v.length ≤ a.length + i) ⟨ha,by simp,by simp⟩ (fun v ⟨h1,h2,h3⟩=>hk v h1 (by simpa using h2) h3) ?_
 rintro next x i v hx ⟨h1,h2,h3⟩ hn
 have hi:=(List.getElem?_eq_some_iff.1 hx).1
 rw [ref20_insert_eq h1 (by omega),some_bind']
 refine hn _ ⟨?_,fun y=>?_,?_⟩
 ·split
  ·exact h1
  ·exact insS_sorted ltI_tr ltI_tot h1 ‹_›
 ·have ht:y ∈ l.take (i + 1) ↔ y ∈ l.take i ∨ y=x:=by
   rw [List.take_add_one,hx];simp
  rw [ht]
  split
  ·rename_i hxv
   rw [h2]
   constructor
   ·rintro (h | h)
    ·exact .inl h
    ·exact .inr (.inl h)
   ·rintro (h | h | rfl)
    ·exact .inl h
    ·exact .inr h
    ·exact (h2 _).1 hxv
  ·rw [insS_mem,h2,or_assoc]
 ·split
  ·omega
  ·rw [insS_len];omega
theorem ref20_step {r:Registry} {n:ByteArray} (hm:Mod r.Sets) {a:List Int} {m:List ByteArray} {sn:List (ByteArray×Bool)} {x:ByteArray} {td:List ByteArray} (h:RI r.Sets n a m sn (x::td)) {ρ:Type} {Q:ρ→Prop}
  {next:List Int×List ByteArray×List (ByteArray×Bool)×List ByteArray→Option ρ}
  (hn :∀a' m' sn' td',RI r.Sets n a' m' sn' td'→td'.length + (4097 - sn'.length) < (x::td).length + (4097 - sn.length)→Ok (next (a',m',sn',td')) Q) :
  Ok (joinP (τ:=(List Int)×(List ByteArray)×(List (ByteArray×Bool))×(List ByteArray)) (fun k10=>
       Option.bind (geti (x::td) 0) fun v11=>
       Option.bind (ref20_find r v11) fun (v12,v13)=>
       joinP (τ:=(List ByteArray)) (fun k14=>
        if (!v13) then
         Option.bind (geti (x::td) 0) fun v15=>
         Option.bind (ref20_insertName m v15) fun v16=>
         k14 v16
        else
         k14 m
       ) fun v17=>
       Option.bind (part (x::td) 1 ((x::td).length:Int)) fun v18=>
       joinP (τ:=(List Int)) (fun k19=>
        forR (σ:=(List Int)) (fun v20=>
         k19 v20
        ) (fun next21 x22 i23 v20=>
         Option.bind (ref20_insert v20 x22) fun v24=>
         next21 v24
        ) v12.ASNs 0 a
       ) fun v25=>
       joinP (τ:=(List (ByteArray×Bool))×(List ByteArray)) (fun k26=>
        forR (σ:=(List (ByteArray×Bool))×(List ByteArray)) (fun (v27,v28)=>
         k26 (v27,v28)
        ) (fun next29 x30 i31 (v27,v28)=>
         Option.bind (some (Option.getD (mget v27 x30) false)) fun v32=>
         joinP (τ:=(List (ByteArray×Bool))×(List ByteArray)) (fun k33=>
          if (!v32) then
           Option.bind (apnd (α:=ByteArray) 16 v28 ([x30]:List ByteArray)) fun v34=>
           k33 ((mset v27 x30 true),v34)
          else
           k33 (v27,v28)
         ) fun (v35,v36)=>
         next29 (v35,v36)
        ) v12.Sets 0 (sn,v18)
       ) fun (v37,v38)=>
       k10 (v25,v17,v37,v38)
      ) fun (v39,v40,v41,v42)=>
      next (v39,v40,v41,v42)) Q:=by
 have hkl:=keys_len hm h.nd h.rn
 have hla:=h.la
 have hlm:=h.lm
 simp only [List.length_cons] at hla hlm hn
 have hx:=h.tk x (by simp)
 have hxr:=h.rn x hx
 rw [joinP_def]
 have g0:geti (x::td) 0=some x:=geti_nat (l:=x::td) (i:=0) (by simp)
 have p1:part (x::td) 1 ((x::td).length:Int)=some td:=by
  have:=part_suf (l:=x::td) (n:=1) (by simp)
  simpa using this
 rw [g0,some_bind',ref20_find_eq,some_bind']
 dsimp only
 rw [p1]
 have hmiss :∀K:List ByteArray→Option ρ,(∀m',m'.Pairwise (fun a b=>ltN a b=true)→(∀y,y ∈ m' ↔ y ∈ m ∨ (y=x∧findS r.Sets x=none))→m'.length ≤ m.length + 1→Ok (K m') Q)→
   Ok (joinP (τ:=(List ByteArray)) (fun k14=>if (!(findS r.Sets x).isSome) then Option.bind (some x) fun v15=>Option.bind (ref20_insertName m v15) fun v16=>k14 v16 else k14 m) K) Q:=by
  intro K hK
  rw [joinP_def]
  cases hf:findS r.Sets x with
  | some s=>
   rw [if_neg (by simp)]
   exact hK m h.pm (by simp [hf]) (by omega)
  | none=>
   rw [if_pos (by simp),some_bind',ref20_insertName_eq h.pm (by omega),some_bind']
   refine hK _ ?_ (fun y=>?_) ?_
   ·split
    ·exact h.pm
    ·exact insS_sorted ltN_tr ltN_tot h.pm ‹_›
   ·split
    ·simp only [hf,and_true]
     constructor
     ·exact .inl
     ·rintro (h | rfl)
      ·exact h
      ·assumption
    ·rw [insS_mem];simp [hf]
   ·split
    ·omega
    ·rw [insS_len];omega
 refine hmiss _ fun m' hm1 hm2 hm3=>?_
 rw [some_bind',joinP_def]
 generalize hs:(findS r.Sets x).getD noSet=s
 have hsl:s.ASNs.length ≤ 64∧s.Sets.length ≤ 64:=by
  cases hf:findS r.Sets x with
  | none=>rw [hf] at hs;subst hs;exact ⟨by simp [noSet],by simp [noSet]⟩
  | some s'=>
   rw [hf] at hs
   simp only [Option.getD_some] at hs
   subst hs
   exact ⟨hm.a _ (findS_some hf).1,hm.s _ (findS_some hf).1⟩
 have hss :∀t ∈ r.Sets,t.Name=x→t=s∧findS r.Sets x=some s:=by
  intro t ht he
  have:=hm.u.find ht
  rw [he] at this
  rw [this] at hs
  simp only [Option.getD_some] at hs
  subst hs
  exact ⟨rfl,this⟩
 have hsm :∀y,y ∈ s.ASNs ∨ y ∈ s.ASNs→True:=fun _ _=>trivial
 have hsr:(s.ASNs ≠ [] ∨ s.Sets ≠ [])→s ∈ r.Sets∧s.Name=x:=by
  intro hne
  cases hf:findS r.Sets x with
  | none=>rw [hf] at hs;subst hs;simp [noSet] at hne
  | some s'=>
   rw [hf] at hs
   simp only [Option.getD_some] at hs
   subst hs
   exact findS_some hf
 refine insAll h.pa (by omega) fun a' ha1 ha2 ha3=>?_
 rw [joinP_def]
 refine .forX (fun i (p:List (ByteArray×Bool)×List ByteArray)=>(keys p.1).Nodup∧(∀q ∈ p.1,q.2=true)∧(∀y,y ∈ keys p.1 ↔ y ∈ keys sn ∨ y ∈ s.Sets.take i)∧(∀y ∈ p.2,y ∈ keys p.1)∧(∀y ∈ keys p.1,y ∈ keys sn ∨ y ∈ p.2)∧(∀y ∈ td,y ∈ p.2)∧p.2.length + sn.length=td.length + p.1.length)
  ⟨h.nd,h.tr,by simp,fun y hy=>h.tk y (List.mem_cons_of_mem _ hy),fun y hy=>.inl hy,fun y hy=>hy,rfl⟩ ?_ ?_
 ·rintro ⟨sn',td'⟩ ⟨b1,b2,b3,b4,b5,b6,b7⟩
  simp only [List.take_length] at b1 b2 b3 b4 b5 b6 b7
  have hrn :∀y ∈ keys sn',RN r.Sets n y:=by
   intro y hy
   rcases (b3 y).1 hy with hy | hy
   ·exact h.rn y hy
   ·obtain ⟨q1,q2⟩:=hsr (.inr (fun e=>by rw [e] at hy;simp at hy))
    exact .step q1 (by rw [q2];exact hxr) hy
  have hkl':=keys_len hm b1 hrn
  refine hn a' m' sn' td' ⟨ha1,hm1,b1,b2,hrn,b4,fun y hy=>?_,fun y hy=>?_,fun y hy=>?_,(b3 n).2 (.inl h.n0),by omega,by omega⟩ (by omega)
  ·rcases (ha2 y).1 hy with hy | hy
   ·exact h.sa y hy
   ·obtain ⟨q1,q2⟩:=hsr (.inl (fun e=>by rw [e] at hy;simp at hy))
    exact ⟨s,q1,by rw [q2];exact hxr,hy⟩
  ·rcases (hm2 y).1 hy with hy | ⟨rfl,hf⟩
   ·exact h.sm y hy
   ·exact ⟨hxr,findS_none hf⟩
  ·rcases b5 y hy with hy' | hy'
   ·rcases h.pr y hy' with hp | ⟨p1,p2⟩
    ·rcases List.mem_cons.1 hp with rfl | hp
     ·refine .inr ⟨fun t ht he=>?_,fun hno=>?_⟩
      ·obtain ⟨e1,e2⟩:=hss t ht he
       subst e1
       exact ⟨fun z hz=>(ha2 z).2 (.inr hz),fun z hz=>(b3 z).2 (.inr hz)⟩
      ·refine (hm2 _).2 (.inr ⟨rfl,?_⟩)
       cases hf:findS r.Sets y with
       | none=>rfl
       | some t=>exact absurd (findS_some hf).2 (hno t (findS_some hf).1)
     ·exact .inl (b6 y hp)
    ·refine .inr ⟨fun t ht he=>?_,fun hno=>(hm2 y).2 (.inl (p2 hno))⟩
     obtain ⟨c1,c2⟩:=p1 t ht he
     exact ⟨fun z hz=>(ha2 z).2 (.inl (c1 z hz)),fun z hz=>(b3 z).2 (.inl (c2 z hz))⟩
   ·exact .inl hy'
 ·rintro nx y i ⟨sn',td'⟩ hy ⟨b1,b2,b3,b4,b5,b6,b7⟩ hnx
  simp only at b1 b2 b3 b4 b5 b6 b7
  have hi:=(List.getElem?_eq_some_iff.1 hy).1
  have ht :∀z,z ∈ s.Sets.take (i + 1) ↔ z ∈ s.Sets.take i ∨ z=y:=fun z=>by rw [List.take_add_one,hy];simp
  have hrn :∀z ∈ keys sn',RN r.Sets n z:=by
   intro z hz
   rcases (b3 z).1 hz with hz | hz
   ·exact h.rn z hz
   ·have hz:=List.mem_of_mem_take hz
    obtain ⟨q1,q2⟩:=hsr (.inr (fun e=>by rw [e] at hz;simp at hz))
    exact .step q1 (by rw [q2];exact hxr) hz
  have hkl':=keys_len hm b1 hrn
  simp only [some_bind']
  rw [joinP_def,seen_get b2]
  by_cases hyk:y ∈ keys sn'
  ·rw [decide_eq_true hyk,if_neg (by decide)]
   refine hnx _ ⟨b1,b2,fun z=>?_,b4,b5,b6,b7⟩
   rw [b3,ht]
   constructor
   ·rintro (h | h)
    ·exact .inl h
    ·exact .inr (.inl h)
   ·rintro (h | h | rfl)
    ·exact .inl h
    ·exact .inr h
    ·exact (b3 _).1 hyk
  ·rw [decide_eq_false hyk,if_pos (by decide)]
   refine .bind (Ok.apnd (by decide) (by simp;omega)) fun td2 htd2=>?_
   subst htd2
   refine hnx _ ⟨mset_nodup b1,mset_true b2 y,fun z=>?_,fun z hz=>?_,fun z hz=>?_,fun z hz=>?_,?_⟩
   ·rw [mset_mem,b3,ht,or_assoc]
   ·rw [mset_mem]
    rcases List.mem_append.1 hz with hz | hz
    ·exact .inl (b4 z hz)
    ·exact .inr (by simpa using hz)
   ·rcases mset_mem.1 hz with hz | rfl
    ·exact (b5 z hz).imp id fun h=>List.mem_append.2 (.inl h)
    ·exact .inr (by simp)
   ·exact List.mem_append.2 (.inl (b6 z hz))
   ·simp only
    rw [mset_len_new hyk]
    simp only [List.length_append,List.length_cons,List.length_nil]
    omega
theorem RI.init {L:List Set} (n:ByteArray):RI L n [] [] (mset [] n true) [n]:=by
 refine ⟨.nil,.nil,by simp [mset],by simp [mset],?_,?_,by simp,by simp,?_,by simp [mset],by simp [mset],by simp [mset]⟩
 ·intro x hx
  simp [mset] at hx
  subst hx
  exact .base
 ·intro x hx;simp [mset] at hx ⊢;exact hx
 ·intro x hx
  simp [mset] at hx
  exact .inl (by simp [hx])
theorem ref20_Expand_plain {r:Registry} {n:ByteArray} (hm:Mod r.Sets) (hz :∀s ∈ r.Sets,SetSz s) (hv:regB r=true) :
  Ok (ref20_Expand r n) fun res=>(findS r.Sets n=none∧res=([],[],11)) ∨ (∃s,findS r.Sets n=some s∧res.2.2=0∧Exp r.Sets n res.1 res.2.1):=by
 unfold ref20_Expand
 rw [ref20_Valid_eq hz,hv,some_bind',if_neg (by decide),ref20_find_eq,some_bind']
 dsimp only
 cases hf:findS r.Sets n with
 | none=>exact .ite (fun _=>.ret (.inl ⟨rfl,rfl⟩)) fun h=>absurd rfl h
 | some s=>
  refine .ite (fun h=>absurd h (by simp)) fun _=>?_
  refine .join (fun p:List Int×List ByteArray=>Exp r.Sets n p.1 p.2) (fun k hk=>?_) fun p hp=>.ret (.inr ⟨s,rfl,rfl,hp⟩)
  refine .whileI (fun p:(List Int)×(List ByteArray)×(List (ByteArray×Bool))×(List ByteArray)=>RI r.Sets n p.1 p.2.1 p.2.2.1 p.2.2.2) (fun p=>p.2.2.2.length + (4097 - p.2.2.1.length)) (RI.init n) (lt_fuel (by simp [mset])) ?_
  rintro next ⟨a,m,sn,td⟩ hri hnx
  simp only at hri
  cases td with
  | nil=>
   dsimp only
   rw [if_neg (by simp)]
   exact hk (a,m) hri.fin
  | cons x td=>
   dsimp only
   rw [if_pos (by simp)]
   exact ref20_step hm hri fun a' m' sn' td' h1 h2=>hnx (a',m',sn',td') h1 h2
end Go.AX.Q20
end
section
namespace Go.AX.Q20
open Go Go.AX
set_option maxRecDepth 8000
theorem keysSI_spec {V:Type} {m:List (Int×V)} (h1:(m.map (·.1)).Nodup) (h2 :∀p ∈ m,-9223372036854775808 ≤ p.1∧p.1 ≤ 9223372036854775807) (h3:m.length ≤ 1000000000000) :
  ∃r,keysSI m=some r∧(r.Pairwise fun a b=>ltI a b=true)∧∀x,x ∈ r ↔ x ∈ m.map (·.1):=by
 have ht :∀a b c:Int,decide (a ≤ b)=true→decide (b ≤ c)=true→decide (a ≤ c)=true:=fun a b c h1 h2=>by simp at *;omega
 have hto :∀a b:Int,(decide (a ≤ b) || decide (b ≤ a))=true:=fun a b=>by simp;omega
 unfold keysSI
 rw [if_pos ⟨h1,by simpa using fun a b hab=>h2 (a,b) hab,h3⟩]
 refine ⟨_,rfl,?_,fun x=>(List.mergeSort_perm _ _).mem_iff⟩
 have hp:=List.pairwise_mergeSort ht hto (m.map (·.1))
 have hn:((m.map (·.1)).mergeSort fun x y=>decide (x ≤ y)).Nodup:=(List.mergeSort_perm _ _).nodup_iff.2 h1
 refine (hp.and hn).imp fun {a b} ⟨q1,q2⟩=>?_
 simp [ltI] at q1 ⊢
 omega
theorem keysSS_spec {V:Type} {m:List (ByteArray×V)} (h1:(m.map (·.1)).Nodup) (h2 :∀p ∈ m,p.1.size ≤ maxLen) (h3:m.length ≤ 1000000000000) :
  ∃r,keysSS m=some r∧(r.Pairwise fun a b=>ltN a b=true)∧∀x,x ∈ r ↔ x ∈ m.map (·.1):=by
 have ht :∀a b c:List UInt8,decide (a ≤ b)=true→decide (b ≤ c)=true→decide (a ≤ c)=true:=fun a b c h1 h2=>by
  simp only [decide_eq_true_eq] at *;exact List.le_trans h1 h2
 have hto :∀a b:List UInt8,(decide (a ≤ b) || decide (b ≤ a))=true:=fun a b=>by
  simp only [Bool.or_eq_true,decide_eq_true_eq];exact List.le_total a b
 unfold keysSS
 rw [if_pos ⟨h1,by simpa using fun a b hab=>h2 (a,b) hab,h3⟩]
 have hmk :∀b:ByteArray,(⟨b.data.toList.toArray⟩:ByteArray)=b:=fun b=>by cases b;simp
 have hl2 :∀l:List UInt8,(⟨l.toArray⟩:ByteArray).toList=l:=fun l=>by rw [mk_toList]
 have hp:=List.pairwise_mergeSort ht hto (m.map (·.1.data.toList))
 have hinj:(m.map (·.1.data.toList)).Nodup:=by
  have:m.map (·.1.data.toList)=(m.map (·.1)).map fun b=>b.data.toList:=by simp
  rw [this]
  exact List.pairwise_map.2 (h1.imp fun {a b} hab e=>hab (by rw [← hmk a,← hmk b,e]))
 have hn:((m.map (·.1.data.toList)).mergeSort fun x y=>decide (x ≤ y)).Nodup:=(List.mergeSort_perm _ _).nodup_iff.2 hinj
 refine ⟨_,rfl,List.pairwise_map.2 ((hp.and hn).imp fun {a b} ⟨q1,q2⟩=>?_),fun x=>?_⟩
 ·have hm :∀l,l ∈ ((m.map (·.1.data.toList)).mergeSort fun x y=>decide (x ≤ y)) ↔ l ∈ m.map (·.1.data.toList):=fun l=>(List.mergeSort_perm _ _).mem_iff
  constructor
  ·intro hx
   obtain ⟨l,hl,rfl⟩:=List.mem_map.1 hx
   obtain ⟨p,hp,rfl⟩:=List.mem_map.1 ((hm l).1 hl)
   rw [hmk]
   exact List.mem_map.2 ⟨p,hp,rfl⟩
  ·intro hx
   obtain ⟨p,hp,rfl⟩:=List.mem_map.1 hx
   refine List.mem_map.2 ⟨p.1.data.toList,(hm _).2 (List.mem_map.2 ⟨p,hp,rfl⟩),hmk _⟩
 ·rw [ltN_iff,hl2,hl2]
  simp only [decide_eq_true_eq] at q1
  rcases List.le_iff_lt_or_eq.1 q1 with h | h
  ·exact h
  ·exact absurd h q2
structure PI (L:List Set) (n:ByteArray) (mt:List (ByteArray×Bool)) (a:List (Int×Bool)) (ms:List (ByteArray×Bool)) (q:List ByteArray):Prop where
 nm:(keys mt).Nodup
 tm :∀p ∈ mt,p.2=true
 rm :∀x ∈ keys mt,(∃s ∈ L,s.Name=x)∧RN L n x
 na:(a.map (·.1)).Nodup
 ra :∀x ∈ a.map (·.1),∃s ∈ L,RN L n s.Name∧x ∈ s.ASNs
 ns:(keys ms).Nodup
 rs :∀x ∈ keys ms,RN L n x∧∀s ∈ L,s.Name ≠ x
 rq :∀x ∈ q,RN L n x
 cl :∀s ∈ L,s.Name ∈ keys mt→(∀y ∈ s.ASNs,y ∈ a.map (·.1))∧∀y ∈ s.Sets,y ∈ q ∨ y ∈ keys mt ∨ y ∈ keys ms
 n0:n ∈ q ∨ n ∈ keys mt ∨ n ∈ keys ms
 la:a.length ≤ 64 * mt.length
 lm:ms.length + (q.length + 65 * (64 - mt.length)) ≤ 4161
theorem PI.mt_len {L:List Set} {n:ByteArray} {mt:List (ByteArray×Bool)} {a:List (Int×Bool)} {ms:List (ByteArray×Bool)} {q:List ByteArray} (hm:Mod L) (h:PI L n mt a ms q):mt.length ≤ 64:=by
 have h1:=nodup_len (m:=L.map (·.Name)) h.nm fun x hx=>by
  obtain ⟨⟨s,hs,he⟩,_⟩:=h.rm x hx
  exact List.mem_map.2 ⟨s,hs,he⟩
 have h2:=hm.n
 simp only [keys,List.length_map] at h1
 omega
theorem PI.fin {L:List Set} {n:ByteArray} {mt:List (ByteArray×Bool)} {a:List (Int×Bool)} {ms:List (ByteArray×Bool)} (h:PI L n mt a ms []) {ra:List Int} {rs:List ByteArray}
  (h1:ra.Pairwise fun a b=>ltI a b=true) (h2 :∀x,x ∈ ra ↔ x ∈ a.map (·.1)) (h3:rs.Pairwise fun a b=>ltN a b=true) (h4 :∀x,x ∈ rs ↔ x ∈ ms.map (·.1)):Exp L n ra rs:=by
 have hall :∀x,RN L n x→x ∈ keys mt ∨ x ∈ keys ms:=by
  intro x hx
  induction hx with
  | base=>simpa using h.n0
  | step hs _ hy ih=>
   rcases ih with ih | ih
   ·simpa using (h.cl _ hs ih).2 _ hy
   ·exact absurd rfl ((h.rs _ ih).2 _ hs)
 refine ⟨h1,fun x=>?_,h3,fun x=>?_⟩
 ·rw [h2]
  refine ⟨h.ra x,fun ⟨s,hs,q1,q2⟩=>?_⟩
  rcases hall _ q1 with hp | hp
  ·exact (h.cl s hs hp).1 x q2
  ·exact absurd rfl ((h.rs _ hp).2 s hs)
 ·rw [h4]
  refine ⟨h.rs x,fun ⟨q1,q2⟩=>?_⟩
  rcases hall _ q1 with hp | hp
  ·obtain ⟨⟨s,hs,he⟩,_⟩:=h.rm x hp
   exact absurd he (q2 s hs)
  ·exact hp
theorem PI.init (L:List Set) (n:ByteArray):PI L n [] [] [] [n]:=
 ⟨by simp [keys],by simp,by simp [keys],by simp,by simp,by simp [keys],by simp [keys],fun x hx=>by simp at hx;subst hx;exact .base,by simp [keys],by simp,by simp,by simp⟩
theorem setsMap {L:List Set} (hu:Uni L) {ρ:Type} {Q:ρ→Prop} {K:List (ByteArray×Set)→Option ρ} (hK :∀m,(∀x,mget m x=findS L x)→Ok (K m) Q) :
  Ok (joinP (τ:=(List (ByteArray×Set))) (fun k2=>forR (σ:=(List (ByteArray×Set))) (fun v3=>k2 v3) (fun next4 x5 i6 v3=>next4 (mset v3 x5.Name x5)) L 0 []) K) Q:=by
 rw [joinP_def]
 refine .forX (fun i (m:List (ByteArray×Set))=>∀x,mget m x=findS (L.take i) x) (fun x=>by simp [mget,findS]) (fun m h=>hK m (by simpa using h)) ?_
 intro next s i m hs hI hn
 refine hn _ fun x=>?_
 rw [mget_mset,List.take_add_one,hs,hI]
 unfold findS
 rw [List.find?_append]
 have hlt:=(List.getElem?_eq_some_iff.1 hs).1
 have hge:=(List.getElem?_eq_some_iff.1 hs).2
 by_cases hx:s.Name=x
 ·have h0:(L.take i).find? (fun s=>decide (s.Name=x))=none:=by
   rw [List.find?_eq_none]
   intro t ht he
   have he:t.Name=x:=by simpa using he
   obtain ⟨j,hj,rfl⟩:=List.getElem_of_mem ht
   rw [List.getElem_take] at he
   have hji:j < i:=by simp at hj;omega
   have:=(List.pairwise_iff_getElem.1 hu) j i (by simp;omega) (by simpa using hlt) hji
   simp only [List.getElem_map] at this
   exact this (by rw [he,hge,hx])
  simp [hx,h0]
 ·have:(x == s.Name)=false:=by simpa using Ne.symm hx
  simp [hx,this]
theorem addAll {a:List (Int×Bool)} {l:List Int} {ρ:Type} {Q:ρ→Prop} {K:List (Int×Bool)→Option ρ} (ha:(a.map (·.1)).Nodup)
  (hK :∀v,(v.map (·.1)).Nodup→(∀y,y ∈ v.map (·.1) ↔ y ∈ a.map (·.1) ∨ y ∈ l)→v.length ≤ a.length + l.length→Ok (K v) Q) :
  Ok (forR (σ:=(List (Int×Bool))) (fun v26=>K v26) (fun next27 x28 i29 v26=>next27 (mset v26 x28 true)) l 0 a) Q:=by
 refine .forX (fun i v=>(v.map (·.1)).Nodup∧(∀y,y ∈ v.map (·.1) ↔ y ∈ a.map (·.1) ∨ y ∈ l.take i)∧v.length ≤ a.length + i) ⟨ha,by simp,by simp⟩ (fun v ⟨h1,h2,h3⟩=>hK v h1 (by simpa using h2) h3) ?_
 rintro next x i v hx ⟨h1,h2,h3⟩ hn
 refine hn _ ⟨mset_nodup h1,fun y=>?_,Nat.le_trans (mset_len _ _ _) (by omega)⟩
 rw [mset_mem,h2,List.take_add_one,hx,or_assoc]
 simp
theorem irr_step {L:List Set} {n:ByteArray} (hm:Mod L) {sets:List (ByteArray×Set)} (hsets :∀x,mget sets x=findS L x) {mt:List (ByteArray×Bool)} {a:List (Int×Bool)} {ms:List (ByteArray×Bool)} {x:ByteArray} {q:List ByteArray}
  (h:PI L n mt a ms (x::q)) {ρ:Type} {Q:ρ→Prop} {next:List (ByteArray×Bool)×List (Int×Bool)×List (ByteArray×Bool)×List ByteArray→Option ρ}
  (hn :∀mt' a' ms' q',PI L n mt' a' ms' q'→q'.length + 65 * (64 - mt'.length) < (x::q).length + 65 * (64 - mt.length)→Ok (next (mt',a',ms',q')) Q) :
  Ok (joinP (τ:=(List (ByteArray×Bool))×(List (Int×Bool))×(List (ByteArray×Bool))×(List ByteArray)) (fun k16=>
       Option.bind (geti (x::q) 0) fun v17=>
       Option.bind (some (Option.getD (mget sets v17) (⟨ByteArray.empty,[],[]⟩:Set))) fun v18=>
       Option.bind (some (Option.isSome (mget sets v17))) fun v19=>
       joinP (τ:=(List (ByteArray×Bool))×(List (Int×Bool))×(List (ByteArray×Bool))×(List ByteArray)) (fun k20=>
        joinP (τ:=(List (ByteArray×Bool))×(List (Int×Bool))×(List (ByteArray×Bool))×(List ByteArray)) (fun k21=>
         if (!v19) then
          Option.bind (geti (x::q) 0) fun v22=>
          k21 (mt,a,(mset ms v22 true),(x::q))
         else
          Option.bind (some (Option.getD (mget mt v18.Name) false)) fun v23=>
          joinP (τ:=(List (ByteArray×Bool))×(List (Int×Bool))×(List ByteArray)) (fun k24=>
           if (!v23) then
            joinP (τ:=(List (Int×Bool))) (fun k25=>
             forR (σ:=(List (Int×Bool))) (fun v26=>
              k25 v26
             ) (fun next27 x28 i29 v26=>
              next27 (mset v26 x28 true)
             ) v18.ASNs 0 a
            ) fun v30=>
            Option.bind (apnd (α:=ByteArray) 16 (x::q) v18.Sets) fun v31=>
            k24 ((mset mt v18.Name true),v30,v31)
           else
            k24 (mt,a,(x::q))
          ) fun (v32,v33,v34)=>
          k21 (v32,v33,ms,v34)
        ) fun (v35,v36,v37,v38)=>
        k20 (v35,v36,v37,v38)
       ) fun (v39,v40,v41,v42)=>
       k16 (v39,v40,v41,v42)
      ) fun (v43,v44,v45,v46)=>
      Option.bind (part v46 1 (v46.length:Int)) fun v47=>
      next (v43,v44,v45,v47)) Q:=by
 have hxr:=h.rq x (by simp)
 have hmt:=h.mt_len hm
 have hlm:=h.lm
 have hla:=h.la
 simp only [List.length_cons] at hlm hn
 have g0:geti (x::q) 0=some x:=geti_nat (l:=x::q) (i:=0) (by simp)
 have p1 :∀l:List ByteArray,part (x::l) 1 ((x::l).length:Int)=some l:=fun l=>by
  have:=part_suf (l:=x::l) (n:=1) (by simp)
  simpa using this
 simp only [joinP_def]
 rw [g0,some_bind',some_bind',some_bind',some_bind',hsets]
 cases hf:findS L x with
 | none=>
  rw [if_pos (by simp),p1,some_bind']
  have hno:=findS_none hf
  have hl2:=mset_len ms x true
  refine hn mt a _ q ⟨h.nm,h.tm,h.rm,h.na,h.ra,mset_nodup h.ns,fun y hy=>?_,fun y hy=>h.rq y (List.mem_cons_of_mem _ hy),fun s hs hk=>⟨(h.cl s hs hk).1,fun y hy=>?_⟩,?_,h.la,by omega⟩ (by omega)
  ·rcases mset_mem.1 hy with hy | rfl
   ·exact h.rs y hy
   ·exact ⟨hxr,hno⟩
  ·rw [mset_mem]
   rcases (h.cl s hs hk).2 y hy with hy | hy | hy
   ·rcases List.mem_cons.1 hy with rfl | hy
    ·exact .inr (.inr (.inr rfl))
    ·exact .inl hy
   ·exact .inr (.inl hy)
   ·exact .inr (.inr (.inl hy))
  ·rw [mset_mem]
   rcases h.n0 with hy | hy | hy
   ·rcases List.mem_cons.1 hy with e | hy
    ·exact .inr (.inr (.inr e))
    ·exact .inl hy
   ·exact .inr (.inl hy)
   ·exact .inr (.inr (.inl hy))
 | some s=>
  obtain ⟨hs,hsn⟩:=findS_some hf
  rw [if_neg (by simp)]
  simp only [Option.getD_some]
  rw [seen_get h.tm]
  by_cases hk:s.Name ∈ keys mt
  ·rw [decide_eq_true hk,some_bind',if_neg (by decide),p1,some_bind']
   have hxm:x ∈ keys mt:=by rw [← hsn];exact hk
   refine hn mt a ms q ⟨h.nm,h.tm,h.rm,h.na,h.ra,h.ns,h.rs,fun y hy=>h.rq y (List.mem_cons_of_mem _ hy),fun t ht hk=>⟨(h.cl t ht hk).1,fun y hy=>?_⟩,?_,h.la,by omega⟩ (by omega)
   ·rcases (h.cl t ht hk).2 y hy with hy | hy | hy
    ·rcases List.mem_cons.1 hy with rfl | hy
     ·exact .inr (.inl hxm)
     ·exact .inl hy
    ·exact .inr (.inl hy)
    ·exact .inr (.inr hy)
   ·rcases h.n0 with hy | hy | hy
    ·rcases List.mem_cons.1 hy with e | hy
     ·exact .inr (.inl (by rw [e];exact hxm))
     ·exact .inl hy
    ·exact .inr (.inl hy)
    ·exact .inr (.inr hy)
  ·rw [decide_eq_false hk,some_bind',if_pos (by decide)]
   refine addAll h.na fun a' ha1 ha2 ha3=>?_
   have hsa:=hm.a s hs
   have hss:=hm.s s hs
   refine .bind (Ok.apnd (by decide) (by simp only [List.length_cons];omega)) fun q2 hq2=>?_
   subst hq2
   have p2:part (x::q ++ s.Sets) 1 ((x::q ++ s.Sets).length:Int)=some (q ++ s.Sets):=p1 (q ++ s.Sets)
   rw [p2,some_bind']
   have hml:=mset_len_new hk true
   have hlt:mt.length < 64:=by
    have h1:=nodup_len (l:=s.Name::keys mt) (m:=L.map (·.Name)) (List.nodup_cons.2 ⟨hk,h.nm⟩) fun y hy=>by
     rcases List.mem_cons.1 hy with rfl | hy
     ·exact List.mem_map.2 ⟨s,hs,rfl⟩
     ·obtain ⟨⟨t,ht,he⟩,_⟩:=h.rm y hy
      exact List.mem_map.2 ⟨t,ht,he⟩
    have h2:=hm.n
    simp only [List.length_cons,keys,List.length_map] at h1
    omega
   have hsr:RN L n s.Name:=by rw [hsn];exact hxr
   refine hn _ a' ms _ ⟨mset_nodup h.nm,mset_true h.tm _,fun y hy=>?_,ha1,fun y hy=>?_,h.ns,h.rs,fun y hy=>?_,fun t ht hkt=>?_,?_,by omega,by simp only [List.length_append];omega⟩ (by simp only [List.length_append];omega)
   ·rcases mset_mem.1 hy with hy | rfl
    ·exact h.rm y hy
    ·exact ⟨⟨s,hs,rfl⟩,hsr⟩
   ·rcases (ha2 y).1 hy with hy | hy
    ·exact h.ra y hy
    ·exact ⟨s,hs,hsr,hy⟩
   ·rcases List.mem_append.1 hy with hy | hy
    ·exact h.rq y (List.mem_cons_of_mem _ hy)
    ·exact .step hs hsr hy
   ·rcases mset_mem.1 hkt with hkt | hkt
    ·obtain ⟨c1,c2⟩:=h.cl t ht hkt
     refine ⟨fun y hy=>(ha2 y).2 (.inl (c1 y hy)),fun y hy=>?_⟩
     rw [mset_mem]
     rcases c2 y hy with hy | hy | hy
     ·rcases List.mem_cons.1 hy with rfl | hy
      ·exact .inr (.inl (.inr hsn.symm))
      ·exact .inl (List.mem_append.2 (.inl hy))
     ·exact .inr (.inl (.inl hy))
     ·exact .inr (.inr hy)
    ·have:=hm.u.eq ht hs hkt
     subst this
     exact ⟨fun y hy=>(ha2 y).2 (.inr hy),fun y hy=>.inl (List.mem_append.2 (.inr hy))⟩
   ·rw [mset_mem]
    rcases h.n0 with hy | hy | hy
    ·rcases List.mem_cons.1 hy with e | hy
     ·exact .inr (.inl (.inr (by rw [e,hsn])))
     ·exact .inl (List.mem_append.2 (.inl hy))
    ·exact .inr (.inl (.inl hy))
    ·exact .inr (.inr hy)
theorem irr_Expand_plain {r:Registry} {n:ByteArray} (hm:Mod r.Sets) (hz :∀s ∈ r.Sets,SetSz s) (hnz:n.size ≤ maxLen) (hnum :∀s ∈ r.Sets,∀x ∈ s.ASNs,numB x=true) (hv:regB r=true) :
  Ok (irr_Expand r n) fun res=>(findS r.Sets n=none∧res=([],[],11)) ∨ (∃s,findS r.Sets n=some s∧res.2.2=0∧Exp r.Sets n res.1 res.2.1):=by
 have hnsz :∀x,RN r.Sets n x→x.size ≤ maxLen:=by
  intro x hx
  cases hx with
  | base=>exact hnz
  | step hs _ hy=>exact (hz _ hs).2 _ hy
 unfold irr_Expand
 rw [irr_Valid_eq hz,hv,some_bind',if_neg (by decide)]
 refine setsMap hm.u fun sets hsets=>?_
 rw [some_bind',some_bind',hsets]
 cases hf:findS r.Sets n with
 | none=>exact .ite (fun _=>.ret (.inl ⟨rfl,rfl⟩)) fun h=>absurd rfl h
 | some s=>
  refine .ite (fun h=>absurd h (by simp)) fun _=>?_
  refine .join (fun p:List (Int×Bool)×List (ByteArray×Bool)=>∃mt,PI r.Sets n mt p.1 p.2 []) (fun k hk=>?_) ?_
  ·refine .whileI (fun p:(List (ByteArray×Bool))×(List (Int×Bool))×(List (ByteArray×Bool))×(List ByteArray)=>PI r.Sets n p.1 p.2.1 p.2.2.1 p.2.2.2) (fun p=>p.2.2.2.length + 65 * (64 - p.1.length)) (PI.init _ n) (lt_fuel (by simp)) ?_
   rintro next ⟨mt,a,ms,q⟩ hpi hnx
   simp only at hpi
   cases q with
   | nil=>
    dsimp only
    rw [if_neg (by simp)]
    exact hk (a,ms) ⟨mt,hpi⟩
   | cons x q=>
    dsimp only
    rw [if_pos (by simp)]
    exact irr_step hm hsets hpi fun mt' a' ms' q' h1 h2=>hnx (mt',a',ms',q') h1 h2
  ·rintro ⟨a,ms⟩ ⟨mt,hpi⟩
   have hml:=hpi.mt_len hm
   have hla:=hpi.la
   have hlm:=hpi.lm
   dsimp only
   simp only at hla hlm hpi
   obtain ⟨ra,e1,e2,e3⟩:=keysSI_spec hpi.na (fun p hp=>by
    obtain ⟨t,ht,_,hx⟩:=hpi.ra p.1 (List.mem_map.2 ⟨p,hp,rfl⟩)
    have:=hnum t ht _ hx
    simp [numB] at this
    omega) (by omega)
   obtain ⟨rs,f1,f2,f3⟩:=keysSS_spec hpi.ns (fun p hp=>hnsz _ (hpi.rs p.1 (List.mem_map.2 ⟨p,hp,rfl⟩)).1) (by omega)
   rw [e1,some_bind',f1,some_bind']
   exact .ret (.inr ⟨s,rfl,rfl,hpi.fin e2 e3 f2 f3⟩)
end Go.AX.Q20
end
section
namespace Go.AX.Q20
open Go Go.AX
set_option maxRecDepth 8000
def Dk (d:Deck):Prop:=0 ≤ d.At∧d.L.length ≤ 9223372036854775807
theorem make_Mod_plain {v n:Int} (hn:1 ≤ n∧n ≤ 4611686018427387904):Ok (make_Mod v n) fun r=>0 ≤ r∧r < n:=by
 unfold make_Mod
 have h1:=Int.tmod_lt_of_pos v (show 0 < n by omega)
 have h2:-n < Int.tmod v n:=by
  have:=Int.lt_tmod_of_pos v (show 0 < n by omega)
  exact this
 refine .bind (.chk (by omega)) fun _ _=>.join (fun r=>0 ≤ r∧r < n) (fun k hk=>.ite (fun hc=>hk _ ?_) fun hc=>hk _ ?_) fun r hr=>.ret hr
 ·simp only [decide_eq_true_eq] at hc
  rw [i64w_id (by omega)]
  omega
 ·simp only [decide_eq_true_eq] at hc
  omega
theorem make_Next_plain {d:Deck} {n:Int} (hd:Dk d) (hn:1 ≤ n∧n ≤ 4611686018427387904):Ok (make_Deck_Next d n) fun r=>0 ≤ r.1∧r.1 < n∧Dk r.2:=by
 obtain ⟨h1,h2⟩:=hd
 unfold make_Deck_Next
 refine .ite (fun _=>.ret ⟨by simp,by simp;omega,h1,h2⟩) fun h=>?_
 simp only [decide_eq_true_eq] at h
 have e:i64w (i64w (d.At + 1) - 1)=d.At:=by rw [i64w_id (x:=d.At + 1) (by omega),i64w_id (by omega)];omega
 rw [e,i64w_id (x:=d.At + 1) (by omega)]
 refine .bind (.geti (by omega)) fun v _=>.bind (make_Mod_plain hn) fun r hr=>.ret ⟨hr.1,hr.2,by simp only;omega,h2⟩
theorem mkA_n {b:Bool} {m:Nat} (h:m < 2 ^ 128):(mkA b m).n=m:=by
 unfold mkA Addr.n
 simp only [UInt64.toNat_ofNat']
 omega
theorem mkA_w (b:Bool) (m:Nat):(mkA b m).w=if b then 128 else 32:=rfl
theorem cut_le (a:Addr) (n:Nat):a.n / 2 ^ (a.w - n) * 2 ^ (a.w - n) ≤ a.n:=Nat.div_mul_le_self _ _
theorem n_small {a:Addr} (h:a.ok=true):a.n < 2 ^ 128:=by
 have:=Addr.n_lt h
 have hw:a.w ≤ 128:=by unfold Addr.w;split<;>omega
 exact Nat.lt_of_lt_of_le this (Nat.pow_le_pow_right (by omega) hw)
theorem mkA_ok6 (m:Nat):(mkA true m).ok=true:=by
 unfold mkA Addr.ok
 simp only [cond_true]
theorem ok_cond {x y:Bool} (hx:x=true) (hy:y=true):cond false true (cond x y false)=true:=by rw [hx,hy];rfl
theorem mkA_ok4 {m:Nat} (h:m < 4294967296):(mkA false m).ok=true:=by
 have e1:m / 2 ^ 64=0:=Nat.div_eq_of_lt (by omega)
 have e2:(UInt64.ofNat m).toNat=m:=by simp only [UInt64.toNat_ofNat'];omega
 unfold mkA
 rw [e1]
 exact ok_cond (x:=(((UInt64.ofNat 0).toNat:Int) == 0)) (y:=decide (((UInt64.ofNat m).toNat:Int) < 4294967296)) (by simp) (decide_eq_true (by rw [e2];omega))
theorem cut_ok {a:Addr} (h:a.ok=true) (n:Nat):(a.cut n).ok=true:=by
 have hc:=cut_le a n
 unfold Addr.cut
 cases h6:a.V6
 ·obtain ⟨h1,h2⟩:=Addr.ok4 h h6
  have hn:a.n=a.Lo.toNat:=by unfold Addr.n;rw [h1,Nat.zero_mul,Nat.zero_add]
  exact mkA_ok4 (by omega)
 ·exact mkA_ok6 _
theorem cut_cut {a:Addr} (h:a.ok=true) (n:Nat):(a.cut n).cut n=a.cut n:=by
 have hs:=n_small h
 have hc:=cut_le a n
 have e1:(a.cut n).n=a.n / 2 ^ (a.w - n) * 2 ^ (a.w - n):=by unfold Addr.cut;exact mkA_n (by omega)
 have e2:(a.cut n).w=a.w:=by unfold Addr.w;rw [cut_v6]
 have e3:(a.cut n).V6=a.V6:=cut_v6 a n
 show mkA (a.cut n).V6 ((a.cut n).n / 2 ^ ((a.cut n).w - n) * 2 ^ ((a.cut n).w - n))=mkA a.V6 (a.n / 2 ^ (a.w - n) * 2 ^ (a.w - n))
 rw [e1,e2,e3,Nat.mul_div_cancel _ (Nat.two_pow_pos _)]
theorem good_cut {a:Addr} (h:a.ok=true) {n:Int} (h0:0 ≤ n) (h1:n ≤ a.w):goodP ⟨a.cut n.toNat,n⟩:=by
 have e2:(a.cut n.toNat).w=a.w:=by unfold Addr.w;rw [cut_v6]
 exact ⟨cut_ok h _,h0,by simp only;rw [e2];exact h1,cut_cut h _⟩
theorem ok4_of {lo:UInt64} (h:lo.toNat < 4294967296):(⟨false,0,lo⟩:Addr).ok=true:=
 ok_cond (x:=(((0:UInt64).toNat:Int) == 0)) (y:=decide ((lo.toNat:Int) < 4294967296)) (by simp) (decide_eq_true (by omega))
theorem ok6 (hi lo:UInt64):(⟨true,hi,lo⟩:Addr).ok=true:=by unfold Addr.ok;simp only [cond_true]
theorem toU64_small {x:Int} (h0:0 ≤ x) (h1:x < 4294967296):(toU64 x).toNat < 4294967296:=by
 obtain ⟨k,rfl⟩ :∃k:Nat,x=k:=⟨x.toNat,by omega⟩
 rw [toU64_nat]
 simp only [UInt64.toNat_ofNat']
 omega
theorem make_Addr_plain {d:Deck} (hd:Dk d):Ok (make_Deck_Addr d) fun r=>r.1.ok=true∧Dk r.2:=by
 unfold make_Deck_Addr
 refine .bind (make_Next_plain hd (by omega)) ?_
 rintro ⟨c,d⟩ ⟨c1,c2,hd⟩
 dsimp only at c1 c2 hd ⊢
 refine .ite (fun _=>.bind (make_Next_plain hd (by omega)) ?_) fun _=>.ite (fun _=>.bind (make_Next_plain hd (by omega)) ?_) fun _=>.ite (fun _=>.bind (make_Next_plain hd (by omega)) ?_) fun _=>.ite (fun _=>.bind (make_Next_plain hd (by omega)) ?_) fun _=>.ite (fun _=>.bind (make_Next_plain hd (by omega)) ?_) fun _=>.bind (make_Next_plain hd (by omega)) ?_
 ·rintro ⟨v,d⟩ ⟨v1,v2,hd⟩
  dsimp only at v1 v2 hd ⊢
  refine .bind (make_Next_plain hd (by omega)) ?_
  rintro ⟨u,d⟩ ⟨u1,u2,hd⟩
  dsimp only at u1 u2 hd ⊢
  refine .ret ⟨ok4_of ?_,hd⟩
  have e1:v * (2 ^ (min (Int.toNat 8) 64))=v * 256:=rfl
  rw [e1,i64w_id (x:=v * 256) (by omega),i64w_id (x:=167772160 + v * 256) (by omega),i64w_id (by omega)]
  exact toU64_small (by omega) (by omega)
 ·rintro ⟨v,d⟩ ⟨v1,v2,hd⟩
  dsimp only at v1 v2 hd ⊢
  refine .bind (make_Next_plain hd (by omega)) ?_
  rintro ⟨u,d⟩ ⟨u1,u2,hd⟩
  exact .ret ⟨ok6 _ _,hd⟩
 ·rintro ⟨v,d⟩ ⟨v1,v2,hd⟩
  dsimp only at v1 v2 hd ⊢
  refine .bind (.geti (by simp;omega)) fun x hx=>.ret ⟨ok4_of ?_,hd⟩
  have:=hx.1
  simp only [List.mem_cons,List.not_mem_nil,or_false] at this
  rcases this with rfl | rfl | rfl | rfl | rfl<;>decide
 ·rintro ⟨v,d⟩ ⟨v1,v2,hd⟩
  dsimp only at v1 v2 hd ⊢
  refine .bind (.geti (by simp;omega)) fun x hx=>.bind (make_Next_plain hd (by omega)) ?_
  rintro ⟨u,d⟩ ⟨u1,u2,hd⟩
  dsimp only at u1 u2 hd ⊢
  exact .bind (.geti (by simp;omega)) fun y hy=>.ret ⟨ok6 _ _,hd⟩
 ·rintro ⟨v,d⟩ ⟨v1,v2,hd⟩
  dsimp only at v1 v2 hd ⊢
  refine .bind (make_Next_plain hd (by omega)) ?_
  rintro ⟨u,d⟩ ⟨u1,u2,hd⟩
  dsimp only at u1 u2 hd ⊢
  refine .bind (make_Next_plain hd (by omega)) ?_
  rintro ⟨u,d⟩ ⟨u1,u2,hd⟩
  dsimp only at u1 u2 hd ⊢
  refine .bind (make_Next_plain hd (by omega)) ?_
  rintro ⟨u,d⟩ ⟨u1,u2,hd⟩
  exact .ret ⟨ok6 _ _,hd⟩
 ·rintro ⟨v,d⟩ ⟨v1,v2,hd⟩
  dsimp only at v1 v2 hd ⊢
  exact .ret ⟨ok4_of (toU64_small (by omega) (by omega)),hd⟩
theorem make_Prefix_plain {d:Deck} (hd:Dk d):Ok (make_Deck_Prefix d) fun r=>goodP r.1∧Dk r.2:=by
 unfold make_Deck_Prefix
 refine .bind (make_Addr_plain hd) ?_
 rintro ⟨a,d⟩ ⟨ha,hd⟩
 dsimp only at ha hd ⊢
 rw [joinP_ite]
 have hw:(if a.V6=true then (128:Int) else 32)=a.w:=by unfold Addr.w;split<;>rfl
 have hwb:a.w=128 ∨ a.w=32:=by unfold Addr.w;split<;>simp
 rw [hw]
 refine .bind (make_Next_plain hd (by omega)) ?_
 rintro ⟨c,d⟩ ⟨c1,c2,hd⟩
 dsimp only at c1 c2 hd ⊢
 refine .join (fun p:Int×Deck=>(0 ≤ p.1∧p.1 ≤ a.w)∧Dk p.2) (fun k hk=>?_) ?_
 ·refine .ite (fun _=>?_) fun _=>?_
  ·rw [i64w_id (x:=(a.w:Int) + 1) (by omega)]
   refine .bind (make_Next_plain hd (by omega)) ?_
   rintro ⟨v,d⟩ ⟨v1,v2,hd⟩
   exact hk _ ⟨by simp only at v1 v2 ⊢;omega,hd⟩
  ·refine .join (fun p:Int×Deck=>(0 ≤ p.1∧p.1 ≤ a.w)∧Dk p.2) (fun k2 hk2=>.ite (fun _=>.bind (make_Next_plain hd (by omega)) ?_) fun _=>?_) ?_
   ·rintro ⟨v,d⟩ ⟨v1,v2,hd⟩
    dsimp only at v1 v2 hd ⊢
    rw [i64w_id (by omega)]
    exact hk2 _ ⟨by simp only;omega,hd⟩
   ·refine .join (fun p:Int×Deck=>(0 ≤ p.1∧p.1 ≤ a.w)∧Dk p.2) (fun k3 hk3=>.ite (fun _=>.bind (make_Next_plain hd (by omega)) ?_) fun _=>hk3 _ ⟨by simp only;omega,hd⟩) ?_
    ·rintro ⟨v,d⟩ ⟨v1,v2,hd⟩
     dsimp only at v1 v2 hd ⊢
     refine .bind (.geti (by simp;omega)) fun x hx=>hk3 _ ⟨?_,hd⟩
     have:=hx.1
     simp only [List.mem_cons,List.not_mem_nil,or_false] at this
     simp only
     rcases this with rfl | rfl | rfl | rfl | rfl<;>omega
    ·rintro ⟨v,d⟩ h;exact hk2 _ h
   ·rintro ⟨v,d⟩ h;exact hk _ h
 ·rintro ⟨v,d⟩ ⟨⟨v1,v2⟩,hd⟩
  dsimp only at v1 v2 hd ⊢
  obtain ⟨r,e,h1,h2⟩:=ref02_Make_eq a v
  rw [h1,some_bind']
  rcases h2 with ⟨_,rfl,rfl⟩ | ⟨h3,_⟩
  ·exact .ret ⟨good_cut ha v1 v2,hd⟩
  ·exact absurd ⟨ha,v1,v2⟩ h3
theorem make_Object_plain {d:Deck} (hd:Dk d):Ok (make_Deck_Object d) fun r=>objB r.1=true∧Dk r.2:=by
 unfold make_Deck_Object
 refine .bind (make_Prefix_plain hd) ?_
 rintro ⟨p,d⟩ ⟨hp,hd⟩
 dsimp only at hp hd ⊢
 rw [joinP_ite]
 have hw:(if p.Addr.V6=true then (128:Int) else 32)=p.Addr.w:=by unfold Addr.w;split<;>rfl
 have hwb:p.Addr.w=128 ∨ p.Addr.w=32:=by unfold Addr.w;split<;>simp
 rw [hw]
 have hg:=(goodB_iff p).2 hp
 obtain ⟨_,p1,p2,_⟩:=hp
 refine .bind (make_Next_plain hd (by omega)) ?_
 rintro ⟨a,d⟩ ⟨a1,a2,hd⟩
 dsimp only at a1 a2 hd ⊢
 refine .bind (make_Next_plain hd (by omega)) ?_
 rintro ⟨b,d⟩ ⟨b1,b2,hd⟩
 dsimp only at b1 b2 hd ⊢
 refine .bind (make_Next_plain hd (by omega)) ?_
 rintro ⟨c,d⟩ ⟨c1,c2,hd⟩
 dsimp only at c1 c2 hd ⊢
 have hab:0 ≤ a * b∧a * b ≤ 9:=by
  have h1:=Int.mul_nonneg a1 b1
  have h2:a * b ≤ 3 * b:=Int.mul_le_mul_of_nonneg_right (by omega) b1
  omega
 rw [i64w_id (x:=a * b) (by omega),i64w_id (x:=p.Len + a * b) (by omega),i64w_id (x:=1 + c) (by omega)]
 refine .ret ⟨?_,hd⟩
 unfold objB numB
 simp only [hg,Bool.true_and,Bool.and_eq_true,decide_eq_true_eq]
 refine ⟨⟨?_,?_⟩,by omega,by omega⟩<;>split<;>omega
end Go.AX.Q20
end
section
namespace Go.AX.Q20
open Go Go.AX
set_option maxRecDepth 8000
def nl:List ByteArray:=[(ByteArray.mk (List.toArray (List.cons 65 (List.cons 83 (List.cons 45 (List.cons 65 List.nil)))))),(ByteArray.mk (List.toArray (List.cons 65 (List.cons 83 (List.cons 45 (List.cons 66 List.nil)))))),(ByteArray.mk (List.toArray (List.cons 65 (List.cons 83 (List.cons 45 (List.cons 67 List.nil)))))),(ByteArray.mk (List.toArray (List.cons 65 (List.cons 83 (List.cons 45 (List.cons 68 List.nil)))))),(ByteArray.mk (List.toArray (List.cons 65 (List.cons 83 (List.cons 45 (List.cons 69 List.nil))))))]
theorem nl_len:nl.length=5:=rfl
theorem nl_ok:nl.all nameB=true:=by decide +kernel
theorem nl_nodup:nl.Nodup:=by decide +kernel
theorem nl_name {x:ByteArray} (h:x ∈ nl):nameB x=true:=List.all_eq_true.1 nl_ok x h
theorem setsB_iff :∀{l:List Set} {seen:List ByteArray},setsB seen l=true ↔ (l.map (·.Name)).Nodup∧(∀s ∈ l,s.Name ∉ seen)∧∀s ∈ l,setB s=true
 | [],seen=>by simp [setsB]
 | x::t,seen=>by
  rw [setsB,Bool.and_eq_true,Bool.and_eq_true,setsB_iff,List.map_cons,List.nodup_cons]
  simp only [Bool.not_eq_true',decide_eq_false_iff_not,List.mem_cons,forall_eq_or_imp,not_or]
  constructor
  ·rintro ⟨⟨h1,h2⟩,h3,h4,h5⟩
   refine ⟨⟨fun hm=>?_,h3⟩,⟨h1,fun s hs=>(h4 s hs).2⟩,h2,h5⟩
   obtain ⟨s,hs,he⟩:=List.mem_map.1 hm
   exact (h4 s hs).1 he
  ·rintro ⟨⟨h1,h2⟩,⟨h3,h4⟩,h5,h6⟩
   exact ⟨⟨h3,h5⟩,h2,fun s hs=>⟨fun he=>h1 (List.mem_map.2 ⟨s,hs,he⟩),h4 s hs⟩,h6⟩
theorem regB_iff {r:Registry}:regB r=true ↔ (Uni r.Sets∧∀s ∈ r.Sets,setB s=true)∧(∀o ∈ r.Objects,objB o=true)∧r.Sets.length ≤ 64∧r.Objects.length ≤ 512:=by
 unfold regB Uni
 simp only [Bool.and_eq_true,decide_eq_true_eq,List.all_eq_true,setsB_iff,and_assoc]
 simp
theorem setB_iff {s:Set}:setB s=true ↔ nameB s.Name=true∧s.ASNs.length ≤ 64∧s.Sets.length ≤ 64∧(∀n ∈ s.ASNs,numB n=true)∧∀x ∈ s.Sets,nameB x=true:=by
 unfold setB
 simp only [Bool.and_eq_true,decide_eq_true_eq,List.all_eq_true,and_assoc]
theorem regB_mod {r:Registry} (h:regB r=true):Mod r.Sets∧∀s ∈ r.Sets,∀x ∈ s.ASNs,numB x=true:=by
 obtain ⟨⟨h1,h2⟩,_,h3,_⟩:=regB_iff.1 h
 exact ⟨⟨h3,h1,fun s hs=>(setB_iff.1 (h2 s hs)).2.1,fun s hs=>(setB_iff.1 (h2 s hs)).2.2.1⟩,fun s hs=>(setB_iff.1 (h2 s hs)).2.2.2.1⟩
theorem nameB_size {s:ByteArray} (h:nameB s=true):s.size ≤ maxLen:=by
 have hm:maxLen=9223372036854775807:=rfl
 unfold nameB at h
 simp only [Bool.and_eq_true,decide_eq_true_eq] at h
 omega
theorem setB_size {s:Set} (h:setB s=true):SetSz s:=by
 obtain ⟨h1,_,_,_,h2⟩:=setB_iff.1 h
 exact ⟨nameB_size h1,fun x hx=>nameB_size (h2 x hx)⟩
theorem exp_both {r:Registry} {n:ByteArray} (hz :∀s ∈ r.Sets,SetSz s) (hn:n.size ≤ maxLen) :∃a m e,irr_Expand r n=some (a,m,e)∧ref20_Expand r n=some (a,m,e):=by
 cases hv:regB r
 ·refine ⟨[],[],1,?_,?_⟩
  ·unfold irr_Expand
   rw [irr_Valid_eq hz,hv,some_bind',if_pos (by decide)]
  ·unfold ref20_Expand
   rw [ref20_Valid_eq hz,hv,some_bind',if_pos (by decide)]
 ·obtain ⟨hm,hnum⟩:=regB_mod hv
  obtain ⟨⟨a,m,e⟩,h1,h2⟩:=irr_Expand_plain hm hz hn hnum hv
  obtain ⟨⟨b,k,f⟩,g1,g2⟩:=ref20_Expand_plain hm hz hv (n:=n)
  refine ⟨a,m,e,h1,?_⟩
  rw [g1]
  rcases h2 with ⟨q1,q2⟩ | ⟨s,q1,q2,q3⟩
  ·rcases g2 with ⟨_,p2⟩ | ⟨t,p1,_,_⟩
   ·rw [q2,p2]
   ·rw [q1] at p1;simp at p1
  ·rcases g2 with ⟨p1,_⟩ | ⟨t,_,p2,p3⟩
   ·rw [q1] at p1;simp at p1
   ·simp only at q2 q3 p2 p3
    obtain ⟨e1,e2⟩:=q3.unique p3
    rw [e1,e2,q2,p2]
theorem make_Registry_plain {d:Deck} (hd:Dk d):Ok (make_Deck_Registry d) fun r=>regB r.1=true∧Dk r.2:=by
 unfold make_Deck_Registry
 refine .bind (make_Next_plain hd (by omega)) ?_
 rintro ⟨c,d⟩ ⟨c1,c2,hd⟩
 dsimp only at c1 c2 hd ⊢
 refine .join (fun p:Deck×List Set=>Dk p.1∧(∃k:Nat,k ≤ 4∧p.2.map (·.Name)=nl.take k)∧∀s ∈ p.2,setB s=true) (fun k hk=>?_) ?_
 ·refine .whileI (fun p:Int×Deck×List Set=>Dk p.2.1∧(∃k:Nat,p.1=k∧(k:Int) ≤ c∧p.2.2.map (·.Name)=nl.take k)∧∀s ∈ p.2.2,setB s=true) (fun p=>(c - p.1).toNat) ⟨hd,⟨0,rfl,c1,rfl⟩,by simp⟩ (lt_fuel (by simp only;omega)) ?_
  rintro next ⟨v,d,l⟩ ⟨hd,⟨k0,e1,e2,e3⟩,e4⟩ hn
  simp only at hd e1 e3 e4
  subst e1
  dsimp only
  refine .ite (fun h=>?_) fun h=>hk _ ⟨hd,⟨k0,by omega,e3⟩,e4⟩
  simp only [decide_eq_true_eq] at h
  have hll:l.length=k0:=by
   have:=congrArg List.length e3
   simp only [List.length_map,List.length_take,nl_len] at this
   omega
  refine .join (fun p:Deck×List Set=>Dk p.1∧p.2.map (·.Name)=nl.take (k0 + 1)∧∀s ∈ p.2,setB s=true) (fun k2 hk2=>?_) ?_
  ·refine .bind (Ok.geti (l:=nl) (by rw [nl_len];omega)) fun nm hnm=>?_
   have hnm2:nl[k0]?=some nm:=by
    have h1:k0 < nl.length:=by rw [nl_len];omega
    have:=hnm.2
    rw [geti_nat h1] at this
    rw [List.getElem?_eq_getElem h1];exact this
   refine .bind (make_Next_plain hd (by omega)) ?_
   rintro ⟨a,d⟩ ⟨a1,a2,hd⟩
   dsimp only at a1 a2 hd ⊢
   refine .join (fun p:Deck×List Int=>Dk p.1∧p.2.length ≤ 3∧∀n ∈ p.2,numB n=true) (fun k3 hk3=>?_) ?_
   ·refine .whileI (fun p:Int×Deck×List Int=>Dk p.2.1∧(p.2.2.length:Int)=a - p.1∧0 ≤ p.1∧∀n ∈ p.2.2,numB n=true) (fun p=>p.1.toNat) ⟨hd,by simp,a1,by simp⟩ (lt_fuel (by simp only;omega)) ?_
    rintro nx ⟨v,d,l⟩ ⟨hd,b1,b2,b3⟩ hnx
    simp only at hd b1 b2 b3
    dsimp only
    refine .ite (fun h=>?_) fun h=>hk3 _ ⟨hd,by simp only;omega,b3⟩
    simp only [decide_eq_true_eq] at h
    refine .bind (make_Next_plain hd (by omega)) ?_
    rintro ⟨u,d⟩ ⟨u1,u2,hd⟩
    dsimp only at u1 u2 hd ⊢
    refine .bind (Ok.apnd (by decide) (by simp;omega)) fun l2 hl2=>?_
    subst hl2
    rw [i64w_id (x:=1 + u) (by omega),i64w_id (by omega)]
    refine hnx _ ⟨hd,by simp only [List.length_append,List.length_cons,List.length_nil];omega,by simp only;omega,fun n hn=>?_⟩ (by simp only;omega)
    rcases List.mem_append.1 hn with hn | hn
    ·exact b3 n hn
    ·simp only [List.mem_cons,List.not_mem_nil,or_false] at hn
     subst hn
     simp only [numB,Bool.and_eq_true,decide_eq_true_eq];omega
   rintro ⟨d,asns⟩ ⟨hd,b1,b2⟩
   dsimp only at hd b1 b2 ⊢
   refine .bind (make_Next_plain hd (by omega)) ?_
   rintro ⟨b,d⟩ ⟨c3,c4,hd⟩
   dsimp only at c3 c4 hd ⊢
   refine .join (fun p:Deck×List ByteArray=>Dk p.1∧p.2.length ≤ 3∧∀n ∈ p.2,nameB n=true) (fun k3 hk3=>?_) ?_
   ·refine .whileI (fun p:Int×Deck×List ByteArray=>Dk p.2.1∧(p.2.2.length:Int)=b - p.1∧0 ≤ p.1∧∀n ∈ p.2.2,nameB n=true) (fun p=>p.1.toNat) ⟨hd,by simp,c3,by simp⟩ (lt_fuel (by simp only;omega)) ?_
    rintro nx ⟨v,d,l⟩ ⟨hd,g1,g2,g3⟩ hnx
    simp only at hd g1 g2 g3
    dsimp only
    refine .ite (fun h=>?_) fun h=>hk3 _ ⟨hd,by simp only;omega,g3⟩
    simp only [decide_eq_true_eq] at h
    refine .bind (make_Next_plain hd (by omega)) ?_
    rintro ⟨u,d⟩ ⟨u1,u2,hd⟩
    dsimp only at u1 u2 hd ⊢
    refine .bind (Ok.geti (l:=nl) (by rw [nl_len];omega)) fun x hx=>?_
    refine .bind (Ok.apnd (by decide) (by simp;omega)) fun l2 hl2=>?_
    subst hl2
    rw [i64w_id (by omega)]
    refine hnx _ ⟨hd,by simp only [List.length_append,List.length_cons,List.length_nil];omega,by simp only;omega,fun n hn=>?_⟩ (by simp only;omega)
    rcases List.mem_append.1 hn with hn | hn
    ·exact g3 n hn
    ·simp only [List.mem_cons,List.not_mem_nil,or_false] at hn
     subst hn
     exact nl_name hx.1
   rintro ⟨d,sets⟩ ⟨hd,g1,g2⟩
   dsimp only at hd g1 g2 ⊢
   refine .bind (Ok.apnd (by decide) (by simp;omega)) fun l2 hl2=>?_
   subst hl2
   refine hk2 _ ⟨hd,?_,fun s hs=>?_⟩
   ·simp only [List.map_append,e3,List.map_cons,List.map_nil]
    rw [List.take_add_one,hnm2]
    rfl
   ·rcases List.mem_append.1 hs with hs | hs
    ·exact e4 s hs
    ·simp only [List.mem_cons,List.not_mem_nil,or_false] at hs
     subst hs
     exact setB_iff.2 ⟨nl_name hnm.1,by simp only;omega,by simp only;omega,b2,g2⟩
  ·rintro ⟨d,l⟩ ⟨hd,q1,q2⟩
   dsimp only at hd q1 q2 ⊢
   rw [i64w_id (by omega)]
   exact hn _ ⟨hd,⟨k0 + 1,by simp only;omega,by omega,q1⟩,q2⟩ (by simp only;omega)
 ·rintro ⟨d,l⟩ ⟨hd,⟨k0,e1,e2⟩,e3⟩
  dsimp only at hd e2 e3 ⊢
  refine .bind (make_Next_plain hd (by omega)) ?_
  rintro ⟨b,d⟩ ⟨b1,b2,hd⟩
  dsimp only at b1 b2 hd ⊢
  refine .join (fun p:Deck×List Object=>Dk p.1∧p.2.length ≤ 11∧∀o ∈ p.2,objB o=true) (fun k3 hk3=>?_) ?_
  ·refine .whileI (fun p:Int×Deck×List Object=>Dk p.2.1∧(p.2.2.length:Int)=b - p.1∧0 ≤ p.1∧∀n ∈ p.2.2,objB n=true) (fun p=>p.1.toNat) ⟨hd,by simp,b1,by simp⟩ (lt_fuel (by simp only;omega)) ?_
   rintro nx ⟨v,d,l⟩ ⟨hd,g1,g2,g3⟩ hnx
   simp only at hd g1 g2 g3
   dsimp only
   refine .ite (fun h=>?_) fun h=>hk3 _ ⟨hd,by simp only;omega,g3⟩
   simp only [decide_eq_true_eq] at h
   refine .bind (make_Object_plain hd) ?_
   rintro ⟨o,d⟩ ⟨ho,hd⟩
   dsimp only at ho hd ⊢
   refine .bind (Ok.apnd (by decide) (by simp;omega)) fun l2 hl2=>?_
   subst hl2
   rw [i64w_id (by omega)]
   refine hnx _ ⟨hd,by simp only [List.length_append,List.length_cons,List.length_nil];omega,by simp only;omega,fun n hn=>?_⟩ (by simp only;omega)
   rcases List.mem_append.1 hn with hn | hn
   ·exact g3 n hn
   ·simp only [List.mem_cons,List.not_mem_nil,or_false] at hn
    subst hn
    exact ho
  ·rintro ⟨d,os⟩ ⟨hd,g1,g2⟩
   dsimp only at hd g1 g2 ⊢
   have hll:l.length=k0:=by
    have:=congrArg List.length e2
    simp only [List.length_map,List.length_take,nl_len] at this
    omega
   refine .ret ⟨regB_iff.2 ⟨⟨?_,e3⟩,g2,by simp only;omega,by simp only;omega⟩,hd⟩
   unfold Uni
   simp only
   rw [e2]
   exact nl_nodup.sublist (List.take_sublist _ _)
end Go.AX.Q20
end
