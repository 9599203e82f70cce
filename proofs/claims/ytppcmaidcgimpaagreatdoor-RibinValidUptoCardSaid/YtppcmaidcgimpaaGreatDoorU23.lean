/-
  Texts of one proof, packed.
-/
import Derived.Test.YtppcmaidcgimpaaGreatDoorU16
import Derived.Test.YtppcmaidcgimpaaGreatDoorU22
import Derived.Sort.Walk0
set_option linter.all false
set_option maxRecDepth 100000
set_option maxHeartbeats 4000000
open List renaming length_map→X10,length_append→X11,length_cons→X12,length_nil→X13,getElem?_eq_getElem→X15,getElem?_eq_some_iff→X16,length_drop→X17,length_take→X18,mem_cons_of_mem→X19,length_replicate→X20,length_set→X21,mem_append→X23
open Option.some renaming injEq→X24
open Bool renaming and_eq_true→X27,eq_iff_iff→X28
open Option renaming bind→Wb,getD→Xau,isSome→Xdy
open Go renaming maxLen→Xb3
open Nat renaming ble→Xee
open ByteArray renaming empty→Xac
section
namespace Go.AX.Q25
open Go Go.AX
def CU (p:fI):C:=p.Addr.ok&&decide (0<=p.vg)&&decide (p.vg<=p.Addr.w)&&Addr.wa (p.Addr.cut p.vg.toNat) p.Addr
def Jj (p:fI):CU p=true↔B5 p:=by unfold CU B5;simp only[X27,Wd,Addr.vR,Xes]
def Du (p:fI):A8 p=some (CU p):=by obtain⟨b,F,H⟩:=Hk p;rw[F];congr 1;rw[X28,H,Jj]
def DG (p:fI):Bw p=some (CU p):=by
 have K:BZ p.Addr=some (p.Addr.w:Int):=by unfold BZ Addr.w;split<;>rfl
 unfold Bw CU;rw[AC,EU,AA,K];simp only[AA,Xcq];cases p.Addr.ok
 ·simp
 by_cases F:0<=p.vg
 ·by_cases h1:p.vg<=p.Addr.w
  ·obtain⟨k,H⟩ :∃k:Nat,p.vg=k:=⟨p.vg.toNat,by omega⟩;have J:=JL p.Addr (n:=k) (by omega);rw[<- H] at J;rw[J,H];simp only[AA,Xaa,ge_iff_le];rw[Wr True.intro,Wr (by simp),Wr (by simp;omega)];have M:decide ((0:Int)<=(k:Int))=true:=by simp
   have P:decide ((k:Int)<=(p.Addr.w:Int))=true:=by simp;omega
   rw[M,P];simp
  simp[F,h1]
 simp[F]
def Uc (o:kI):C:=CU o.fI&&decide (o.fI.vg<=o.Max)&&decide (o.Max<=o.fI.Addr.w)&&Bv o.tS
def NR (o:kI):CV o=some (Uc o):=by
 unfold CV Uc;rw[Jm,AC,Du,AA];have F:(if o.fI.Addr.V6=true then (128:Int) else 32)=o.fI.Addr.w:=by unfold Addr.w;split<;>rfl
 rw[F];unfold Bv;simp only[Xcq,ge_iff_le];cases CU o.fI<;>cases decide (o.fI.vg<=o.Max)<;>cases decide (o.Max<=(o.fI.Addr.w:Int))<;>cases decide (1<=o.tS)<;>cases decide (o.tS<=4294967295)<;>rfl
def Oo:I T->I Set->C
 | _,[]=>true
 | seen,x::t=>!decide (x.Name∈seen)&&T0 x&&Oo (x.Name::seen) t
def PU (r:we):C:=Oo [] r.ph&&r.pk.all Uc&&decide (r.ph.length<=64)&&decide (r.pk.length<=512)
def Seen (m:I (T×C))(seen:I T):Prop:=∀n,(A7 m n).getD false=decide (n∈seen)
def Seen.nil:Seen [] []:=λn=>by simp[A7]
def Seen.put {m:I (T×C)}{seen:I T}(h:Seen m seen)(x:T):Seen (BN m x true) (x::seen):=by
 intro n;rw[Go.AX.wV];by_cases F:n=x
 ·subst F;simp
 rw[Wm (by simpa using F),h n];simp[F]
def fK (a b:Nat):AB (τ:=C) (λk=>if (decide ((a:Int)<=64)) then k (cond true (decide ((b:Int)<=512)) false) else k false) (λv=>some v)=some (decide (a<=64)&&decide (b<=512)):=by
 rw[AC];by_cases h:a<=64
 ·rw[Wr (by simp;omega)];simp[h];omega
 rw[Wm (by simp;omega)];simp[h]
def kW {body:(I (T×C)->O C)->Set->Nat->I (T×C)->O C}{K:O C} : ∀{l:I Set} {i:Nat} {m:I (T×C)} {seen:I T},(∀next x i m,x∈l->body next x i m=cond (!((A7 m x.Name).getD false)&&T0 x) (next (BN m x.Name true)) (some false))->Seen m seen-> AI (λ_=>K) body l i m=cond (Oo seen l) K (some false)
 | [],_,_,_,_,_=>rfl
 | x::t,i,m,seen,F,H=>by
  show body (λs=>AI (λ_=>K) body t (i+1) s) x i m=_;rw[F _ x i m (by simp),H x.Name,Oo];cases M:(!decide (x.Name∈seen)&&T0 x)
  ·rfl
  rw[Xce];exact kW (λnext y j m J=>F next y j m (X19 _ J)) (H.put _)
def JW {r:we}(h :∀s∈r.ph,LD s):IK r=some (PU r):=by
 unfold IK;rw[AC,kW (seen:=[]) (K:=AB _ _) ?_ Seen.nil,AC,QP (g:=Uc) (r0:=some false) ?_,fK]
 ·unfold PU;cases Oo [] r.ph<;>cases r.pk.all Uc<;>simp
 ·intro next x i _
  have F:Lc x.fI=some (x.fI.Addr.w:Int):=by unfold Lc Addr.w;split<;>rfl
  rw[AC,DG,AA,F,K8];simp only[AA,Xcn,gt_iff_lt];unfold Uc;have e1:decide (x.Max<x.fI.vg)=!decide (x.fI.vg<=x.Max):=by rw[X28];simp
  have e2:decide ((x.fI.Addr.w:Int)<x.Max)=!decide (x.Max<=(x.fI.Addr.w:Int)):=by rw[X28];simp
  rw[e1,e2];cases CU x.fI<;>cases decide (x.fI.vg<=x.Max)<;>cases decide (x.Max<=(x.fI.Addr.w:Int))<;>cases Bv x.tS<;>rfl
 intro next x i m H
 rw[AC,bJ (h x H)];simp only[AA,Xcn];cases (A7 m x.Name).getD false<;>cases T0 x<;>rfl
def Hj {r:we}(h :∀s∈r.ph,LD s):Fv r=some (PU r):=by
 unfold Fv;rw[AC,kW (seen:=[]) (K:=AB _ _) ?_ Seen.nil,AC,QP (g:=Uc) (r0:=some false) ?_,fK]
 ·unfold PU;cases Oo [] r.ph<;>cases r.pk.all Uc<;>simp
 ·intro next x i _
  rw[NR,AA];cases Uc x<;>rfl
 intro next x i m hx
 obtain⟨h1,h2⟩:=h x hx;rw[AC,AC,Ot h1];simp only[AA,Xcn];have Z :∀n:Nat,decide ((n:Int)>64)=!decide (n<=64):=λn=>by rw[X28];simp;omega
 rw[Z,Z];have ha :∀K:Unit->O C,AB (τ:=Unit) (λP=>AI (σ:=Unit) (λ_=>P ()) (λF J a1 _=>AB (τ:=C) (λM=>if (decide (J<1)) then M true else M (decide (J>4294967295)) ) λQ=>if Q then some false else F ()) x.o3 0 ()) K=cond (x.o3.all Bv) (K ()) (some false):=by
  intro K;rw[AC];refine QP λnext n i _=>?_;rw[Jm];unfold Bv;by_cases g1:n<1
  ·have:¬ 1<=n:=by omega
   simp[g1,this]
  by_cases g2:n>4294967295
  ·have:¬ n<=4294967295:=by omega
   simp[g1,g2,this]
  have g3:1<=n:=by omega
  have g4:n<=4294967295:=by omega
  simp[g1,g2,g3,g4]
 have hs :∀K:Unit->O C,AB (τ:=Unit) (λU=>AI (σ:=Unit) (λ_=>U ()) (λH V a6 _=>Wb (HB V) λY=>if (!Y) then some false else H ()) x.ph 0 ()) K=cond (x.ph.all wR) (K ()) (some false):=by intro K;rw[AC];refine QP λnext n i hn=>?_;rw[Ot (h2 n hn),AA];cases wR n<;>rfl
 rw[ha,hs];unfold T0;cases wR x.Name<;>cases (A7 m x.Name).getD false<;>cases decide (x.o3.length<=64)<;>cases decide (x.ph.length<=64)<;>cases x.o3.all Bv<;>cases x.ph.all wR<;>rfl
def aI {α:Type}{b:Nat}{l:I α}{x:α}[Decidable (x∈l)]{p:α->C}{n:Nat}(J:Xee b 65536=true)(Z:l.length+1<=1000000000)(U:n=(l.takeWhile p).length)(c:C)(Q:c=decide (x∈l)) : (if c=true then some l else Wb (part l 0 (n:Int)) λF=>Wb (gN (α:=α) b [] F) λ_=>Wb (gN (α:=α) b F ([x]:I α)) λK=>Wb (part l (n:Int) (l.length:Int)) λM=>Wb (gN (α:=α) b K M) λP=>some P) =
   some (if x∈l then l else l.takeWhile p++x::l.dropWhile p):=by
 have ht:=Dp p l;obtain⟨V,Y⟩:=wH p l;by_cases H:x∈l
 ·rw[Q,Wr (by simpa using H),Wr H]
 rw[Q,Wm (by simpa using H),Wm H,Vk (by omega),AA,AD J (by simp;omega),AA,AD J (by simp;omega),AA,QH (by omega),AA,AD J (by simp;omega),AA,U,V,Y];simp
def RH {α:Type}{lt:α->α->C}(P :∀a b c,lt a b=true->lt b c=true->lt a c=true)(H :∀a,lt a a=false){l:I α}{x:α}(Q:l.Pairwise λa b=>lt a b=true) : x∈l↔l[(l.takeWhile (lt · x)).length]?=some x:=by
 constructor
 ·intro F;rw[<- Xet (p:=(lt · x)) (l:=l),X23] at F;rcases F with F|F
  ·have:=Ip (lt · x) F;rw[H] at this;simp at this
  have U:=(wH (lt · x) l).2;cases J:l.dropWhile (lt · x) with
  | nil=>rw[J] at F;simp at F
  | cons y t=>
   have V:lt y x=false:=by have:=List.head?_dropWhile_not (lt · x) l;rw[J] at this;simpa using this
   have hp:(y::t).Pairwise λa b=>lt a b=true:=by rw[<- J];exact Q.sublist (List.dropWhile_sublist _)
   rw[J] at F;have K:x=y:=by
    rcases Xa3.1 F with e|e
    ·exact e
    have:=(Xb4.1 hp).1 x e;rw[V] at this;simp at this
   have M:(l.drop (l.takeWhile (lt · x)).length)[0]?=some x:=by rw[U,J,K];rfl
   rw[Xeu] at M;simpa using M
 intro h;exact Xcb h
def Td {l:I Int}{n:Int}(K:l.Pairwise λa b=>xF a b=true)(M:l.length+1<=1000000000):FK l n=some (if n∈l then l else Kz xF l n):=by
 have H:=Dp (xF · n) l;unfold FK;rw[pH (p:=(xF · n)) (λx P=>P (cond true (decide (x<n)) false)) (by omega) (λx _ k=>rfl),AC];have J:=RH cF X9 (x:=n) K;have F:=aI (b:=8) (l:=l) (x:=n) (p:=(xF · n)) (by decide) M rfl;by_cases hk:(l.takeWhile (xF · n)).length<l.length
 ·rw[Wr (by simpa using hk),BY hk,AA];refine F _ ?_;rw[X28,Wd,J,X15 hk];simp
 rw[Wm (by simpa using hk)];refine F _ ?_;rw[X28,Wd,J,Xc1 (by omega)];simp
def yw (a b:T):C:=Op.bytesLess a.toList b.toList
def Pz (a b:T):yw a b=true↔a.toList<b.toList:=by unfold yw;rw[Go.Proofs.bytesLess_eq];simp
def qK {a b:T}(h:a.toList=b.toList):a=b:=by have:=qg a b;rw[h] at this;simpa using this.symm
def dF (a b c:T)(F:yw a b=true)(H:yw b c=true):yw a c=true:=by rw[Pz] at *;exact List.lt_trans F H
def ew (a:T):yw a a=false:=by
 cases h:yw a a
 ·rfl
 rw[Pz] at h;exact absurd h (List.lt_irrefl _)
def pL (a b:T)(h:yw a b=false):a=b\/yw b a=true:=by
 have H:¬ a.toList<b.toList:=λq=>by rw[<- Pz] at q;rw[h] at q;simp at q
 rw[Pz];have J:b.toList<=a.toList:=List.not_lt.1 H;rcases List.le_iff_lt_or_eq.1 J with F|F
 ·exact .inr F
 exact .inl (qK F.symm)
def Of {l:I T}{n:T}(K:l.Pairwise λa b=>yw a b=true)(M:l.length+1<=1000000000):Cf l n=some (if n∈l then l else Kz yw l n):=by
 have H:=Dp (yw · n) l;unfold Cf;rw[pH (p:=(yw · n)) (λx P=>P (cond true (Op.bytesLess x.toList n.toList) false)) (by omega) (λx _ k=>rfl),AC];have J:=RH dF ew (x:=n) K;have F:=aI (b:=16) (l:=l) (x:=n) (p:=(yw · n)) (by decide) M rfl;by_cases hk:(l.takeWhile (yw · n)).length<l.length
 ·rw[Wr (by simpa using hk),BY hk,AA];refine F _ ?_;rw[X28,Wd,J,X15 hk];simp only[Xcq,qg,Wd,X24]
 rw[Wm (by simpa using hk)];refine F _ ?_;rw[X28,Wd,J,Xc1 (by omega)];simp
def EP (L:I Set)(n:T):O Set:=L.find? λs=>decide (s.Name=n)
def We:Set:=⟨Xac,[],[]⟩
def On (r:we)(n:T):G5 r n=some ((EP r.ph n).getD We,(EP r.ph n).isSome):=by
 unfold G5 EP;rw[AC];have key :∀(l:I Set) (i:Nat),AI (λ_=>some ((⟨Xac,[],[]⟩:Set),false)) (λF H K _=>if (H.Name.toList==n.toList) then some (H,true) else F ()) l i ()=some ((l.find? λs=>decide (s.Name=n)).getD We,(l.find? λs=>decide (s.Name=n)).isSome):=by
  intro l;induction l with
  | nil=>intro i;rfl
  | cons x t J=>intro i;show (if (x.Name.toList==n.toList)=true then some (x,true) else AI _ _ t (i+1) ())=_;rw[J,qg,List.find?_cons];by_cases h:x.Name=n<;>simp[h]
 exact key r.ph 0
def G7 {L:I Set}{n:T}{s:Set}(h:EP L n=some s):s∈L/\s.Name=n:=by unfold EP at h;exact⟨List.mem_of_find?_eq_some h,by simpa using List.find?_some h⟩
def PC {L:I Set}{n:T}(h:EP L n=none) :∀s∈L,s.Name≠n:=by unfold EP at h;intro s F;simpa using List.find?_eq_none.1 h s F
def C8 (L:I Set):Prop:=(L.map (·.Name)).Nodup
def C8.eq {L:I Set}(h:C8 L){s t:Set}(J:s∈L)(M:t∈L)(e:s.Name=t.Name):s=t:=by
 induction L with
 | nil=>simp at J
 | cons x L P=>
  unfold C8 at h;obtain⟨K,Q⟩:=List.nodup_cons.1 h;rcases Xa3.1 J with rfl|F<;>rcases Xa3.1 M with rfl|H
  ·rfl
  ·exact absurd (Xaf.2 ⟨t,H,e.symm⟩) K
  ·exact absurd (Xaf.2 ⟨s,F,e⟩) K
  exact P Q F H
def C8.find {L:I Set}(h:C8 L){s:Set}(F:s∈L):EP L s.Name=some s:=by
 cases H:EP L s.Name with
 | none=>exact absurd rfl (PC H s F)
 | some t=>obtain⟨J,K⟩:=G7 H;rw[h.eq J F K]
inductive RN (L:List Set)(n:ByteArray):ByteArray->Prop
 | base:RN L n n
 | step {s:Set} {y:ByteArray} (hs:s∈L) (h:RN L n s.Name) (hy:y∈s.ph):RN L n y
structure Cq (L:List Set)(n:ByteArray)(la:List Int)(ms:List ByteArray):Prop where
 pa:la.Pairwise λa b=>xF a b=true
 am :∀a,a∈la ↔∃s∈L,RN L n s.Name/\a∈s.o3
 pm:ms.Pairwise λa b=>yw a b=true
 mm :∀x,x∈ms↔RN L n x/\∀s∈L,s.Name≠x
def Cq.unique {L:I Set}{n:T}{a b:I Int}{x y:I T}(h:Cq L n a x)(k:Cq L n b y):a=b/\x=y:=
 ⟨J3 (lt:=λa b=>xF a b=true) (λa=>by simp[X9]) cF h.pa k.pa λq=>(h.am q).trans (k.am q).symm, J3 (lt:=λa b=>yw a b=true) (λa=>by simp[ew]) dF h.pm k.pm λq=>(h.mm q).trans (k.mm q).symm⟩
structure Mod (L:List Set):Prop where
 n:L.length<=64
 u:C8 L
 a :∀s∈L,s.o3.length<=64
 s :∀s∈L,s.ph.length<=64
def kP (L:I Set)(n:T):I T:=n::L.flatMap (·.ph)
def kn {L:I Set}(h:Mod L)(n:T):(kP L n).length<=4097:=by
 have key :∀(l:I Set),(∀s∈l,s.ph.length<=64)->(l.flatMap (·.ph)).length<=64*l.length:=by
  intro l;induction l with
  | nil=>intro _;simp
  | cons x t H=>intro F;have:=H λs J=>F s (X19 _ J);have:=F x (by simp);simp only[Xaw,X11,X12];omega
 have K:=key L h.s;have M:=h.n;unfold kP;simp only[X12];omega
def kX {L:I Set}{n x:T}(h:RN L n x):x∈kP L n:=by
 cases h with
 | base=>unfold kP;simp
 | step F _ H=>unfold kP;exact X19 _ (Xdw.2 ⟨_,F,H⟩)
abbrev keys (m:I (T×C)):I T:=m.map (·.1)
def ZW {m:I (T×C)}(h :∀p∈m,p.2=true)(x:T):(A7 m x).getD false=decide (x∈keys m):=by
 cases hg:A7 m x with
 | none=>
  have:x∉keys m:=λK=>by obtain⟨v,F⟩:=gI.2 K;rw[hg] at F;simp at F
  simp[this]
 | some v=>have H:=Wv hg;have J:=h _ H;have:x∈keys m:=Xaf.2 ⟨_,H,rfl⟩;simp only at J;simp[J,this]
def Wj {m:I (T×C)}(h :∀p∈m,p.2=true)(x:T) :∀p∈BN m x true,p.2=true:=by
 induction m with
 | nil=>intro p hp;simp[BN] at hp;rw[hp]
 | cons q m F=>
  intro p hp;unfold BN at hp;split at hp
  ·rcases Xa3.1 hp with rfl|hp
   ·rfl
   exact h p (X19 _ hp)
  rcases Xa3.1 hp with rfl|hp
  ·exact h _ (by simp)
  exact F (λp hp=>h p (X19 _ hp)) p hp
def Px {m:I (T×C)}{x:T}(h:x∉keys m)(v:C):(BN m x v).length=m.length+1:=by have:=Xa4 List.length (OO m x v);rw[Wm h] at this;simpa using this
structure RI (L:List Set)(n:ByteArray)(a:List Int)(m:List ByteArray)(sn:List (ByteArray×Bool))(td:List ByteArray):Prop where
 pa:a.Pairwise λa b=>xF a b=true
 pm:m.Pairwise λa b=>yw a b=true
 nd:(keys sn).Nodup
 tr :∀p∈sn,p.2=true
 rn :∀x∈keys sn,RN L n x
 tk :∀x∈td,x∈keys sn
 sa :∀x∈a,∃s∈L,RN L n s.Name/\x∈s.o3
 sm :∀x∈m,RN L n x/\∀s∈L,s.Name≠x
 pr :∀x∈keys sn,x∈td\/((∀s∈L,s.Name=x->(∀y∈s.o3,y∈a)/\∀y∈s.ph,y∈keys sn)/\((∀s∈L,s.Name≠x)->x∈m))
 n0:n∈keys sn
 la:a.length+64*(td.length+(4097-sn.length))<=64*4098
 lm:m.length+(td.length+(4097-sn.length))<=4098
def VX {L:I Set}(h:Mod L){n:T}{F:I (T×C)}(nd:(keys F).Nodup)(rn :∀x∈keys F,RN L n x):F.length<=4097:=by have H:=Lr nd λx J=>kX (rn x J);have K:=kn h n;simp only[keys,X10] at H;omega
def RI.fin {L:I Set}{n:T}{a:I Int}{m:I T}{M:I (T×C)}(h:RI L n a m M []):Cq L n a m:=by
 have F :∀x,RN L n x->x∈keys M:=by
  intro x P;induction P with
  | base=>exact h.n0
  | step H _ Q U=>
   rcases h.pr _ U with hp|hp
   ·simp at hp
   exact (hp.1 _ H rfl).2 _ Q
 refine⟨h.pa,λx=>⟨h.sa x,λ⟨s,H,J,K⟩=>?_⟩,h.pm,λx=>⟨h.sm x,λ⟨J,K⟩=>?_⟩⟩
 ·rcases h.pr _ (F _ J) with hp|hp
  ·simp at hp
  exact (hp.1 s H rfl).1 x K
 rcases h.pr _ (F _ J) with hp|hp
 ·simp at hp
 exact hp.2 K
def qU {a:I Int}{l:I Int}{ρ:Type}{Q:ρ->Prop}{k:I Int->O ρ}(P:a.Pairwise λa b=>xF a b=true)(hl:a.length+l.length<=1000000) (U :∀v,v.Pairwise (λa b=>xF a b=true)->(∀y,y∈v↔y∈a\/y∈l)->v.length<=a.length+l.length->Ok (k v) Q) : Ok (AI (λv=>k v) (λnext x _ v=>Wb (FK v x) λV=>next V) l 0 a) Q:=by
 refine .xL (λi v=>v.Pairwise (λa b=>xF a b=true)/\(∀y,y∈v↔y∈a\/y∈l.take i)/\v.length<=a.length+i) ⟨P,by simp,by simp⟩ (λv ⟨F,H,K⟩=>U v F (by simpa using H) K) ?_;rintro next x i v M ⟨F,H,K⟩ Y
 have hi:=(X16.1 M).1;rw[Td F (by omega),AA];refine Y _ ⟨?_,λy=>?_,?_⟩
 ·split
  ·exact F
  exact Np cF o8 F ‹_›
 ·have Z:y∈l.take (i+1)↔y∈l.take i\/y=x:=by rw[Xbz,M];simp
  rw[Z];split
  ·rename_i J;rw[H];constructor
   ·rintro (h|h)
    ·exact .inl h
    exact .inr (.inl h)
   rintro (h|h|rfl)
   ·exact .inl h
   ·exact .inr h
   exact (H _).1 J
  rw[Fq,H,or_assoc]
 split
 ·omega
 rw[Hw];omega
def bZ {r:we}{n:T}(hm:Mod r.ph){a:I Int}{m:I T}{sn:I (T×C)}{x:T}{P:I T}(h:RI r.ph n a m sn (x::P)){ρ:Type}{Q:ρ->Prop} {next:I Int×I T×I (T×C)×I T->O ρ} (hn :∀a' Z J U,RI r.ph n a' Z J U->U.length+(4097-J.length)<(x::P).length+(4097-sn.length)->Ok (next (a',Z,J,U)) Q) : Ok (AB (τ:=(I Int)×(I T)×(I (T×C))×(I T)) (λau=>Wb (mu (x::P) 0) λax=>Wb (G5 r ax) λ(v12,ay)=>AB (τ:=(I T)) (λY=>if (!ay) then Wb (mu (x::P) 0) λab=>Wb (Cf m ab) λae=>Y ae else Y m ) λaz=>Wb (part (x::P) 1 ((x::P).length:Int)) λb0=>AB (τ:=(I Int)) (λba=>AI (σ:=(I Int)) (λaf=>ba af ) (λa1 bb bp af=>Wb (FK af bb) λbc=>a1 bc ) v12.o3 0 a ) λbd=>AB (τ:=(I (T×C))×(I T)) (λbe=>AI (σ:=(I (T×C))×(I T)) (λ(v27,v28)=>be (v27,v28) ) (λa6 ag bq (v27,v28)=>Wb (some (Xau (A7 v27 ag) false)) λbf=>AB (τ:=(I (T×C))×(I T)) (λao=>if (!bf) then Wb (gN (α:=T) 16 v28 ([ag]:I T)) λbg=>ao ((BN v27 ag true),bg) else ao (v27,v28) ) λ(v35,v36)=>a6 (v35,v36) ) v12.ph 0 (sn,b0) ) λ(v37,bh)=>au (bd,az,v37,bh) ) λ(v39,v40,v41,bi)=>next (v39,v40,v41,bi)) Q:=by
 have br:=VX hm h.nd h.rn;have bj:=h.la;have bk:=h.lm;simp only[X12] at bj bk hn;have hx:=h.tk x (by simp);have a7:=h.rn x hx;rw[AC];have g0:mu (x::P) 0=some x:=BY (l:=x::P) (i:=0) (by simp);have p1:part (x::P) 1 ((x::P).length:Int)=some P:=by have:=QH (l:=x::P) (n:=1) (by simp);simpa using this
 rw[g0,AA,On,AA];dsimp only;rw[p1];have ah :∀K:I T->O ρ,(∀Z,Z.Pairwise (λa b=>yw a b=true)->(∀y,y∈Z↔y∈m\/(y=x/\EP r.ph x=none))->Z.length<=m.length+1->Ok (K Z) Q)->
   Ok (AB (τ:=(I T)) (λY=>if (!(EP r.ph x).isSome) then Wb (some x) λab=>Wb (Cf m ab) λae=>Y ae else Y m) K) Q:=by
  intro K hK;rw[AC];cases M:EP r.ph x with
  | some s=>rw[Wm (by simp)];exact hK m h.pm (by simp[M]) (by omega)
  | none=>
   rw[Wr (by simp),AA,Of h.pm (by omega),AA];refine hK _ ?_ (λy=>?_) ?_
   ·split
    ·exact h.pm
    exact Np dF pL h.pm ‹_›
   ·split
    ·simp only[M,and_true];constructor
     ·exact .inl
     rintro (h|rfl)
     ·exact h
     assumption
    rw[Fq];simp[M]
   split
   ·omega
   rw[Hw];omega
 refine ah _ λZ bl ai bu=>?_;rw[AA,AC];generalize V:(EP r.ph x).getD We=s;have bw:s.o3.length<=64/\s.ph.length<=64:=by
  cases M:EP r.ph x with
  | none=>rw[M] at V;subst V;exact⟨by simp[We],by simp[We]⟩
  | some s'=>rw[M] at V;simp only[Xb7] at V;subst V;exact⟨hm.a _ (G7 M).1,hm.s _ (G7 M).1⟩
 have bm :∀t∈r.ph,t.Name=x->t=s/\EP r.ph x=some s:=by intro t ht he;have:=hm.u.find ht;rw[he] at this;rw[this] at V;simp only[Xb7] at V;subst V;exact⟨rfl,this⟩
 have bx :∀y,y∈s.o3\/y∈s.o3->True:=λ_ _=>trivial;have aj:(s.o3≠[]\/s.ph≠[])->s∈r.ph/\s.Name=x:=by
  intro bn;cases M:EP r.ph x with
  | none=>rw[M] at V;subst V;simp[We] at bn
  | some s'=>rw[M] at V;simp only[Xb7] at V;subst V;exact G7 M
 refine qU h.pa (by omega) λa' bo ak bz=>?_;rw[AC];refine .xL (λi (p:I (T×C)×I T)=>(keys p.1).Nodup/\(∀q∈p.1,q.2=true)/\(∀y,y∈keys p.1↔y∈keys sn\/y∈s.ph.take i)/\(∀y∈p.2,y∈keys p.1)/\(∀y∈keys p.1,y∈keys sn\/y∈p.2)/\(∀y∈P,y∈p.2)/\p.2.length+sn.length=P.length+p.1.length)
  ⟨h.nd,h.tr,by simp,λy F=>h.tk y (X19 _ F),λy F=>.inl F,λy F=>F,rfl⟩ ?_ ?_
 ·rintro⟨J,U⟩ ⟨b1,b2,b3,yJ,b5,b6,b7⟩;simp only[Xcj] at b1 b2 b3 yJ b5 b6 b7;have a8 :∀y∈keys J,RN r.ph n y:=by
   intro y F;rcases (b3 y).1 F with F|F
   ·exact h.rn y F
   obtain⟨q1,q2⟩:=aj (.inr (λe=>by rw[e] at F;simp at F));exact .step q1 (by rw[q2];exact a7) F
  have ap:=VX hm b1 a8;refine hn a' Z J U ⟨bo,bl,b1,b2,a8,yJ,λy F=>?_,λy F=>?_,λy F=>?_,(b3 n).2 (.inl h.n0),by omega,by omega⟩ (by omega)
  ·rcases (ak y).1 F with F|F
   ·exact h.sa y F
   obtain⟨q1,q2⟩:=aj (.inl (λe=>by rw[e] at F;simp at F));exact⟨s,q1,by rw[q2];exact a7,F⟩
  ·rcases (ai y).1 F with F|⟨rfl,M⟩
   ·exact h.sm y F
   exact⟨a7,PC M⟩
  rcases b5 y F with al|al
  ·rcases h.pr y al with hp|⟨p1,p2⟩
   ·rcases Xa3.1 hp with rfl|hp
    ·refine .inr ⟨λt ht he=>?_,λan=>?_⟩
     ·obtain⟨e1,e2⟩:=bm t ht he;subst e1;exact⟨λz H=>(ak z).2 (.inr H),λz H=>(b3 z).2 (.inr H)⟩
     refine (ai _).2 (.inr ⟨rfl,?_⟩);cases M:EP r.ph y with
     | none=>rfl
     | some t=>exact absurd (G7 M).2 (an t (G7 M).1)
    exact .inl (b6 y hp)
   refine .inr ⟨λt ht he=>?_,λan=>(ai y).2 (.inl (p2 an))⟩;obtain⟨c1,c2⟩:=p1 t ht he;exact⟨λz H=>(ak z).2 (.inl (c1 z H)),λz H=>(b3 z).2 (.inl (c2 z H))⟩
  exact .inl al
 rintro nx y i ⟨J,U⟩ F ⟨b1,b2,b3,yJ,b5,b6,b7⟩ aq;simp only at b1 b2 b3 yJ b5 b6 b7;have hi:=(X16.1 F).1;have ht :∀z,z∈s.ph.take (i+1)↔z∈s.ph.take i\/z=y:=λz=>by rw[Xbz,F];simp
 have a8 :∀z∈keys J,RN r.ph n z:=by
  intro z H;rcases (b3 z).1 H with H|H
  ·exact h.rn z H
  have H:=List.mem_of_mem_take H;obtain⟨q1,q2⟩:=aj (.inr (λe=>by rw[e] at H;simp at H));exact .step q1 (by rw[q2];exact a7) H
 have ap:=VX hm b1 a8;simp only[AA];rw[AC,ZW b2];by_cases aa:y∈keys J
 ·rw[Wz aa,Wm (by decide)];refine aq _ ⟨b1,b2,λz=>?_,yJ,b5,b6,b7⟩;rw[b3,ht];constructor
  ·rintro (h|h)
   ·exact .inl h
   exact .inr (.inl h)
  rintro (h|h|rfl)
  ·exact .inl h
  ·exact .inr h
  exact (b3 _).1 aa
 rw[Xa5 aa,Wr (by decide)];refine .bind (Ok.gN (by decide) (by simp;omega)) λc0 ar=>?_;subst ar;refine aq _ ⟨Md b1,Wj b2 y,λz=>?_,λz H=>?_,λz H=>?_,λz H=>?_,?_⟩
 ·rw[Fj,b3,ht,or_assoc]
 ·rw[Fj];rcases X23.1 H with H|H
  ·exact .inl (yJ z H)
  exact .inr (by simpa using H)
 ·rcases Fj.1 H with H|rfl
  ·exact (b5 z H).imp id λh=>X23.2 (.inl h)
  exact .inr (by simp)
 ·exact X23.2 (.inl (b6 z H))
 simp only;rw[Px aa];simp only[X11,X12,X13];omega
def RI.init {L:I Set}(n:T):RI L n [] [] (BN [] n true) [n]:=by
 refine⟨.nil,.nil,by simp[BN],by simp[BN],?_,?_,by simp,by simp,?_,by simp[BN],by simp[BN],by simp[BN]⟩
 ·intro x F;simp[BN] at F;subst F;exact .base
 ·intro x F;simp[BN] at F⊢;exact F
 intro x F;simp[BN] at F;exact .inl (by simp[F])
def Ph {r:we}{n:T}(Q:Mod r.ph)(U :∀s∈r.ph,LD s)(V:PU r=true) : Ok (E6 r n) λF=>(EP r.ph n=none/\F=([],[],11))\/(∃s,EP r.ph n=some s/\F.2.2=0/\Cq r.ph n F.1 F.2.1):=by
 unfold E6;rw[Hj U,V,AA,Wm (by decide),On,AA];dsimp only;cases hf:EP r.ph n with
 | none=>exact .ite (λ_=>.ret (.inl ⟨rfl,rfl⟩)) λh=>absurd rfl h
 | some s=>
  refine .ite (λh=>absurd h (by simp)) λ_=>?_;refine .join (λp:I Int×I T=>Cq r.ph n p.1 p.2) (λk Y=>?_) λp hp=>.ret (.inr ⟨s,rfl,rfl,hp⟩);refine .wA (λp:(I Int)×(I T)×(I (T×C))×(I T)=>RI r.ph n p.1 p.2.1 p.2.2.1 p.2.2.2) (λp=>p.2.2.2.length+(4097-p.2.2.1.length)) (RI.init n) (BW (by simp[BN])) ?_;rintro next ⟨a,m,sn,P⟩ H J
  simp only at H;cases P with
  | nil=>dsimp only;rw[Wm (by simp)];exact Y (a,m) H.fin
  | cons x P=>dsimp only;rw[Wr (by simp)];exact bZ Q H λZ m' K M h1 h2=>J (Z,m',K,M) h1 h2
def Zl {V:Type}{m:I (Int×V)}(F:(m.map (·.1)).Nodup)(K :∀p∈m,-9223372036854775808<=p.1/\p.1<=9223372036854775807)(M:m.length<=1000000000000) : ∃r,SC m=some r/\(r.Pairwise λa b=>xF a b=true)/\∀x,x∈r↔x∈m.map (·.1):=by
 have P :∀a b c:Int,decide (a<=b)=true->decide (b<=c)=true->decide (a<=c)=true:=λa b c F K=>by simp at *;omega
 have H :∀a b:Int,(decide (a<=b) || decide (b<=a))=true:=λa b=>by simp;omega
 unfold SC;rw[Wr ⟨F,by simpa using λa b J=>K (a,b) J,M⟩];refine⟨_,rfl,?_,λx=>(List.mergeSort_perm _ _).mem_iff⟩;have hp:=List.pairwise_mergeSort P H (m.map (·.1));have Q:((m.map (·.1)).mergeSort λx y=>decide (x<=y)).Nodup:=(List.mergeSort_perm _ _).nodup_iff.2 F;refine (hp.and Q).imp λ{a b} ⟨q1,q2⟩=>?_;simp[xF] at q1⊢;omega
def Yv {V:Type}{m:I (T×V)}(M:(m.map (·.1)).Nodup)(P :∀p∈m,p.1.size<=Xb3)(Z:m.length<=1000000000000) : ∃r,SK m=some r/\(r.Pairwise λa b=>yw a b=true)/\∀x,x∈r↔x∈m.map (·.1):=by
 have ht :∀a b c:I S,decide (a<=b)=true->decide (b<=c)=true->decide (a<=c)=true:=λa b c M P=>by simp only[Wd] at *;exact List.le_trans M P
 have Q :∀a b:I S,(decide (a<=b) || decide (b<=a))=true:=λa b=>by simp only[Xcx,Wd];exact List.le_total a b
 unfold SK;rw[Wr ⟨M,by simpa using λa b H=>P (a,b) H,Z⟩];have F :∀b:T,(⟨b.data.toList.toArray⟩:T)=b:=λb=>by cases b;simp
 have J :∀l:I S,(⟨l.toArray⟩:T).toList=l:=λl=>by rw[SQ]
 have hp:=List.pairwise_mergeSort ht Q (m.map (·.1.data.toList));have K:(m.map (·.1.data.toList)).Nodup:=by
  have:m.map (·.1.data.toList)=(m.map (·.1)).map λb=>b.data.toList:=by simp
  rw[this];exact List.pairwise_map.2 (M.imp λ{a b} H e=>H (by rw[<- F a,<- F b,e]))
 have hn:((m.map (·.1.data.toList)).mergeSort λx y=>decide (x<=y)).Nodup:=(List.mergeSort_perm _ _).nodup_iff.2 K;refine⟨_,rfl,List.pairwise_map.2 ((hp.and hn).imp λ{a b} ⟨q1,q2⟩=>?_),λx=>?_⟩
 ·have Y :∀l,l∈((m.map (·.1.data.toList)).mergeSort λx y=>decide (x<=y))↔l∈m.map (·.1.data.toList):=λl=>(List.mergeSort_perm _ _).mem_iff;constructor
  ·intro U;obtain⟨l,hl,rfl⟩:=Xaf.1 U;obtain⟨p,hp,rfl⟩:=Xaf.1 ((Y l).1 hl);rw[F];exact Xaf.2 ⟨p,hp,rfl⟩
  intro U;obtain⟨p,hp,rfl⟩:=Xaf.1 U;refine Xaf.2 ⟨p.1.data.toList,(Y _).2 (Xaf.2 ⟨p,hp,rfl⟩),F _⟩
 rw[Pz,J,J];simp only[Wd] at q1;rcases List.le_iff_lt_or_eq.1 q1 with h|h
 ·exact h
 exact absurd h q2
structure PI (L:List Set)(n:ByteArray)(mt:List (ByteArray×Bool))(a:List (Int×Bool))(ms:List (ByteArray×Bool))(q:List ByteArray):Prop where
 nm:(keys mt).Nodup
 tm :∀p∈mt,p.2=true
 rm :∀x∈keys mt,(∃s∈L,s.Name=x)/\RN L n x
 na:(a.map (·.1)).Nodup
 ra :∀x∈a.map (·.1),∃s∈L,RN L n s.Name/\x∈s.o3
 ns:(keys ms).Nodup
 rs :∀x∈keys ms,RN L n x/\∀s∈L,s.Name≠x
 rq :∀x∈q,RN L n x
 cl :∀s∈L,s.Name∈keys mt->(∀y∈s.o3,y∈a.map (·.1))/\∀y∈s.ph,y∈q\/y∈keys mt\/y∈keys ms
 n0:n∈q\/n∈keys mt\/n∈keys ms
 la:a.length<=64*mt.length
 lm:ms.length+(q.length+65*(64-mt.length))<=4161
def PI.zY {L:I Set}{n:T}{F:I (T×C)}{a:I (Int×C)}{ms:I (T×C)}{q:I T}(H:Mod L)(h:PI L n F a ms q):F.length<=64:=by
 have J:=Lr (m:=L.map (·.Name)) h.nm λx K=>by obtain⟨⟨s,M,P⟩,_⟩:=h.rm x K;exact Xaf.2 ⟨s,M,P⟩
 have Q:=H.n;simp only[keys,X10] at J;omega
def PI.fin {L:I Set}{n:T}{K:I (T×C)}{a:I (Int×C)}{ms:I (T×C)}(h:PI L n K a ms []){ra:I Int}{rs:I T} (M:ra.Pairwise λa b=>xF a b=true) (P :∀x,x∈ra↔x∈a.map (·.1)) (Q:rs.Pairwise λa b=>yw a b=true) (U :∀x,x∈rs↔x∈ms.map (·.1)):Cq L n ra rs:=by
 have F :∀x,RN L n x->x∈keys K\/x∈keys ms:=by
  intro x V;induction V with
  | base=>simpa using h.n0
  | step H _ Y J=>
   rcases J with J|J
   ·simpa using (h.cl _ H J).2 _ Y
   exact absurd rfl ((h.rs _ J).2 _ H)
 refine⟨M,λx=>?_,Q,λx=>?_⟩
 ·rw[P];refine⟨h.ra x,λ⟨s,H,q1,q2⟩=>?_⟩;rcases F _ q1 with hp|hp
  ·exact (h.cl s H hp).1 x q2
  exact absurd rfl ((h.rs _ hp).2 s H)
 rw[U];refine⟨h.rs x,λ⟨q1,q2⟩=>?_⟩;rcases F _ q1 with hp|hp
 ·obtain⟨⟨s,H,Z⟩,_⟩:=h.rm x hp;exact absurd Z (q2 s H)
 exact hp
def PI.init (L:I Set)(n:T):PI L n [] [] [] [n]:=
 ⟨by simp[keys],by simp,by simp[keys],by simp,by simp,by simp[keys],by simp[keys],λx F=>by simp at F;subst F;exact .base,by simp[keys],by simp,by simp,by simp⟩
def o6 {L:I Set}(hu:C8 L){ρ:Type}{Q:ρ->Prop}{K:I (T×Set)->O ρ}(hK :∀m,(∀x,A7 m x=EP L x)->Ok (K m) Q) : Ok (AB (τ:=(I (T×Set))) (λk2=>AI (σ:=(I (T×Set))) (λM=>k2 M) (λF Z i6 M=>F (BN M Z.Name Z)) L 0 []) K) Q:=by
 rw[AC];refine .xL (λi (m:I (T×Set))=>∀x,A7 m x=EP (L.take i) x) (λx=>by simp[A7,EP]) (λm h=>hK m (by simpa using h)) ?_;intro next s i m P hI hn
 refine hn _ λx=>?_;rw[Go.AX.wV,Xbz,P,hI];unfold EP;rw[List.find?_append];have U:=(X16.1 P).1;have V:=(X16.1 P).2;by_cases H:s.Name=x
 ·have h0:(L.take i).find? (λs=>decide (s.Name=x))=none:=by
   rw[List.find?_eq_none];intro t ht J;have J:t.Name=x:=by simpa using J
   obtain⟨j,hj,rfl⟩:=Xad ht;rw[Xbe] at J;have Y:j<i:=by simp at hj;omega
   have:=(Xcy.1 hu) j i (by simp;omega) (by simpa using U) Y;simp only[Xb2] at this;exact this (by rw[J,V,H])
  simp[H,h0]
 have:(x==s.Name)=false:=by simpa using Ne.symm H
 simp[H,this]
def qY {a:I (Int×C)}{l:I Int}{ρ:Type}{Q:ρ->Prop}{K:I (Int×C)->O ρ}(V:(a.map (·.1)).Nodup) (Y :∀v,(v.map (·.1)).Nodup->(∀y,y∈v.map (·.1)↔y∈a.map (·.1)\/y∈l)->v.length<=a.length+l.length->Ok (K v) Q) : Ok (AI (σ:=(I (Int×C))) (λH=>K H) (λF J Z H=>F (BN H J true)) l 0 a) Q:=by
 refine .xL (λi v=>(v.map (·.1)).Nodup/\(∀y,y∈v.map (·.1)↔y∈a.map (·.1)\/y∈l.take i)/\v.length<=a.length+i) ⟨V,by simp,by simp⟩ (λv ⟨M,P,U⟩=>Y v M (by simpa using P) U) ?_;rintro next x i v hx ⟨M,P,U⟩ hn
 refine hn _ ⟨Md M,λy=>?_,Xb1 (Yw _ _ _) (by omega)⟩;rw[Fj,P,Xbz,hx,or_assoc];simp
def j0 {L:I Set}{n:T}(hm:Mod L){zD:I (T×Set)}(Y :∀x,A7 zD x=EP L x){H:I (T×C)}{a:I (Int×C)}{ms:I (T×C)}{x:T}{q:I T} (h:PI L n H a ms (x::q)) {ρ:Type} {Q:ρ->Prop} {next:I (T×C)×I (Int×C)×I (T×C)×I T->O ρ} (hn :∀Z a' a8 q',PI L n Z a' a8 q'->q'.length+65*(64-Z.length)<(x::q).length+65*(64-H.length)->Ok (next (Z,a',a8,q')) Q) : Ok (AB (τ:=(I (T×C))×(I (Int×C))×(I (T×C))×(I T)) (λah=>Wb (mu (x::q) 0) λaa=>Wb (some (Xau (A7 zD aa) (⟨Xac,[],[]⟩:Set))) λP=>Wb (some (Xdy (A7 zD aa))) λai=>AB (τ:=(I (T×C))×(I (Int×C))×(I (T×C))×(I T)) (λaj=>AB (τ:=(I (T×C))×(I (Int×C))×(I (T×C))×(I T)) (λab=>if (!ai) then Wb (mu (x::q) 0) λak=>ab (H,a,(BN ms ak true),(x::q)) else Wb (some (Xau (A7 H P.Name) false)) λal=>AB (τ:=(I (T×C))×(I (Int×C))×(I T)) (λae=>if (!al) then AB (τ:=(I (Int×C))) (λan=>AI (σ:=(I (Int×C))) (λa1=>an a1 ) (λU ao bd a1=>U (BN a1 ao true) ) P.o3 0 a ) λap=>Wb (gN (α:=T) 16 (x::q) P.ph) λaq=>ae ((BN H P.Name true),ap,aq) else ae (H,a,(x::q)) ) λ(v32,v33,ar)=>ab (v32,v33,ms,ar) ) λ(v35,v36,v37,au)=>aj (v35,v36,v37,au) ) λ(v39,v40,v41,ax)=>ah (v39,v40,v41,ax) ) λ(ay,v44,v45,v46)=>Wb (part v46 1 (v46.length:Int)) λaz=>next (ay,v44,v45,az)) Q:=by
 have af:=h.rq x (by simp);have be:=h.zY hm;have b0:=h.lm;have bf:=h.la;simp only[X12] at b0 hn;have g0:mu (x::q) 0=some x:=BY (l:=x::q) (i:=0) (by simp);have p1 :∀l:I T,part (x::l) 1 ((x::l).length:Int)=some l:=λl=>by have:=QH (l:=x::l) (n:=1) (by simp);simpa using this
 simp only[AC];rw[g0,AA,AA,AA,AA,Y];cases hf:EP L x with
 | none=>
  rw[Wr (by simp),p1,AA];have ba:=PC hf;have bg:=Yw ms x true;refine hn H a _ q ⟨h.nm,h.tm,h.rm,h.na,h.ra,Md h.ns,λy F=>?_,λy F=>h.rq y (X19 _ F),λs M J=>⟨(h.cl s M J).1,λy F=>?_⟩,?_,h.la,by omega⟩ (by omega)
  ·rcases Fj.1 F with F|rfl
   ·exact h.rs y F
   exact⟨af,ba⟩
  ·rw[Fj];rcases (h.cl s M J).2 y F with F|F|F
   ·rcases Xa3.1 F with rfl|F
    ·exact .inr (.inr (.inr rfl))
    exact .inl F
   ·exact .inr (.inl F)
   exact .inr (.inr (.inl F))
  rw[Fj];rcases h.n0 with F|F|F
  ·rcases Xa3.1 F with e|F
   ·exact .inr (.inr (.inr e))
   exact .inl F
  ·exact .inr (.inl F)
  exact .inr (.inr (.inl F))
 | some s=>
  obtain⟨M,V⟩:=G7 hf;rw[Wm (by simp)];simp only[Xb7];rw[ZW h.tm];by_cases J:s.Name∈keys H
  ·rw[Wz J,AA,Wm (by decide),p1,AA];have ag:x∈keys H:=by rw[<- V];exact J
   refine hn H a ms q ⟨h.nm,h.tm,h.rm,h.na,h.ra,h.ns,h.rs,λy F=>h.rq y (X19 _ F),λt ht J=>⟨(h.cl t ht J).1,λy F=>?_⟩,?_,h.la,by omega⟩ (by omega)
   ·rcases (h.cl t ht J).2 y F with F|F|F
    ·rcases Xa3.1 F with rfl|F
     ·exact .inr (.inl ag)
     exact .inl F
    ·exact .inr (.inl F)
    exact .inr (.inr F)
   rcases h.n0 with F|F|F
   ·rcases Xa3.1 F with e|F
    ·exact .inr (.inl (by rw[e];exact ag))
    exact .inl F
   ·exact .inr (.inl F)
   exact .inr (.inr F)
  rw[Xa5 J,AA,Wr (by decide)];refine qY h.na λa' bb a6 bh=>?_;have bi:=hm.a s M;have bj:=hm.s s M;refine .bind (Ok.gN (by decide) (by simp only[X12];omega)) λq2 bc=>?_;subst bc;have p2:part (x::q++s.ph) 1 ((x::q++s.ph).length:Int)=some (q++s.ph):=p1 (q++s.ph);rw[p2,AA];have bk:=Px J true;have bl:H.length<64:=by
   have h1:=Lr (l:=s.Name::keys H) (m:=L.map (·.Name)) (List.nodup_cons.2 ⟨J,h.nm⟩) λy F=>by
    rcases Xa3.1 F with rfl|F
    ·exact Xaf.2 ⟨s,M,rfl⟩
    obtain⟨⟨t,ht,he⟩,_⟩:=h.rm y F;exact Xaf.2 ⟨t,ht,he⟩
   have h2:=hm.n;simp only[X12,keys,X10] at h1;omega
  have a7:RN L n s.Name:=by rw[V];exact af
  refine hn _ a' ms _ ⟨Md h.nm,Wj h.tm _,λy F=>?_,bb,λy F=>?_,h.ns,h.rs,λy F=>?_,λt ht K=>?_,?_,by omega,by simp only[X11];omega⟩ (by simp only[X11];omega)
  ·rcases Fj.1 F with F|rfl
   ·exact h.rm y F
   exact⟨⟨s,M,rfl⟩,a7⟩
  ·rcases (a6 y).1 F with F|F
   ·exact h.ra y F
   exact⟨s,M,a7,F⟩
  ·rcases X23.1 F with F|F
   ·exact h.rq y (X19 _ F)
   exact .step M a7 F
  ·rcases Fj.1 K with K|K
   ·obtain⟨c1,c2⟩:=h.cl t ht K;refine⟨λy F=>(a6 y).2 (.inl (c1 y F)),λy F=>?_⟩;rw[Fj];rcases c2 y F with F|F|F
    ·rcases Xa3.1 F with rfl|F
     ·exact .inr (.inl (.inr V.symm))
     exact .inl (X23.2 (.inl F))
    ·exact .inr (.inl (.inl F))
    exact .inr (.inr F)
   have:=hm.u.eq ht M K;subst this;exact⟨λy F=>(a6 y).2 (.inr F),λy F=>.inl (X23.2 (.inr F))⟩
  rw[Fj];rcases h.n0 with F|F|F
  ·rcases Xa3.1 F with e|F
   ·exact .inr (.inl (.inr (by rw[e,V])))
   exact .inl (X23.2 (.inl F))
  ·exact .inr (.inl (.inl F))
  exact .inr (.inr F)
def Ll {r:we}{n:T}(Q:Mod r.ph)(hz :∀s∈r.ph,LD s)(U:n.size<=Xb3)(K :∀s∈r.ph,∀x∈s.o3,Bv x=true)(hv:PU r=true) : Ok (HC r n) λJ=>(EP r.ph n=none/\J=([],[],11))\/(∃s,EP r.ph n=some s/\J.2.2=0/\Cq r.ph n J.1 J.2.1):=by
 have M :∀x,RN r.ph n x->x.size<=Xb3:=by
  intro x V;cases V with
  | base=>exact U
  | step hs _ hy=>exact (hz _ hs).2 _ hy
 unfold HC;rw[JW hz,hv,AA,Wm (by decide)];refine o6 Q.u λzD H=>?_;rw[AA,AA,H];cases hf:EP r.ph n with
 | none=>exact .ite (λ_=>.ret (.inl ⟨rfl,rfl⟩)) λh=>absurd rfl h
 | some s=>
  refine .ite (λh=>absurd h (by simp)) λ_=>?_;refine .join (λp:I (Int×C)×I (T×C)=>∃P,PI r.ph n P p.1 p.2 []) (λk hk=>?_) ?_
  ·refine .wA (λp:(I (T×C))×(I (Int×C))×(I (T×C))×(I T)=>PI r.ph n p.1 p.2.1 p.2.2.1 p.2.2.2) (λp=>p.2.2.2.length+65*(64-p.1.length)) (PI.init _ n) (BW (by simp)) ?_;rintro next ⟨P,a,ms,q⟩ F Y
   simp only at F;cases q with
   | nil=>dsimp only;rw[Wm (by simp)];exact hk (a,ms) ⟨P,F⟩
   | cons x q=>dsimp only;rw[Wr (by simp)];exact j0 Q H F λZ a' a1 q' h1 h2=>Y (Z,a',a1,q') h1 h2
  rintro⟨a,ms⟩ ⟨P,F⟩;have a8:=F.zY Q;have a6:=F.la;have a7:=F.lm;dsimp only;simp only at a6 a7 F
  obtain⟨ra,e1,e2,e3⟩:=Zl F.na (λp hp=>by
   obtain⟨t,ht,_,V⟩:=F.ra p.1 (Xaf.2 ⟨p,hp,rfl⟩);have:=K t ht _ V;simp[Bv] at this
   omega) (by omega)
  obtain⟨rs,f1,f2,f3⟩:=Yv F.ns (λp hp=>M _ (F.rs p.1 (Xaf.2 ⟨p,hp,rfl⟩)).1) (by omega);rw[e1,AA,f1,AA];exact .ret (.inr ⟨s,rfl,rfl,F.fin e2 e3 f2 f3⟩)
def W6 :∀{l:I Set} {seen:I T},Oo seen l=true↔(l.map (·.Name)).Nodup/\(∀s∈l,s.Name∉seen)/\∀s∈l,T0 s=true
 | [],seen=>by simp[Oo]
 | x::t,seen=>by
  rw[Oo,X27,X27,W6,Xbu,List.nodup_cons];simp only[Xbj,Xb0,Xa3,forall_eq_or_imp,not_or];constructor
  ·rintro⟨⟨J,K⟩,M,H,P⟩;refine⟨⟨λU=>?_,M⟩,⟨J,λs F=>(H s F).2⟩,K,P⟩;obtain⟨s,F,Q⟩:=Xaf.1 U;exact (H s F).1 Q
  rintro⟨⟨J,K⟩,⟨M,H⟩,P,V⟩;exact⟨⟨M,P⟩,K,λs F=>⟨λQ=>J (Xaf.2 ⟨s,F,Q⟩),H s F⟩,V⟩
def VC {r:we}:PU r=true↔(C8 r.ph/\∀s∈r.ph,T0 s=true)/\(∀o∈r.pk,Uc o=true)/\r.ph.length<=64/\r.pk.length<=512:=by unfold PU C8;simp only[X27,Wd,Xa0,W6,Xes];simp
def Qk {s:Set}:T0 s=true↔wR s.Name=true/\s.o3.length<=64/\s.ph.length<=64/\(∀n∈s.o3,Bv n=true)/\∀x∈s.ph,wR x=true:=by unfold T0;simp only[X27,Wd,Xa0,Xes]
def Za {r:we}(h:PU r=true):Mod r.ph/\∀s∈r.ph,∀x∈s.o3,Bv x=true:=by obtain⟨⟨J,H⟩,_,K,_⟩:=VC.1 h;exact⟨⟨K,J,λs F=>(Qk.1 (H s F)).2.1,λs F=>(Qk.1 (H s F)).2.2.1⟩,λs F=>(Qk.1 (H s F)).2.2.2.1⟩
def V3 {s:T}(h:wR s=true):s.size<=Xb3:=by have F:Xb3=9223372036854775807:=rfl;unfold wR at h;simp only[X27,Wd] at h;omega
def iz {s:Set}(h:T0 s=true):LD s:=by obtain⟨F,_,_,_,H⟩:=Qk.1 h;exact⟨V3 F,λx J=>V3 (H x J)⟩
def nC {r:we}{n:T}(K :∀s∈r.ph,LD s)(V:n.size<=Xb3) :∃a m e,HC r n=some (a,m,e)/\E6 r n=some (a,m,e):=by
 cases F:PU r
 ·refine⟨[],[],1,?_,?_⟩
  ·unfold HC;rw[JW K,F,AA,Wr (by decide)]
  unfold E6;rw[Hj K,F,AA,Wr (by decide)]
 obtain⟨P,H⟩:=Za F;obtain⟨⟨a,m,e⟩,Y,Z⟩:=Ll P K V H F;obtain⟨⟨b,k,f⟩,g1,Q⟩:=Ph P K F (n:=n);refine⟨a,m,e,Y,?_⟩;rw[g1];rcases Z with ⟨q1,q2⟩|⟨s,q1,q2,q3⟩
 ·rcases Q with ⟨_,M⟩|⟨t,J,_,_⟩
  ·rw[q2,M]
  rw[q1] at J;simp at J
 rcases Q with ⟨J,_⟩|⟨t,_,M,U⟩
 ·rw[q1] at J;simp at J
 simp only at q2 q3 M U;obtain⟨e1,e2⟩:=q3.unique U;rw[e1,e2,q2,M]
def Ct (a:Addr):Int:=if a.V6 then 1 else 0
def JM (a:Addr):I Int:=[Ct a,a.Hi.toNat,a.Lo.toNat]
def X5 (o:kI):I Int:=[Ct o.fI.Addr,o.fI.Addr.Hi.toNat,o.fI.Addr.Lo.toNat,o.fI.vg,o.Max,o.tS]
def du (a b:kI):Int:=DV (X5 a) (X5 b)
def fZ (a b:j):Cc a b=some (bT a.toNat b.toNat):=by unfold Cc Ey bT;simp only[AA,Xd5,Xds,Xe7,Wd,gt_iff_lt];split<;>(try split)<;>rfl
def kr (a:Addr):HU a=some (Ct a):=by unfold HU Ct;split<;>rfl
def Yu (l t:I Int):zG (zG l::t)=zG (l++t):=by
 induction l with
 | nil=>rfl
 | cons x s F=>
  by_cases h:x=0
  ·simp only[zG,h,Xeq,List.cons_append] at F⊢;exact F
  simp[zG,h]
def Nw (a b:kI):E1 a b=some (du a b):=by unfold E1 Ft NL;simp only[kr,YC,fZ,lv,AA,Yu,List.cons_append,Xay];simp only[fb];rfl
def ZT (a b:I Int)(c d:I Int)(h:a.length=b.length):DV (a++c) (b++d)=if DV a b=0 then DV c d else DV a b:=by
 induction a generalizing b with
 | nil=>cases b with
  | nil=>simp[DV]
  | cons y t=>simp at h
 | cons x s F=>cases b with
  | nil=>simp at h
  | cons y t=>
   simp only[List.cons_append,DV];rw[F t (by simpa using h)];split
   ·simp
   split<;>simp
def kI.vR (a b:kI):kI.wa a b=true↔a=b:=by
 have h:=fI.vR a.fI b.fI;unfold fI.wa at h;unfold kI.wa;simp only[X27,Xdb,Xbr] at h⊢;rw[h];constructor
 ·rintro⟨F,H,J⟩;cases a;cases b;simp_all
 rintro rfl;exact⟨rfl,rfl,rfl⟩
def oh {a b:Addr}(h:Ct a=Ct b):a.V6=b.V6:=by unfold Ct at h;cases h1:a.V6<;>cases F:b.V6<;>simp_all
def U1 {a b:Addr}(h:JM a=JM b):a=b:=by simp only[JM,Xe3,Int.natCast_inj,Xdg,and_true] at h;obtain⟨F,H,J⟩:=h;have:=oh F;cases a;cases b;simp_all
def Zh {a b:kI}(h:X5 a=X5 b):a=b:=by simp only[X5,Xe3,and_true] at h;obtain⟨F,H,J,K,M,P⟩:=h;have:=@U1 a.fI.Addr b.fI.Addr (by unfold JM;rw[F,H,J]);obtain⟨⟨x,y⟩,u,v⟩:=a;obtain⟨⟨Q,U⟩,V,Y⟩:=b;simp_all
def pZ (f p q r s:Int)(h:p≠r\/q≠s):AB (τ:=C) (λF=>if decide (p<r)=true then F true else if (p==r)=true then F (cond false true (cond true (decide (q<s)) false)) else F false) (λv2=>if v2=true then some (-1:Int) else some 1)=some (DV [f,p,q] [f,r,s]):=by rw[AC];simp only[DV,Int.lt_irrefl,Xe7,Wd,Xbr,Xcq,Xcn];by_cases H:p < r<;>by_cases a2:p=r<;>by_cases a3:r < p<;>by_cases b1:q < s<;>by_cases b3:s < q<;>first|(exfalso;omega)|simp[H,a2,a3,b1,b3]
def YD (a b:Addr):LZ a b=some (DV (JM a) (JM b)):=by
 unfold LZ;by_cases h:a=b
 ·subst h;rw[Wr ((Addr.vR _ _).2 rfl),La]
 rw[Wm (λq=>h ((Addr.vR _ _).1 q))];unfold JM Ct;by_cases F:a.V6=b.V6
 ·rw[F,Wm (by simp)];refine pZ _ _ _ _ _ ?_;by_cases H:(a.Hi.toNat:Int)=b.Hi.toNat
  ·refine .inr λJ=>h (U1 ?_);unfold JM Ct;rw[F,H,J]
  exact .inl H
 rw[Wr (by simpa using F)];cases K:a.V6<;>cases M:b.V6<;>simp_all [DV]
def QT (a b:fI):EC a b=some (DV (JM a.Addr++[a.vg]) (JM b.Addr++[b.vg])):=by
 unfold EC;rw[YD,AA,ZT (JM a.Addr) (JM b.Addr) [a.vg] [b.vg] rfl];by_cases h:DV (JM a.Addr) (JM b.Addr)=0
 ·rw[Wm (by simpa using h),Wr h];simp only[DV,Wd,gt_iff_lt];split
  ·rfl
  split<;>rfl
 rw[Wr (by simpa using h),Wm h]
def jw (p q r s:Int)(e:C)(h:e=true↔(p=r/\q=s)):AB (τ:=C) (λF=>if decide (p<r)=true then F true else if (p==r)=true then F (cond false true (cond true (decide (q<s)) false)) else F false) (λv2=>if v2=true then some (-1:Int) else if e=true then some 0 else some 1)=some (DV [p,q] [r,s]):=by rw[AC];simp only[DV,h,Wd,Xbr,Xcq,Xcn];by_cases H:p < r<;>by_cases a2:p=r<;>by_cases a3:r < p<;>by_cases b1:q < s<;>by_cases b2:q=s<;>by_cases b3:s < q<;>first|(exfalso;omega)|simp[H,a2,a3,b1,b2,b3]
def YQ (a b:kI):Jn a b=some (du a b):=by
 unfold Jn;have e:du a b=DV ((JM a.fI.Addr++[a.fI.vg])++[a.Max,a.tS]) ((JM b.fI.Addr++[b.fI.vg])++[b.Max,b.tS]):=rfl;rw[QT,AA,e,ZT (JM a.fI.Addr++[a.fI.vg]) (JM b.fI.Addr++[b.fI.vg]) [a.Max,a.tS] [b.Max,b.tS] rfl];by_cases h:DV (JM a.fI.Addr++[a.fI.vg]) (JM b.fI.Addr++[b.fI.vg])=0
 ·rw[Wm (by simpa using h),Wr h];refine jw _ _ _ _ _ ((kI.vR _ _).trans ⟨λq=>by rw[q];exact⟨rfl,rfl⟩,λq=>Zh ?_⟩);show (JM a.fI.Addr++[a.fI.vg])++[a.Max,a.tS]=(JM b.fI.Addr++[b.fI.vg])++[b.Max,b.tS];rw[Ln (by rfl) h,q.1,q.2]
 rw[Wr (by simpa using h),Wm h]
def xf (a b:kI):C:=decide (du a b<0)
def Qi (a:kI):xf a a=false:=by unfold xf du;rw[La];rfl
def O7 (a b c:kI)(F:xf a b=true)(H:xf b c=true):xf a c=true:=by unfold xf du at *;simp only[Wd] at *;exact UH (by rfl) (by rfl) F H
def RD (a b:kI)(h:xf a b=false):a=b\/xf b a=true:=by
 unfold xf du at *;simp only[Xb0,Wd] at *;have:=Qm (X5 a) (X5 b);by_cases F:DV (X5 a) (X5 b)=0
 ·exact .inl (Zh (Ln (by rfl) F))
 exact .inr (by omega)
def Zr (a b:kI)(h:xf a b=true):xf b a=false:=by
 cases h1:xf b a
 ·rfl
 have:=O7 _ _ _ h h1;rw[Qi] at this;simp at this
def nj (a b c:kI)(F:xf a b=false)(H:xf b c=false):xf a c=false:=by
 rcases RD _ _ F with rfl|F
 ·exact H
 rcases RD _ _ H with rfl|H
 ·exact Zr _ _ F
 exact Zr _ _ (O7 _ _ _ H F)
def fM (a b:kI):xO E1 a b=xf a b:=by unfold xO;rw[Nw];rfl
def dP {l:I kI}(K:l.length<=1000000000):Ok (Gv E1 l) λr=>r.Perm l/\r.Pairwise λa b=>xf b a=false:=by obtain⟨r,J⟩:=Vv (cmp:=E1) (l:=l) (fJ (λa _ b _=>⟨_,Nw a b⟩) (λa _=>by rw[fM,Qi]) (λa _ b _ c _ F H=>by rw[fM] at *;exact O7 _ _ _ F H) (λa _ b _ c _ F H=>by rw[fM] at *;exact nj _ _ _ F H) K);obtain⟨F,H⟩:=M3 J;exact⟨r,J,F,H.imp λh=>by rw[fM] at h;exact h⟩
end Go.AX.Q25
end
