/-
  Texts of one proof, packed.
-/
import Derived.Test.YthbbpeeghmpcfaaGreatDoorR14
import Derived.Shelf.SlSortCmp.Insertion
import Derived.Sort.AssemblyPlain
set_option linter.all false
set_option maxRecDepth 100000
set_option maxHeartbeats 4000000
open List renaming length_map→X1,length_append→X2,getElem?_eq_getElem→X12,length_drop→X14,length_take→X15,mem_cons_of_mem→X16,length_replicate→X17,length_set→X18
open Option.some renaming inj→X22
open Bool renaming and_eq_true→X24
open List renaming range→Xbu
open Array renaming range→Xcv
section
namespace Go.AX
open Go.Sort
def Iv {X:Type}(cmp:X->X->C Int)(a b:X):I:=match cmp a b with
 | some r=>decide (r<0)
 | none=>false
def Wb {X:Type}(cmp:X->X->C Int)(l:O X):I:=
 (l.all λa=>l.all λb=>(cmp a b).isSome)&&(l.all λa=>!Iv cmp a a) &&
 (l.all λa=>l.all λb=>l.all λc=>!(Iv cmp a b) || !(Iv cmp b c) || Iv cmp a c) &&
 (l.all λa=>l.all λb=>l.all λc=>Iv cmp a b || Iv cmp b c || !(Iv cmp a c))&&decide (l.length<=1000000000)
def SM {X:Type}(l:O X)(i:Nat):C X:=l[min i (l.length-1)]?
def RT {X:Type}(cmp:X->X->C Int)(l:O X)(i j:Nat):Int:=match SM l i,SM l j with
 | some a,some b=>(cmp a b).getD 0
 | _,_=>0
def HQ {X:Type}(cmp:X->X->C Int)(l:O X):Array Nat:=Sort.pdq (Proofs.ltOf (RT cmp l)) (Xcv l.length) 0 l.length (Lib.bitLen l.length) true true
def Gf {X:Type}(cmp:X->X->C Int)(l:O X):C (O X):=match Wb cmp l with
 | true=>some ((HQ cmp l).toList.filterMap λi=>l[i]?)
 | false=>none
section
variable {X:Type} {cmp:X->X->C Int} {l:O X}
def KR (h:0<l.length)(i:Nat) :∃x∈l,SM l i=some x:=by
 have F:min i (l.length-1)<l.length:=by omega
 exact⟨l[min i (l.length-1)],Xad F,by unfold SM;exact X12 F⟩
def QX (h:Wb cmp l=true):(∀a∈l,∀b∈l,∃r,cmp a b=some r)/\(∀a∈l,Iv cmp a a=false)/\ (∀a∈l,∀b∈l,∀c∈l,Iv cmp a b=true->Iv cmp b c=true->Iv cmp a c=true)/\(∀a∈l,∀b∈l,∀c∈l,Iv cmp a b=false->Iv cmp b c=false->Iv cmp a c=false)/\l.length<=1000000000:=by
 simp only[Wb,X24,Xa6,Xy] at h;obtain⟨⟨⟨⟨P,Q⟩,U⟩,V⟩,Y⟩:=h;refine⟨λa F b H=>Option.isSome_iff_exists.1 (P a F b H),λa F=>by simpa using Q a F,λa F b H c J K M=>?_,λa F b H c J K M=>?_,Y⟩
 ·have:=U a F b H c J;simpa[K,M] using this
 have:=V a F b H c J;simpa[K,M] using this
def r4 (K :∀a∈l,∀b∈l,∃r,cmp a b=some r)(M :∀a∈l,Iv cmp a a=false) (P :∀a∈l,∀b∈l,∀c∈l,Iv cmp a b=true->Iv cmp b c=true->Iv cmp a c=true) (Q :∀a∈l,∀b∈l,∀c∈l,Iv cmp a b=false->Iv cmp b c=false->Iv cmp a c=false) (U:l.length<=1000000000):Wb cmp l=true:=by
 simp only[Wb,X24,Xa6,Xy];refine⟨⟨⟨⟨λa F b H=>Option.isSome_iff_exists.2 (K a F b H),λa F=>by simp[M a F]⟩,λa F b H c J=>?_⟩,λa F b H c J=>?_⟩,U⟩
 ·cases g1:Iv cmp a b
  ·simp
  cases g2:Iv cmp b c
  ·simp
  simp[P a F b H c J g1 g2]
 cases g1:Iv cmp a b
 ·cases g2:Iv cmp b c
  ·simp[Q a F b H c J g1 g2]
  simp
 simp
def IC (i j:Nat)(a b:X)(F:SM l i=some a)(H:SM l j=some b):Proofs.ltOf (RT cmp l) i j=Iv cmp a b:=by unfold Proofs.ltOf RT Iv;rw[F,H];cases h:cmp a b<;>simp[h]
def fD (h:Wb cmp l=true)(H:0<l.length):SWO (Proofs.ltOf (RT cmp l)):=by
 obtain⟨_,U,V,Y,_⟩:=QX h;refine⟨λx=>?_,λx y z=>?_,λx y z=>?_⟩
 ·obtain⟨a,J,F⟩:=KR H x;rw[IC x x a a F F];exact U a J
 ·obtain⟨a,J,F⟩:=KR H x;obtain⟨b,P,K⟩:=KR H y;obtain⟨c,Q,M⟩:=KR H z;rw[IC _ _ _ _ F K,IC _ _ _ _ K M,IC _ _ _ _ F M];exact V a J b P c Q
 obtain⟨a,J,F⟩:=KR H x;obtain⟨b,P,K⟩:=KR H y;obtain⟨c,Q,M⟩:=KR H z;rw[IC _ _ _ _ F K,IC _ _ _ _ K M,IC _ _ _ _ F M];exact Y a J b P c Q
def Pv (h:Wb cmp l=true)(K:0<l.length):(HQ cmp l).size=l.length/\(HQ cmp l).toList.Perm (Xbu l.length)/\∀i j,i<j->j<l.length->Proofs.ltOf (RT cmp l) (HQ cmp l)[j]! (HQ cmp l)[i]! = false:=by
 obtain⟨⟨H,_,M⟩,P⟩:=pdq_sorts (Proofs.ltOf (RT cmp l)) (fD h K) (Xcv l.length) 0 l.length (Lib.bitLen l.length) true true (Xef _) (by simp) (Or.inl rfl);have H:(HQ cmp l).size=l.length:=by simpa[HQ] using H
 refine⟨H,?_,λi j J Q=>P i j (Xef _) J Q⟩;have e1:((HQ cmp l).extract 0 l.length)=HQ cmp l:=by rw[<- H];exact Array.extract_size
 have e2:((Xcv l.length).extract 0 l.length)=Xcv l.length:=by
  have:(Xcv l.length).size=l.length:=by simp
  conv=>lhs;arg 3;rw[<- this]
  exact Array.extract_size
 have F:((HQ cmp l).extract 0 l.length).toList.Perm ((Xcv l.length).extract 0 l.length).toList:=M;rw[e1,e2] at F;simpa using F
def Rk (l:O X):(Xbu l.length).filterMap (λi=>l[i]?)=l:=by
 have :∀(n:Nat),n<=l.length->(Xbu n).filterMap (λi=>l[i]?)=l.take n:=by
  intro n;induction n with
  | zero=>intro _;simp
  | succ n H=>
   intro J;have F:n<l.length:=by omega
   rw[List.range_succ,List.filterMap_append,H (by omega),Xbr];simp[X12 F]
 rw[this _ (Xak _),Xd3]
def WG {r:O X}(h:Gf cmp l=some r)(Z:0<l.length):r.length=l.length/\∀i,i<l.length->(HQ cmp l)[i]!<l.length/\r[i]?=l[(HQ cmp l)[i]!]?:=by
 unfold Gf at h;split at h
 ·rename_i hs;obtain⟨Q,h2,h3⟩:=Pv hs Z;obtain rfl:=X22 h;have U :∀i∈(HQ cmp l).toList,i<l.length:=λi H=>by simpa using h2.mem_iff.1 H
  have key :∀(q:O Nat),(∀i∈q,i<l.length)->(q.filterMap λi=>l[i]?).length=q.length/\∀j (K:j<q.length),(q.filterMap λi=>l[i]?)[j]?=l[q[j]]?:=by
   intro q;induction q with
   | nil=>intro _;exact⟨rfl,λj K=>by simp at K⟩
   | cons x q ih=>
    intro V;obtain⟨M,P⟩:=ih λi H=>V i (X16 _ H);have Y:=V x (Xde ..);have e:(x::q).filterMap (λi=>l[i]?)=l[x]::q.filterMap λi=>l[i]?:=by rw[Xcd,X12 Y]
    rw[e];refine⟨by simp[M],λj K=>?_⟩;cases j with
    | zero=>simp[X12 Y]
    | succ j=>simpa using P j (by simpa using K)
  obtain⟨M,P⟩:=key (HQ cmp l).toList U;refine⟨by rw[M];simpa using Q,λi H=>?_⟩;have F:i<(HQ cmp l).toList.length:=by simpa[Q] using H
  have J:(HQ cmp l)[i]! = (HQ cmp l).toList[i]:=by rw[getElem!_pos _ i (by simpa using F)];simp
  rw[J];exact⟨U _ (Xad F),P i F⟩
 simp at h
def N6 {r:O X}(h:Gf cmp l=some r):r.Perm l/\r.Pairwise λa b=>Iv cmp b a=false:=by
 by_cases M:0<l.length
 ·have h0:=h;obtain⟨P,F⟩:=WG h M;unfold Gf at h;split at h
  ·rename_i V;obtain⟨h1,Y,Z⟩:=Pv V M;obtain rfl:=X22 h;refine⟨?_,?_⟩
   ·have:=Y.filterMap λi=>l[i]?;rwa [Rk] at this
   rw[List.pairwise_iff_getElem];intro i j hi hj J;have K:i<l.length:=by omega
   have H:j<l.length:=by omega
   obtain⟨Q,U⟩:=F i K;obtain⟨q1,q2⟩:=F j H;rw[X12 hi,X12 Q] at U;rw[X12 hj,X12 q1] at q2;have:=Z i j J H;rw[IC (cmp:=cmp) (l:=l) _ _ _ _ (by unfold SM;rw[Xem (by omega)];exact X12 q1) (by unfold SM;rw[Xem (by omega)];exact X12 Q)] at this;rw[X22 U,X22 q2];exact this
  simp at h
 have:l=[]:=Xag (by omega);subst this;unfold Gf at h;split at h
 ·obtain rfl:=X22 h;have:(HQ cmp ([]:O X)).toList.filterMap (λi=>([]:O X)[i]?)=[]:=by simp
  rw[this];exact⟨.refl _,.nil⟩
 simp at h
def Mc {r:O X}(h:Gf cmp l=some r):r.length=l.length:=(N6 h).1.length_eq
def eF (h:Wb cmp l=true) :∃r,Gf cmp l=some r:=by unfold Gf;rw[h];exact⟨_,rfl⟩
end
def NQ (l:O Int):C (O Int):=if l.length<4611686018427387904 then some (l.mergeSort λx y=>decide (x<=y)) else none
def jI {l r:O Int}(h:NQ l=some r):r.length=l.length:=by
 unfold NQ at h;split at h
 ·obtain rfl:=X22 h;simp
 simp at h
end Go.AX
end
