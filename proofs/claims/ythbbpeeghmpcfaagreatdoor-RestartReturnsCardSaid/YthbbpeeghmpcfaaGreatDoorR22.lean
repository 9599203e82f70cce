/-
  Texts of one proof, packed.
-/
import Derived.Test.YthbbpeeghmpcfaaGreatDoorR21
set_option linter.all false
set_option maxRecDepth 100000
set_option maxHeartbeats 4000000
open List renaming length_map→X1,length_append→X2,length_cons→X3,length_nil→X10,mem_singleton→X11,getElem?_eq_getElem→X12,length_drop→X14,length_take→X15,mem_cons_of_mem→X16,length_replicate→X17,length_set→X18,length_singleton→X19
open Option.some renaming injEq→X21,inj→X22
open Prod.mk renaming injEq→X23
open Bool renaming and_eq_true→X24,eq_iff_iff→X25
open Option renaming bind→Xx
open Int renaming toNat→Xa0,fdiv→Xc4,tdiv→Xd7
open List renaming replicate→Xaa
open UInt8 renaming ofNat→Xbw
section
namespace Go.AX.Q33
open Go Go.AX
def NG (b:O S):O S×O S×I:=match IQ b with
 | none=>([],[],false)
 | some (p,r)=>(p,r,true)
def Xr (x y:S)(t:O S):E3 (x::y::t)=some ((x.toNat*256+y.toNat:Nat):Int):=by unfold E3;have F:=x.toNat_lt;rw[Uu,AA,Wj,AA,oP (by omega) y.toNat_lt]
def Y3 {b:O S}(F:b.length<=1000000):HH b=some (NG b):=by
 match b,F with
 | [],_=>rfl
 | [x],_=>rfl
 | x::y::t,F=>
  have H:=x.toNat_lt;have J:=y.toNat_lt;simp only[X3] at F;unfold HH NG IQ;rw[AB,Xa1 (by simp only[X3,Xy];omega),Xr,AA,AK (x:=((x::y::t).length:Int)-2) (by simp only[X3];omega)];dsimp only;by_cases c:t.length<x.toNat*256+y.toNat
  ·rw[Xa2 c,Xa2 (by simp only[Xc2,Xy,X3];omega)]
  have e:AG (2+((x.toNat*256+y.toNat:Nat):Int))=((2+(x.toNat*256+y.toNat):Nat):Int):=by rw[AK (by omega)];omega
  rw[Xa1 c,Xa1 (by simp only[Xc2,Xy,X3];omega),AA,e,show (2:Int)=((2:Nat):Int) by rfl,Ds (by omega) (by simp only[X3];omega),AA,Fo (by simp only[X3];omega),AA];have e1:2+(x.toNat*256+y.toNat)-2=x.toNat*256+y.toNat:=by omega
  have e2:2+(x.toNat*256+y.toNat)=(x.toNat*256+y.toNat)+2:=by omega
  rw[e1,e2];rfl
def VT (a:Addr):Ii a=some a.ok:=by unfold Ii Addr.ok;rw[AB];generalize ((a.Hi.toNat:Int)==0)=x;generalize decide ((a.Lo.toNat:Int)<4294967296)=y;generalize a.V6=z;cases z<;>cases x<;>rfl
def Rr (a:Addr):CG a=some (a.w:Int):=by unfold CG Addr.w;split<;>rfl
def iy {a:Addr}{n:Nat}(F:a.ok=true)(H:n<=a.w):H4 a (n:Int)=some (⟨a.cut n,n⟩,0):=by unfold H4;rw[VT,AA,F,Xa1 (by decide),AB,Xa1 (by simp only[Xy];omega),Rr,AA];dsimp only;rw[Xa1 (by simp only[Xc2,Xy];omega),Rt a H,AA]
def vJ (x:S):AG (1+AG (Xd7 (AG ((x.toNat:Int)+7)) 8))=((1+pk x:Nat):Int)/\AG (Xd7 (AG ((x.toNat:Int)+7)) 8)=(pk x:Int):=by
 have F:=x.toNat_lt;have e:AG (Xd7 (AG ((x.toNat:Int)+7)) 8)=(pk x:Int):=by unfold pk;rw[AK (x:=(x.toNat:Int)+7) (by omega),Int.tdiv_eq_ediv_of_nonneg (by omega),AK (by omega)];omega
 refine⟨?_,e⟩;rw[e];have:pk x<=40:=by unfold pk;omega
 rw[AK (by omega)];omega
def lc {w:Nat}{ys:O S}(h:ys.length<=w):Qt (Xaa w (0:S)) 0 (Xaa w (0:S)).length ys=ys++Xaa (w-ys.length) 0:=by unfold Qt;rw[List.take_zero,Xah,X17,Xdh h,List.drop_replicate];congr 2;omega
def Ha {b:O S}(Q:b.length<=1000000)(za:I):BY b za=some (nJ za b):=by
 unfold BY;have hw:pw za=4\/pw za=16:=by unfold pw;cases za<;>simp
 have U :∀(K:Int->C (O fI×I)),AC (τ:=Int) (λP=>if za then P 128 else P 32) K=K ((8*pw za:Nat):Int):=by intro K;rw[AB];cases za<;>rfl
 rw[U,AB];have V:AG (Xd7 ((8*pw za:Nat):Int) 8)=(pw za:Int):=by rw[Int.tdiv_eq_ediv_of_nonneg (by omega),AK (by omega)];omega
 rw[V];refine (Bq (λs:O S×O fI=>s.1.length+s.2.length<=1000000) (λs=>s.1.length) (λs=>match II za s.1 s.2 with|none=>some ([],false)|some l=>some (l,true)) ?_ xv (b,[]) (by simpa using Q) (BE (by simp only;omega))).trans ?_
 ·rintro next ⟨v,Y⟩ H J
  dsimp only at H⊢;match v,H,J with
  | [],_,_=>rfl
  | x::t,H,J=>
   have hx:=x.toNat_lt;obtain⟨Z,p2⟩:=vJ x;simp only[X3] at H;rw[Xa2 (by simp),Uu,AA,WE,AB,Z];unfold K8;by_cases c1:8*pw za<x.toNat
   ·rw[Xa2 (by simp only[Xy];omega),Xa2 (.inl c1)];rfl
   rw[Xa1 (by simp only[Xy];omega)];dsimp only;by_cases c2:t.length<pk x
   ·rw[Xa2 (by simp only[Xc2,Xy,X3];omega),Xa2 (.inr c2)]
   have hk:=tN c1;rw[Xa1 (by simp only[Xc2,Xy,X3];omega),Xa1 (λq=>q.elim c1 c2),show (1:Int)=((1:Nat):Int) by rfl,Ds (l:=x::t) (a:=1) (b:=1+pk x) (by omega) (by simp only[X3];omega)];have e4:((x::t).drop 1).take (1+pk x-1)=t.take (pk x):=by
    have:1+pk x-1=pk x:=by omega
    rw[this];rfl
   have M:=jC (za:=za) (n:=x) (t:=t) c1 c2;obtain⟨a1,a2,a3,a4⟩:=Qz M;have e5:Qt (Xaa (Xa0 (pw za:Int)) (0:S)) 0 (Xaa (Xa0 (pw za:Int)) (0:S)).length (t.take (pk x))=WX za x t:=by
    have F:(t.take (pk x)).length=pk x:=by simp only[X15];omega
    rw[Xax,lc (by omega),F];rfl
   have e6:(x::t).drop (1+pk x)=t.drop (pk x):=by rw[Xdj];rfl
   have e7:Ch (0<=(pw za:Int)/\(pw za:Int)<=(pw za:Int)/\(pw za:Int)<=1048576)=some ():=Xa2 (by omega);rw[e7,AA,AA,e4,e5,a1,AA];dsimp only;rw[iy a3 (by omega),AA];dsimp only;rw[AD (by decide) (by simp only[X19];omega),AA,Fo (by simp only[X3];omega),AA,e6];exact J _ (by simp only[X2,X14,X3,X10];omega) (by simp only[X14,X3];omega)
 unfold nJ;cases II za b []<;>rfl
def V4 (x:gL)(t:O gL)(k:Int):DK (x::t) k=if (x.gE==k)=true then x::DK t k else DK t k:=by unfold DK;rw[Xch]
def tX (x:S)(n:Nat)(h:n<256):((x.toNat:Int) !=(n:Int))=!decide (x=Xbw n):=by
 have:(x=Xbw n)↔x.toNat=n:=by rw[<- UInt8.toNat_inj,Xam,Xbf h]
 rw[X25];simp only[Xf0,ne_eq,Int.natCast_inj,Xbd,Xav,this]
def Zg {l:O S}{i:Nat}(h:i<l.length):gN l (i:Int)=some l[i]:=Ae h
def Z5 (a b:O S):De a b=some (a==b):=by unfold De;rw[MJ,MJ]
def Xe (d:O S):Cq d [0,2,1]=some (if R3 d=true then (d.drop 3,true) else (d,false)):=by
 have H:Cp d [0,2,1]=some (R3 d):=by
  unfold Cp;rw[AB];by_cases F:d.length<3
  ·have:R3 d=false:=by
    unfold R3;match d,F with
    | [],_=>rfl
    | [_],_=>simp
    | [_,_],_=>simp
   rw[this,Xa1 (by simp only[X3,X10,Xy];omega)]
  rw[Xa2 (by simp only[X3,X10,Xy];omega)];have p:part d 0 (([0,2,1]:O S).length:Int)=some (d.take 3):=UT (n:=3) (by omega);rw[p,AA,Z5,AA];rfl
 unfold Cq;rw[H,AA];by_cases h:R3 d=true
 ·have F:3<=d.length:=by
   unfold R3 at h;rcases Xei d.length 3 with q|q
   ·match d,q with
    | [],_=>simp at h
    | [_],_=>simp at h
    | [_,_],_=>simp at h
   exact q
  have p:part d (([0,2,1]:O S).length:Int) (d.length:Int)=some (d.drop 3):=Fo (n:=3) F;rw[Xa2 h,Xa1 (by rw[h];decide),p,AA]
 rw[Xa1 h,Xa2 (by simpa using h)]
def Od:O gL->Er×Nat×Nat->C (Er×Nat×Nat)
 | [],s=>some s
 | x::t,(p,c,e)=>if x.gE=14 then (match Fa x.Data with
   | none=>none
   | some (a,l)=>Od t ({ p with next:=a,F0:=l },c+1,e)) else
  if x.gE=15 then (match FG x.Data with
   | none=>none
   | some l=>Od t ({ p with CD:=l },c,e+1)) else Od t (p,c,e)
def CV {x:gL}{t:O gL}{k:Int}(h:x.gE≠k):DK (x::t) k=DK t k:=by rw[V4,Xa1 (by simpa using h)]
def Hg {x:gL}{t:O gL}{k:Int}(h:x.gE=k):DK (x::t) k=x::DK t k:=by rw[V4,Xa2 (by simpa using h)]
def OZ :∀{l:O gL} {s:Er×Nat×Nat},Od l s=none->(∃x∈DK l 14,Fa x.Data=none)\/(∃x∈DK l 15,FG x.Data=none)
 | [],s,h=>by cases h
 | x::t,(p,c,e),h=>by
  unfold Od at h;split at h
  ·rename_i H;have F:x.gE≠15:=by omega
   rw[Hg H,CV F];split at h
   ·rename_i J;exact .inl ⟨x,by simp,J⟩
   rcases OZ h with ⟨y,K,q⟩|q
   ·exact .inl ⟨y,X16 _ K,q⟩
   exact .inr q
  rename_i H;split at h
  ·rename_i F;rw[CV H,Hg F];split at h
   ·rename_i J;exact .inr ⟨x,by simp,J⟩
   rcases OZ h with q|⟨y,K,q⟩
   ·exact .inl q
   exact .inr ⟨y,X16 _ K,q⟩
  rename_i F;rw[CV H,CV F];exact OZ h
structure SpR (l:List gL)(p q:Er)(c c' e e':Nat):Prop where
 c:c'=c+(DK l 14).length
 e:e'=e+(DK l 15).length
 a0:DK l 14=[]->q.next=p.next/\q.F0=p.F0
 a1 :∀x,DK l 14=[x]->Fa x.Data=some (q.next,q.F0)
 b0:DK l 15=[]->q.CD=p.CD
 b1 :∀x,DK l 15=[x]->FG x.Data=some q.CD
 k:q.zY=p.zY/\q.Fy=p.Fy/\q.Kj=p.Kj
def On :∀{l:O gL} {p q:Er} {c K e M:Nat},Od l (p,c,e)=some (q,K,M)->SpR l p q c K e M
 | [],p,q,c,K,e,M,h=>by simp only[Od,X21,X23] at h;obtain⟨rfl,rfl,rfl⟩:=h;exact⟨rfl,rfl,λ_=>⟨rfl,rfl⟩,λx P=>(by cases P),λ_=>rfl,λx P=>(by cases P),rfl,rfl,rfl⟩
 | x::t,p,q,c,K,e,M,h=>by
  unfold Od at h;split at h
  ·rename_i H;have F:x.gE≠15:=by omega
   split at h
   ·cases h
   rename_i a l Q;have J:=On h;refine⟨?_,?_,λz=>?_,λy z=>?_,λz=>?_,λy z=>?_,J.k⟩
   ·rw[Hg H,X3];have:=J.c;omega
   ·rw[CV F];exact J.e
   ·rw[Hg H] at z;cases z
   ·rw[Hg H] at z;obtain⟨rfl,U⟩:=List.cons.inj z;obtain⟨V,Y⟩:=J.a0 U;rw[Q,V,Y]
   ·rw[CV F] at z;exact J.b0 z
   rw[CV F] at z;exact J.b1 y z
  rename_i H;split at h
  ·rename_i F;split at h
   ·cases h
   rename_i l Q;have J:=On h;refine⟨?_,?_,λz=>?_,λy z=>?_,λz=>?_,λy z=>?_,J.k⟩
   ·rw[CV H];exact J.c
   ·rw[Hg F,X3];have:=J.e;omega
   ·rw[CV H] at z;exact J.a0 z
   ·rw[CV H] at z;exact J.a1 y z
   ·rw[Hg F] at z;cases z
   rw[Hg F] at z;obtain⟨rfl,U⟩:=List.cons.inj z;have V:=J.b0 U;rw[Q,V]
  rename_i F;have J:=On h;refine⟨?_,?_,λz=>?_,λy z=>?_,λz=>?_,λy z=>?_,J.k⟩
  ·rw[CV H];exact J.c
  ·rw[CV F];exact J.e
  ·rw[CV H] at z;exact J.a0 z
  ·rw[CV H] at z;exact J.a1 y z
  ·rw[CV F] at z;exact J.b0 z
  rw[CV F] at z;exact J.b1 y z
def ci {d:O S}(hd:d.length<=1000000){K:O S}{v9:I}(P:(if R3 d=true then (d.drop 3,true) else (d,false))=(K,v9)){ρ:Type}{B:C ρ}{G:Addr->O fI×I->C ρ}{L:C ρ} (F:L=(AC (τ:=I) (λH=>if (!v9) then H true else if (cond false true (decide ((K.length:Int)<18))) then H true else Xx (gN K 0) λV=>if (cond false true ((V.toNat:Int) !=16)) then H true else Xx (gN K 17) λY=>H (cond false true ((Y.toNat:Int) !=0)) ) λZ=>if Z then B else Xx (part K 1 17) λa6=>Xx (Au a6) λ(a7,v17)=>Xx (part K 18 (K.length:Int)) λa8=>Xx (BY a8 true) λv=>G a7 v)):match Fa d with
   | none=>L=B \/∃a l,L=G a (l,false)
   | some (a,l)=>L=G a (l,true):=by
 rw[AB] at F;by_cases Q:R3 d=true;case neg=>rw[Xa1 Q] at P;obtain⟨rfl,rfl⟩:=Prod.mk.inj P;rw[show Fa d=none from Xa1 (λq=>Q q.1)];exact .inl F
 rw[Xa2 Q] at P;obtain⟨rfl,rfl⟩:=Prod.mk.inj P;rw[Xa1 (by decide)] at F;by_cases hl:d.length<21
 ·rw[Xa2 (by simp only[Xc2,Xy,X14];omega)] at F;rw[show Fa d=none from Xa1 (λq=>by omega)];exact .inl F
 rw[Xa1 (by simp only[Xc2,Xy,X14];omega)] at F;have g0:gN (d.drop 3) 0=some (d.getD 3 0):=by
  have:=Zg (l:=d.drop 3) (i:=0) (by simp only[X14];omega);have e:(d.drop 3)[0]'(by simp only[X14];omega)=d.getD 3 0:=by rw[Xbx,Xa8,X12 (by omega),Xaz]
  rw[<- e];exact this
 have aa:gN (d.drop 3) 17=some (d.getD 20 0):=by
  have:=Zg (l:=d.drop 3) (i:=17) (by simp only[X14];omega);have e:(d.drop 3)[17]'(by simp only[X14];omega)=d.getD 20 0:=by rw[Xbx,Xa8,X12 (by omega),Xaz]
  rw[<- e];exact this
 have c3:(((d.getD 3 0).toNat:Int) !=16)=!decide (d.getD 3 0=16):=tX _ 16 (by omega);have ab:(((d.getD 20 0).toNat:Int) !=0)=!decide (d.getD 20 0=0):=tX _ 0 (by omega);rw[g0,AA,aa,AA,c3,ab] at F;by_cases U:d.getD 3 0=16;case neg=>rw[Xa2 (by simp only[U,decide_false,Bool.not_false,Xc2])] at F;rw[show Fa d=none from Xa1 (λq=>U q.2.2.1)];exact .inl F
 rw[Xa1 (by simp only[U,Xf3,Xe4,Xc2];decide)] at F;by_cases J:d.getD 20 0=0;case neg=>rw[Xa9 J] at F;rw[show Fa d=none from Xa1 (λq=>J q.2.2.2)];exact .inl F
 have p1:part (d.drop 3) 1 17=some ((d.drop 4).take 16):=by have:=Ds (l:=d.drop 3) (a:=1) (b:=17) (by omega) (by simp only[X14];omega);rw[List.drop_drop] at this;exact this
 have p2:part (d.drop 3) 18 ((d.drop 3).length:Int)=some (d.drop 21):=by have:=Fo (l:=d.drop 3) (n:=18) (by simp only[X14];omega);rw[List.drop_drop] at this;exact this
 have M:((d.drop 4).take 16).length=pw true:=by show _=16;simp only[X15,X14];omega
 rw[Xa4 J] at F;dsimp only at F;rw[Xa1 (by decide),p1,AA,(Qz M).1,AA] at F;dsimp only at F;rw[p2,AA,Ha (by simp only[X14];omega),AA] at F;unfold nJ at F;rw[show Fa d=_ from Xa2 ⟨Q,by omega,U,J⟩];cases hx:II true (d.drop 21) [] with
 | none=>rw[hx] at F;exact .inr ⟨_,_,F⟩
 | some l=>rw[hx] at F;exact F
def Xa {p:Er}(hl:p.zY.length<=1000000)(hd :∀x∈p.zY,x.Data.length<=1000000) :∃r,CJ p=some r/\(match Od p.zY (p,0,0) with
  | none=>r.1=false
  | some (q,c,e)=>r=(decide (c<2)&&decide (e<2),q)):=by
 unfold CJ;rw[AB];generalize hR:Od p.zY (p,0,0)=R;refine fO (λ(t:O gL) _ (s:Er×O (Int×Int))=>(∃c e:Nat,(A1 s.2 14).getD 0=(c:Int)/\(A1 s.2 15).getD 0=(e:Int)/\c+e+t.length<=1000000/\Od t (s.1,c,e)=R)/\∀x∈t,x.Data.length<=1000000) _ ?_ ?_ p.zY 0 (p,[]) ⟨⟨0,0,rfl,rfl,by omega,hR⟩,hd⟩
 ·rintro i ⟨v2,V⟩ ⟨⟨c,e,M,P,h3,F⟩,_⟩;have F:some (v2,c,e)=R:=F;subst F;refine⟨(decide (c<2)&&decide (e<2),v2),?_,rfl⟩;dsimp only at M P⊢;rw[AB,AA,M,AA,P];by_cases hc:c<2
  ·rw[Xa2 (by simp only[Xy];omega),Xa4 hc];have:decide ((e:Int)<2)=decide (e<2):=by rw[Xdw];omega
   rw[this];rfl
  rw[Xa1 (by simp only[Xy];omega),Xa9 hc];rfl
 rintro next x t i ⟨v2,V⟩ ⟨⟨c,e,M,P,h3,F⟩,Y⟩ hn
 have a6:=Y x (by simp);have Q :∀y∈t,y.Data.length<=1000000:=λy hy=>Y y (X16 _ hy);simp only[X3] at M P h3 F;dsimp only;obtain⟨v8,v9,U⟩ :∃v8 v9,(if R3 x.Data=true then (x.Data.drop 3,true) else (x.Data,false))=(v8,v9):=⟨_,_,rfl⟩;rw[AA,Xe,U,AA];dsimp only;rw[AB];by_cases H:x.gE=14
 ·rw[Xa2 (by rw[H];rfl)];have K:=ci a6 U (B:=some (false,v2)) (G:=λa q=>if (!q.2) then some (false,{ v2 with next:=a,F0:=q.1 }) else next ({ v2 with next:=a,F0:=q.1 },A3 V x.gE (AG ((A1 V x.gE).getD 0+1)))) rfl;unfold Od at F;rw[Xa2 H] at F;cases hr:Fa x.Data with
  | none=>
   rw[hr] at K F;have F:none=R:=F;subst F;rcases K with K|⟨a,l,K⟩
   ·exact⟨_,K,rfl⟩
   exact⟨_,K,rfl⟩
  | some q=>
   obtain⟨a,l⟩:=q;rw[hr] at K F;dsimp only at K F;rw[Xa1 (by decide)] at K
   obtain⟨r,g1,g2⟩:=hn ({ v2 with next:=a,F0:=l },A3 V x.gE (AG ((A1 V x.gE).getD 0+1))) ⟨⟨c+1,e,by
    rw[Ay,Xa2 H.symm,H,M,Xaz,AK (by omega)];omega,by
    rw[Ay,Xa1 (by omega)];exact P,by omega,F⟩,Q⟩
   exact⟨r,Eq.trans K g1,g2⟩
 rw[Xa1 (by simpa using H),AB];unfold Od at F;rw[Xa1 H] at F;by_cases J:x.gE=15
 ·rw[Xa2 (by rw[J];rfl),AB];rw[Xa2 J] at F;by_cases Z:R3 x.Data=true
  ·rw[Xa2 Z] at U;obtain⟨rfl,rfl⟩:=Prod.mk.inj U;rw[Xa2 rfl,Ha (by simp only[X14];omega),AA];rw[show FG x.Data=_ from Xa2 Z] at F;unfold nJ;cases hx:II true (x.Data.drop 3) [] with
   | none=>rw[hx] at F;have F:none=R:=F;subst F;exact⟨_,rfl,rfl⟩
   | some l=>
    rw[hx] at F;dsimp only at F⊢;rw[Xa1 (by decide)]
    exact hn _ ⟨⟨c,e+1,by
     rw[Ay,Xa1 (by omega)];exact M,by
     rw[Ay,Xa2 J.symm,J,P,Xaz,AK (by omega)];omega,by omega,F⟩,Q⟩
  rw[Xa1 Z] at U;obtain⟨rfl,rfl⟩:=Prod.mk.inj U;rw[show FG x.Data=none from Xa1 Z] at F;have F:none=R:=F;subst F;exact⟨_,rfl,rfl⟩
 rw[Xa1 (by simpa using J)];rw[Xa1 J] at F;dsimp only;rw[Xa1 (by decide)];refine hn _ ⟨⟨c,e,?_,?_,by omega,F⟩,Q⟩
 ·dsimp only;rw[Ay,Xa1 (by omega)];exact M
 dsimp only;rw[Ay,Xa1 (by omega)];exact P
def Yr {l:O gL}(h :∃x∈DK l 14,Fa x.Data=none):GK l=none:=by
 obtain⟨x,F,H⟩:=h;unfold GK;match DK l 14,F with
 | [y],F=>rw[X11] at F;subst F;exact H
 | _::_::_,_=>rfl
def VU {l:O gL}(h :∃x∈DK l 15,FG x.Data=none):DO l=none:=by
 obtain⟨x,F,H⟩:=h;unfold DO;match DK l 15,F with
 | [y],F=>rw[X11] at F;subst F;exact H
 | _::_::_,_=>rfl
def ZV {l:O gL}(h:2<=(DK l 14).length):GK l=none:=by
 unfold GK;match DK l 14,h with
 | [],h=>simp at h
 | [_],h=>simp at h
 | _::_::_,_=>rfl
def VI {l:O gL}(h:2<=(DK l 15).length):DO l=none:=by
 unfold DO;match DK l 15,h with
 | [],h=>simp at h
 | [_],h=>simp at h
 | _::_::_,_=>rfl
def SpR.reach {l:O gL}{p q:Er}{c M e P:Nat}(h:SpR l p q c M e P)(K:p.next=Mm/\p.F0=[])(F:(DK l 14).length<2):GK l=some (q.next,q.F0):=by
 have H:=h.a0;have J:=h.a1;unfold GK;match DK l 14,H,J,F with
 | [],H,_,_=>obtain⟨e1,e2⟩:=H rfl;rw[e1,e2,K.1,K.2]
 | [x],_,J,_=>exact J x rfl
 | _::_::t,_,_,F=>exact absurd F (by simp only[X3];omega)
def SpR.T5 {l:O gL}{p q:Er}{c K e M:Nat}(h:SpR l p q c K e M)(P:p.CD=[])(F:(DK l 15).length<2):DO l=some q.CD:=by
 have H:=h.b0;have J:=h.b1;unfold DO;match DK l 15,H,J,F with
 | [],H,_,_=>have e1:=H rfl;rw[e1,P]
 | [x],_,J,_=>exact J x rfl
 | _::_::t,_,_,F=>exact absurd F (by simp only[X3];omega)
def kh {ρ:Type}(x y A B C D:I)(K:I->Option ρ):AC (τ:=I) (λF=>if (!x)=true then F true else if (cond false true (!y))=true then F true else if A=true then if (cond false true (cond true B false))=true then F true else if (cond false true C)=true then F true else F (cond false true D) else if (cond false true C)=true then F true else F (cond false true D)) K=K (!x || (!y || ((A&&B) || (C || D)))):=by rw[AB];cases x<;>cases y<;>cases A<;>cases B<;>cases C<;>cases D<;>rfl
def uk (Fw gone four za:O fI):(decide ((four.length:Int)>0)&&decide ((za.length:Int)>0) || (decide ((Fw.length:Int)+gone.length>256) || decide ((four.length:Int)+za.length>256)))=!SP Fw gone four za:=by
 have e1:decide ((four.length:Int)>0)=decide (0<four.length):=by rw[Xdw];omega
 have e2:decide ((za.length:Int)>0)=decide (0<za.length):=by rw[Xdw];omega
 have e3:decide ((Fw.length:Int)+gone.length>256)=!decide (Fw.length+gone.length<=256):=by rw[<- decide_not,Xdw];omega
 have e4:decide ((four.length:Int)+za.length>256)=!decide (four.length+za.length<=256):=by rw[<- decide_not,Xdw];omega
 rw[e1,e2,e3,e4];unfold SP;cases decide (0 < four.length)<;>cases decide (0 < za.length)<;>cases decide (Fw.length+gone.length<=256)<;>cases decide (four.length+za.length<=256)<;>rfl
def PN {za:I}{b:O S}{l:O fI}(h:II za b []=some l):l.length<=b.length:=by have:=gP za _ _ _ _ h;simpa using this
def XO {l:O gL}{N:Nat}(H :∀x∈l,x.Data.length<=N){p:O fI}(h:DO l=some p):p.length<=N:=by
 unfold DO at h;have F :∀x∈DK l 15,x.Data.length<=N:=λx J=>H x (Xb2.1 J).1;match DK l 15,F,h with
 | [],_,h=>obtain rfl:=X22 h;simp
 | [x],F,h=>
  have h:FG x.Data=some p:=h;unfold FG at h;split at h
  ·have:=PN h;have:=F x (by simp);simp only[X14] at *;omega
  cases h
def bI {l:O gL}{N:Nat}(J :∀x∈l,x.Data.length<=N){a:Addr}{p:O fI}(h:GK l=some (a,p)):p.length<=N:=by
 unfold GK at h;have F :∀x∈DK l 14,x.Data.length<=N:=λx K=>J x (Xb2.1 K).1;match DK l 14,F,h with
 | [],_,h=>simp only[X21,X23] at h;obtain⟨_,rfl⟩:=h;simp
 | [x],F,h=>
  have h:Fa x.Data=some (a,p):=h;unfold Fa at h;split at h
  ·obtain⟨q,M,H⟩:=Xb3.1 h;simp only[X23] at H;obtain⟨_,rfl⟩:=H;have:=PN M;have:=F x (by simp);simp only[X14] at *;omega
  cases h
def p00:Er:=⟨[],(⟨false,(0:j),(0:j)⟩:Addr),[],[],[],[]⟩
def WQ {b:O S}(hb:b.length<=400000) :∃r,BQ p00 b=some r/\(match JB b with
  | none=>r.1=false
  | some P=>r=(true,⟨P.l,P.next,P.Fw,P.gone,P.four,P.za⟩)):=by
 unfold BQ JB;rw[Y3 (by omega),AA];unfold NG;cases h1:IQ b with
 | none=>exact⟨_,rfl,rfl⟩
 | some q=>
  obtain⟨w,b1⟩:=q;have l1:=J3 h1;dsimp only;rw[Xa1 (by decide),Y3 (by omega),AA];unfold NG;cases h2:IQ b1 with
  | none=>exact⟨_,rfl,rfl⟩
  | some q=>
   obtain⟨a,K⟩:=q;have l2:=J3 h2;dsimp only;rw[Xa1 (by decide),cF (by omega),AA];unfold ml;cases h3:Ph a [] with
   | none=>exact⟨_,rfl,rfl⟩
   | some l=>
    obtain⟨s1,Q⟩:=Yn (by omega) h3;dsimp only;rw[NZ,AB,Xa1 (by decide)];obtain⟨r,hr,hq⟩:=Xa (p:={ p00 with zY:=l }) (by show l.length<=_;omega) (λx J=>by have:=Q x J;omega);rw[hr,AA]
    have F:(match Od l ({ p00 with zY:=l },0,0) with
     | none=>r.1=false
     | some (q,c,e)=>r=(decide (c<2)&&decide (e<2),q)):=hq
    cases U:Od l ({ p00 with zY:=l },0,0) with
    | none=>rw[U] at F;rw[E5 ((OZ U).imp Yr λz=>.inl (VU z))];obtain⟨r1,r2⟩:=r;have F:r1=false:=F;subst F;exact⟨_,rfl,rfl⟩
    | some z=>
     obtain⟨q,c,e⟩:=z;rw[U] at F;have F:r=(decide (c<2)&&decide (e<2),q):=F;subst F;have M:=On U;have c0:=M.c;have e0:=M.e;rw[Xbc] at c0 e0;by_cases V:(decide (c<2)&&decide (e<2))=true;case neg=>
      have:GK l=none\/DO l=none:=by
       rcases Xei c 2 with q1|q1
       ·rcases Xei e 2 with q2|q2
        ·exact absurd (by rw[Xa4 q1,Xa4 q2];rfl) V
        exact .inr (VI (by omega))
       exact .inl (ZV (by omega))
      rw[E5 (this.imp id .inl),Bool.not_eq_true _ |>.mp V];exact⟨_,rfl,rfl⟩
     rw[V];rw[X24,Xy,Xy] at V;have Z:=M.reach ⟨rfl,rfl⟩ (by omega);have hU:=M.T5 rfl (by omega);obtain⟨Y,k4,kn⟩:=M.k;have Y:q.zY=l:=Y;rw[Z,hU];have n6:=bI (N:=400000) (λx J=>Q x J) Z;have g6:=XO (N:=400000) (λx J=>Q x J) hU;dsimp only;rw[Xa1 (by decide),Ha (by omega),AA,Ha (by omega)];unfold nJ;cases hO:II false w [] with
     | none=>rw[E5 (.inr (.inr (.inl rfl)))];exact⟨_,rfl,rfl⟩
     | some Fw=>
      have lo:=PN hO;cases hF:II false K [] with
      | none=>rw[E5 (.inr (.inr (.inr rfl)))];exact⟨_,rfl,rfl⟩
      | some four=>
       have lf:=PN hF;dsimp only;rw[AA];dsimp only;rw[kh,AK (x:=(Fw.length:Int)+(q.CD.length:Int)) (by omega),AK (x:=(four.length:Int)+(q.F0.length:Int)) (by omega),uk,Y,Yu ⟨by omega,λx J=>by have:=Q x J;omega⟩,AA];rw[NY];cases hk:SP Fw q.CD four q.F0 with
       | false=>rw[Xa1 (show ¬ (false=true/\(HX l).2≠12) by simp)];exact⟨_,rfl,rfl⟩
       | true=>
        rw[Xa1 (by decide)];by_cases H:(HX l).2=12
        ·rw[Xa1 (λz=>z.2 H)];refine⟨_,rfl,?_⟩;show ((HX l).2 !=12)=false;rw[H];rfl
        rw[Xa2 ⟨rfl,H⟩];refine⟨_,rfl,?_⟩;have:((HX l).2 !=12)=true:=by simpa using H
        dsimp only;rw[this,<- Y]
def A6 {α σ ρ:Type}{K:σ->C ρ}{b:(σ->C ρ)->α->Nat->σ->C ρ}{x:α}{t:O α}{i:Nat}{s:σ}:AL K b (x::t) i s=b (λs=>AL K b t (i+1) s) x i s:=rfl
def Le {α σ ρ:Type}{K:σ->C ρ}{b:(σ->C ρ)->α->Nat->σ->C ρ}{i:Nat}{s:σ}:AL K b [] i s=K s:=rfl
def WJ {x y:O fI}(M:x.length<=100000)(P:y.length<=100000):An [x,y]=some (x++y):=by
 unfold An;rw[AB,A6];have e1:AG (0+(x.length:Int))=(x.length:Int):=by rw[AK (by omega)];omega
 have e2:AG ((x.length:Int)+(y.length:Int))=((x.length+y.length:Nat):Int):=by rw[AK (by omega)];omega
 rw[e1,Xa1 (by simp only[Xy];omega)];dsimp only;rw[A6,e2,Xa1 (by simp only[Xy];omega)];dsimp only;rw[Le];have e3:AG (((x.length+y.length:Nat):Int)-AG (0-0))=((x.length+y.length:Nat):Int):=by have:AG (0-0)=0:=AK (by omega);rw[this,AK (by omega)];omega
 have H :∀(K:O fI->C (O fI)),AC (τ:=(O fI)) (λF=>if (decide ((AG (((x.length+y.length:Nat):Int)-(AG (0-0))))>0)) then Xx (Ch (0<(AG (((x.length+y.length:Nat):Int)-(AG (0-0))))/\(AG (((x.length+y.length:Nat):Int)-(AG (0-0))))<=1048576)) λ_=>Xx (part (Xaa (Xa0 (AG (((x.length+y.length:Nat):Int)-(AG (0-0))))) (⟨(⟨false,(0:j),(0:j)⟩:Addr),0⟩:fI)) 0 0) λJ=>F J else F []) K=K []:=by
  intro K;rw[AB,e3];by_cases Q:x.length+y.length=0
  ·rw[Xa1 (by simp only[Xy];omega)]
  have p:part (Xaa (Xa0 ((x.length+y.length:Nat):Int)) (⟨(⟨false,(0:j),(0:j)⟩:Addr),0⟩:fI)) 0 0=some []:=by have:=Ds (l:=Xaa (Xa0 ((x.length+y.length:Nat):Int)) (⟨(⟨false,(0:j),(0:j)⟩:Addr),0⟩:fI)) (a:=0) (b:=0) (by omega) (by omega);rw[Nat.sub_self,List.take_zero] at this;exact this
  rw[Xa2 (by simp only[Xy];omega),show Ch _=some () from Xa2 (by omega),AA,p,AA]
 rw[AB,Xa1 (by simp only[Xy];omega),H];dsimp only;rw[AB,A6,AD (by decide) (by simp only[X10];omega),AA];dsimp only;rw[A6,AD (by decide) (by simp only[Xah];omega),AA];dsimp only;rw[Le,Xah]
def SY (q:Er)(t:Int):Bc q t=some (CC q.zY t,q):=by
 have H :∀(l:O gL) (i:Nat),∃n:Int,AL (σ:=Int) (λv2=>some (-1,v2)) (λF (M:gL) P v2=>Xx (CO M v2) λ(v6,K)=>if v6 then some ((P:Int),K) else F K) l i t=some (n,t)/\decide (n≥0)=CC l t:=by
  intro l;induction l with
  | nil=>intro i;exact⟨-1,rfl,rfl⟩
  | cons x l Q=>
   intro i;rw[A6];unfold CO;rw[AA];dsimp only;have U:CC (x::l) t=((x.gE==t) || CC l t):=by unfold CC;rw[Xd9];congr 1;exact X25.2 ⟨λh=>by rw[Xbh] at h⊢;exact h.symm,λh=>by rw[Xbh] at h⊢;exact h.symm⟩
   rw[U];by_cases J:(x.gE==t)=true
   ·rw[Xa2 J,J];exact⟨_,rfl,by simp⟩
   rw[Xa1 J,Bool.not_eq_true _ |>.mp J];exact Q (i+1)
 obtain⟨n,V,Y⟩:=H q.zY 0;unfold Bc AY Aa;rw[AB];show Xx (Xx (AL (σ:=Int) (λv2=>some (-1,v2)) _ q.zY 0 t) _) _=_;rw[V,AA,AA];dsimp only;rw[Y]
def bL (x:gL):BV x=some (Sx x):=by unfold BV Sx;rw[AB];show (if (x.gE==14)=true then some (cond true (bt x.Flags 192 !=128) false) else if (cond false true (x.gE==15))=true then some (cond true (bt x.Flags 192 !=128) false) else some false)=_;cases (x.gE==14)<;>cases (x.gE==15)<;>cases (bt x.Flags 192 !=128)<;>rfl
def dM (l:O gL):AU l=some (l.any Sx):=tJ (f:=BV) (q:=Sx) λx _=>bL x
def j3 (P:Pt):Ce ⟨P.l,P.next,P.Fw,P.gone,P.four,P.za⟩ (HX P.l).1 (HX P.l).2=some (ju P,⟨P.l,P.next,P.Fw,P.gone,P.four,P.za⟩):=by
 unfold Ce ju;rw[AB];by_cases he:(HX P.l).2=0
 ·rw[Xa1 (by rw[he];decide),dM,AA,SY,AA,Xa9 (λh=>h he)];dsimp only;rw[SY,AA];dsimp only;have e1:decide ((P.four.length:Int)>0)=decide (0<P.four.length):=by rw[Xdw];omega
  rw[e1];show (if (cond false true (P.l.any Sx))=true then _ else _)=_;have F:Addr.zn (HX P.l).1.Next (⟨false,(0:j),(0:j)⟩:Addr)=Addr.zn (HX P.l).1.Next Mm:=rfl;rw[F];cases P.l.any Sx<;>cases CC P.l 1<;>cases CC P.l 2<;>cases decide (0 < P.four.length)<;>cases Addr.zn (HX P.l).1.Next Mm<;>rfl
 rw[Xa2 (by simpa using he),Xa4 (p:=(HX P.l).2≠0) he];rfl
structure PtOK (b:List UInt8)(P:Pt):Prop where
 ok:SP P.Fw P.gone P.four P.za=true
 ne:(HX P.l).2≠12
 l:P.l.length<=400000
 d :∀x∈P.l,x.Data.length<=400000
 h :∃w b1 a rest,IQ b=some (w,b1)/\IQ b1=some (a,rest)/\Ph a []=some P.l/\GK P.l=some (P.next,P.za)/\DO P.l=some P.gone/\II false w []=some P.Fw/\II false rest []=some P.four
def WZ {b:O S}(Y:b.length<=400000){P:Pt}(h:JB b=some P):PtOK b P:=by
 unfold JB at h;split at h
 ·cases h
 rename_i w b1 h1;have Z:=J3 h1;split at h
 ·cases h
 rename_i a rest M;have l2:=J3 M;cases F:Ph a [] with
 | none=>rw[F] at h;cases h
 | some l=>
  rw[F,NZ] at h;obtain⟨U,V⟩:=Yn (by omega) F;cases H:GK l with
  | none=>rw[E5 (.inl H)] at h;cases h
  | some q=>
   obtain⟨n,za⟩:=q;cases J:DO l with
   | none=>rw[E5 (.inr (.inl J))] at h;cases h
   | some gone=>
    cases hO:II false w [] with
    | none=>rw[E5 (.inr (.inr (.inl hO)))] at h;cases h
    | some Fw=>
     cases K:II false rest [] with
     | none=>rw[E5 (.inr (.inr (.inr K)))] at h;cases h
     | some four=>
      rw[H,J,hO,K,NY] at h;split at h
      ·rename_i Q;obtain rfl:=X22 h;exact⟨Q.1,Q.2,U,V,w,b1,a,rest,h1,M,F,H,J,hO,K⟩
      cases h
def rH {Fw gone four za:O fI}(h:SP Fw gone four za=true):Fw.length+gone.length<=256/\four.length+za.length<=256/\¬ (0<four.length/\0<za.length):=by unfold SP at h;simp only[X24,Xbd,Xy,Bool.and_eq_false_iff,Xav] at h;omega
def sZ {α:Type}(l:O α):((l.length:Int)==0)=true↔l=[]:=by rw[Xbh,Int.natCast_eq_zero,List.length_eq_zero_iff]
def Yi {b:O S}(M:b.length<=400000):Fj b=some (qp b):=by
 unfold Fj qp;obtain⟨r,U,F⟩:=WQ M;show Xx (BQ p00 b) _=_;rw[U,AA];cases K:JB b with
 | none=>rw[K] at F;obtain⟨V,r2⟩:=r;have F:V=false:=F;subst F;rfl
 | some P=>
  rw[K] at F;have F:r=(true,⟨P.l,P.next,P.Fw,P.gone,P.four,P.za⟩):=F;subst F;obtain⟨Y,p2,p3,Z,_⟩:=WZ M K;obtain⟨n1,n2,_⟩:=rH Y;dsimp only;rw[Xa1 (by decide),WJ (by omega) (by omega),AA,show F4=some eA from rfl,AA,WJ (by omega) (by omega),AA];by_cases H:P.four++P.za=[]
  ·rw[Xa2 ((sZ _).2 H),Xa2 H]
  rw[Xa1 (λh=>H ((sZ _).1 h)),Xa1 H,Yu ⟨by omega,λx hx=>by have:=Z x hx;omega⟩,AA];rw[j3,AA];dsimp only;by_cases J:ju P=true
  ·rw[Xa2 J,Xa2 J,AD (by decide) (by simp only[X2];omega),AA]
  rw[Xa1 J,Xa1 J,AB];by_cases Q:0<P.za.length
  ·rw[Xa2 (by simp only[Xy];omega),Xa2 Q]
  rw[Xa1 (by simp only[Xy];omega),Xa1 Q]
def wr (x:gL)(n:Int):I:=decide (n>0)&&(bt x.Flags 192 !=128)
def eU :∀(l:O gL),l.any Sx=((DK l 14).any (λx=>bt x.Flags 192 !=128) || (DK l 15).any λx=>bt x.Flags 192 !=128)
 | []=>rfl
 | x::t=>by
  rw[Xd9,eU t];unfold Sx;by_cases F:x.gE=14
  ·rw[Hg F,CV (by omega:x.gE≠15),Xd9,F];show ((true || _)&&_ || _)=_;rw[Bool.true_or,Xco,Bool.or_assoc]
  by_cases H:x.gE=15
  ·rw[CV F,Hg H,Xd9,H];show ((false || true)&&_ || _)=_;rw[Bool.false_or,Xco];generalize (DK t 14).any _=a;generalize (DK t 15).any _=b;generalize (bt x.Flags 192 !=128)=c;cases a<;>cases b<;>cases c<;>rfl
  rw[CV F,CV H];have e1:(x.gE==14)=false:=by simpa using F
  have e2:(x.gE==15)=false:=by simpa using H
  rw[e1,e2];rfl
def qW (b:O S)(P:Pt):I:=decide (P.l.length=1)&&(CC P.l 15&&(decide (P.gone.length=0)&&((decide (b.getD 0 0=0)&&decide (b.getD 1 0=0))&&decide (b.length=4+((b.getD 2 0).toNat*256+(b.getD 3 0).toNat)))))
def vp (b:O S):C Pt->I×I
 | none=>(false,false)
 | some P=>if qW b P=true then (true,true) else (false,false)
def s9 (b:O S):I×I:=if b=[0,0,0,0] then (true,false) else vp b (JB b)
def Vi (b:O S)(P:Pt):vp b (some P)=if qW b P=true then (true,true) else (false,false):=rfl
def wj {b:O S}{P:Pt}(h:PtOK b P) :∃x y u v s,b=x::y::u::v::s/\(x=0->y=0->∃a F,IQ (u::v::s)=some (a,F)/\Ph a []=some P.l/\II false F []=some P.four/\P.Fw=[]):=by
 obtain⟨w,b1,a,F,H,K,U,_,_,M,V⟩:=h.h;have J:=J3 K;unfold IQ at H;split at H;case h_2=>cases H
 rename_i x y t;split at H
 ·cases H
 rename_i Q;simp only[X21,X23] at H;obtain⟨rfl,rfl⟩:=H;rw[X14] at J;match t,J,Q,K,M with
 | [],J,_,_,_=>simp at J
 | [_],J,_,_,_=>simp only[X3,X10] at J;omega
 | u::v::s,J,Q,K,M=>refine⟨x,y,u,v,s,rfl,?_⟩;rintro rfl rfl;have e:(0:S).toNat*256+(0:S).toNat=0:=rfl;rw[e] at K M;rw[Xer] at K;rw[List.take_zero,pR] at M;exact⟨a,F,K,U,V,(X22 M).symm⟩
def m3 {l:O gL}{t:Int}(F:l.length=1)(h:CC l t=true) :∃x,l=[x]/\x.gE=t:=by
 match l,F with
 | [x],_=>refine⟨x,rfl,?_⟩;unfold CC at h;simp only[Xd9,List.any_nil,Bool.or_false,Xbh] at h;exact h.symm
def ql {x y:S}:(((x.toNat*256+y.toNat:Nat):Int) !=0)=!(decide (x=0)&&decide (y=0)):=by
 have F:x=0↔x.toNat=0:=by rw[<- UInt8.toNat_inj];rfl
 have H:y=0↔y.toNat=0:=by rw[<- UInt8.toNat_inj];rfl
 rw[X25];simp only[Xf0,ne_eq,Xbd,Bool.and_eq_false_iff,Xav,F,H];omega
def ke {b:O S}(M:b.length<=400000):IG b=some (s9 b):=by
 unfold IG s9;have e4:(b==Xaa (Xa0 4) (0:S))=decide (b=[0,0,0,0]):=by rw[X25,Xbh,decide_eq_true_iff];exact Iff.rfl
 rw[show Ch (0<=(4:Int)/\(4:Int)<=4/\(4:Int)<=1048576)=some () from Xa2 (by omega),AA,Z5,AA,e4];by_cases H:b=[0,0,0,0]
 ·rw[Xa2 (by simpa using H),Xa2 H]
 rw[Xa1 (by simpa using H),Xa1 H,AB];obtain⟨r,Q,F⟩:=WQ M;show Xx (BQ p00 b) _=_;rw[Q,AA];cases J:JB b with
 | none=>rw[J] at F;obtain⟨U,r2⟩:=r;have F:U=false:=F;subst F;rfl
 | some P=>
  rw[J] at F;have F:r=(true,⟨P.l,P.next,P.Fw,P.gone,P.four,P.za⟩):=F;subst F;have K:=WZ M J;obtain⟨x,y,u,v,s,rfl,_⟩:=wj K;have hx:=x.toNat_lt;have hu:=u.toNat_lt;have hv:=v.toNat_lt;have V:part (x::y::u::v::s) 2 ((x::y::u::v::s).length:Int)=some (u::v::s):=Fo (l:=x::y::u::v::s) (n:=2) (by simp);dsimp only;rw[Xa1 (by decide),V,AA,Xr,AA,SY,AA,Xr,AA,ql];have Y:((((x::y::u::v::s).length:Nat):Int) !=AG (4+((u.toNat*256+v.toNat:Nat):Int)))=!decide ((x::y::u::v::s).length=4+(u.toNat*256+v.toNat)):=by rw[AK (by omega),X25];simp only[Xf0,ne_eq,Xbd,Xav];omega
  have e1:((P.l.length:Int) !=1)=!decide (P.l.length=1):=by rw[X25];simp only[Xf0,ne_eq,Xbd,Xav];omega
  have e2:decide ((P.gone.length:Int)>0)=!decide (P.gone.length=0):=by rw[X25];simp only[Xy,Xbd,Xav];omega
  rw[Y];dsimp only;rw[e1,e2];rw[Vi];have Z:qW (x::y::u::v::s) P=(decide (P.l.length=1)&&(CC P.l 15&&(decide (P.gone.length=0)&&((decide (x=0)&&decide (y=0))&&decide ((x::y::u::v::s).length=4+(u.toNat*256+v.toNat)))))):=rfl;rw[Z];generalize decide ((x::y::u::v::s).length=4+(u.toNat*256+v.toNat))=c1;generalize decide (P.l.length=1)=c2;generalize CC P.l 15=c3;generalize decide (P.gone.length=0)=c4;generalize (decide (x=0)&&decide (y=0))=c5;cases c1<;>cases c2<;>cases c3<;>cases c4<;>cases c5<;>rfl
def okO (x:gL):I:=decide (1<=x.gE/\x.gE<=255)&&(Lb x.gE&&(decide (x.Flags=224)&&decide (x.Data.length<=255)))
def JT (a b:gL):I:=decide (a.gE<b.gE)
def Ek (l:O gL):I:=l.all okO&&zm JT l
def Fb (a:gH):I:=Ek a.oE&&(decide (-1<=a.o3/\a.o3<=2)&&(C5 a.Path&&(a.Next.ok&&(decide (-1<=a.AF/\a.AF<=4294967295)&&(decide (-1<=a.xL/\a.xL<=4294967295)&&((decide (a.zy=-1) || CS a.zy)&&(Gv a.fT&&(G1 a.iX&&decide (a.oE.length<=8)))))))))
def tg (a b c:gL)(F:JT a b=true)(H:JT b c=true):JT a c=true:=by simp only[JT,Xy] at *;omega
structure Ps (a:gH):Prop where
 p:a.Path.length<=1000000
 t:DP a.Path<=1000000
 c:a.fT.length<=1000000
 l:a.iX.length<=1000000
 o:a.oE.length<=1000000
 d :∀u∈a.oE,u.Data.length<=1000000
def ZW {α ρ:Type}{K:Unit->C ρ}{l:O α}{body:(Unit->C ρ)->α->Nat->Unit->C ρ}(h :∀next x (i:Nat),gN l (i:Int)=some x->body next x i ()=next ()):AL K body l 0 ()=K ():=by
 have key :∀(t p:O α),l=p++t->AL K body t p.length ()=K ():=by
  intro t;induction t with
  | nil=>intro p _;rfl
  | cons x t F=>intro p e;show body (λs=>AL K body t (p.length+1) s) x p.length ()=_;rw[h _ x p.length (by rw[e];exact F5 p x t)];have:=F (p++[x]) (by rw[e];simp);simpa using this
 exact key l [] rfl
def VY (l:O gL):Bh l l=some true:=by unfold Bh;rw[Xa1 (by simp),AB];refine ZW λnext x i hg=>?_;rw[AB];simp only[hg,AA,Xca,Xc2,Xcg,Xe4];rfl
def bB (l:O oF):ES l l=some true:=by unfold ES;rw[Xa1 (by simp),AB];refine ZW λnext x i hg=>?_;rw[hg,AA,(pN x x).2 rfl];rfl
def dS (l:O iX):Ba l l=some true:=by unfold Ba;rw[Xa1 (by simp),AB];refine ZW λnext x i hg=>?_;rw[hg,AA,(o6 x x).2 rfl];rfl
def cC (l:O r8):EQ l l=some true:=by unfold EQ;rw[Xa1 (by simp),AB];refine ZW λnext x i hg=>?_;rw[AB,AB,hg,AA,Xcg,Xa1 (by decide),AA];show (if (cond false true ((x.qv.length:Int) !=(x.qv.length:Int)))=true then _ else _)=_;rw[Xca,Xa1 (by decide),AB];refine ZW λnext H J F=>?_;rw[AA,F,AA,Xca];rfl
def wi (a b:Addr):Addr.zn a b=true↔a=b:=by
 unfold Addr.zn;simp only[X24,Xbh,Xd8,Int.natCast_inj,Xcp];constructor
 ·rintro⟨F,H,J⟩;cases a;cases b;simp_all
 rintro rfl;exact⟨rfl,rfl,rfl⟩
def jZ (a:gH):DT a a=some true:=by unfold DT;rw[AB,Xa2 (by simp),cC,AA,(wi _ _).2 rfl,bB,AA,dS,AA,VY,AA,Xcg,Xcg,Xcg];rfl
def mV (a b:gL):Gb K3 a b=JT a b:=by
 unfold Gb K3 JT;rw[Vp,pX,X25,Xy,Xy];split
 ·simp[*]
 split<;>omega
def xi {l:O gL}(Y:l.length<=1000000){K:Unit->C I} : AL (σ:=Unit) K (λF J P _=>AC (τ:=I) (λH=>if (decide (J.gE<1))=true then H true else if (cond false true (decide (J.gE>255)))=true then H true else Xx (C6 J.gE) λQ=>if (cond false true (!Q))=true then H true else if (cond false true (J.Flags !=224))=true then H true else if (cond false true (decide ((J.Data.length:Int)>255)))=true then H true else if (decide ((P:Int)>0))=true then Xx (gN l (AG ((P:Int)-1))) λU=>H (cond false true (cond true (decide (U.gE≥J.gE)) false)) else H false ) λV=>if V=true then some false else F ()) l 0 ()=if Ek l=true then K () else some false:=by
 have M :∀x:gL,okO x=!(decide (x.gE<1) || (decide (x.gE>255) || ((!Lb x.gE) || ((x.Flags !=224) || decide ((x.Data.length:Int)>255))))):=by
  intro x;unfold okO;have e1:decide (1<=x.gE/\x.gE<=255)=(!decide (x.gE<1)&&!decide (x.gE>255)):=by rw[X25];simp
  have e2:decide (x.Flags=224)=!(x.Flags !=224):=by rw[X25];simp
  have e3:decide (x.Data.length<=255)=!decide ((x.Data.length:Int)>255):=by rw[X25];simp;omega
  rw[e1,e2,e3];cases decide (x.gE < 1)<;>cases decide (x.gE>255)<;>cases Lb x.gE<;>cases (x.Flags !=224)<;>cases decide ((x.Data.length:Int)>255)<;>rfl
 refine tp (ok:=okO) (lt:=JT) (by omega) (λnext x _=>?_) λnext x y i _ _ hg=>?_
 ·rw[AB,Jg,AA,M];cases decide (x.gE < 1)<;>cases decide (x.gE>255)<;>cases Lb x.gE<;>cases (x.Flags !=224)<;>cases decide ((x.Data.length:Int)>255)<;>rfl
 have e:decide (((i+1:Nat):Int)>0)=true:=by simp
 have e2:decide (y.gE≥x.gE)=!JT y x:=by unfold JT;rw[X25];simp
 rw[AB,Jg,AA,M,hg,AA,e,e2];cases decide (x.gE < 1)<;>cases decide (x.gE>255)<;>cases Lb x.gE<;>cases (x.Flags !=224)<;>cases decide ((x.Data.length:Int)>255)<;>cases JT y x<;>rfl
def MI {a:gH}(h:Ps a):Br a=some (Fb a):=by
 unfold Br;rw[AB];refine (xi h.o).trans ?_;unfold Fb;by_cases F:Ek a.oE=true;rotate_left
 ·have F:Ek a.oE=false:=by simpa using F
  rw[F];rfl
 rw[F,Xa2 rfl,AB,Gq (by have:=h.p;omega) (by have:=h.t;omega),AA,EE,AA,SZ (by have:=h.c;omega),M9 (by have:=h.l;omega)];simp only[AA];have J:decide (-1<=a.o3/\a.o3<=2)=(decide (a.o3≥-1)&&decide (a.o3<=2)):=by rw[X25];simp
 have K:decide (-1<=a.AF/\a.AF<=4294967295)=(decide (a.AF≥-1)&&decide (a.AF<=4294967295)):=by rw[X25];simp
 have M:decide (-1<=a.xL/\a.xL<=4294967295)=(decide (a.xL≥-1)&&decide (a.xL<=4294967295)):=by rw[X25];simp
 have P:CS a.zy=(decide (a.zy≥1)&&decide (a.zy<=4294967295)):=rfl;have Q:decide (a.zy=-1)=(a.zy==-1):=rfl;have U:decide (a.oE.length<=8)=decide ((a.oE.length:Int)<=8):=by rw[X25];simp;omega
 rw[J,K,M,P,Q,U];generalize decide (a.o3≥-1)=b1;generalize decide (a.o3<=2)=b2;generalize C5 a.Path=b3;generalize a.Next.ok=b4;generalize decide (a.AF≥-1)=b5;generalize decide (a.AF<=4294967295)=b6;generalize decide (a.xL≥-1)=b7;generalize decide (a.xL<=4294967295)=b8;generalize (a.zy==-1)=b9;generalize decide (a.zy≥1)=nm;generalize decide (a.zy<=4294967295)=b11;generalize Gv a.fT=b12;generalize G1 a.iX=b13;generalize decide ((a.oE.length:Int)<=8)=H;cases b1
 ·rfl
 cases b2
 ·rfl
 cases b3
 ·rfl
 cases b4
 ·rfl
 cases b5
 ·rfl
 cases b6
 ·rfl
 cases b7
 ·rfl
 cases b8
 ·rfl
 cases b9<;>cases nm<;>cases b11<;>cases b12<;>cases b13<;>cases H<;>rfl
def w4 (n:Int):O S:=[(Ak (Xc4 n (2^(min (Xa0 24) 64)))),(Ak (Xc4 n (2^(min (Xa0 16) 64)))),(Ak (Xc4 n (2^(min (Xa0 8) 64)))),(Ak n)]
def w2 (n:Int):O S:=[(Ak (Xc4 n (2^(min (Xa0 8) 64)))),(Ak n)]
def Yd (k n:Nat)(J:k<64)(K:n=8*k)(M:k<9):min (Xa0 ((AZ (8*((AZ (k:Int)).toNat:Int))).toNat:Int)) 64=min (Xa0 (n:Int)) 64:=by
 have F:(AZ (k:Int)).toNat=k:=by unfold AZ;simp only[Xar];omega
 rw[F];have H:(AZ (8*(k:Int))).toNat=n:=by unfold AZ;simp only[Xar];omega
 rw[H]
def fdiv_one (n:Int):Xc4 n (2^(min (Xa0 ((0:Nat):Int)) 64))=n:=by have:((2:Int)^(min (Xa0 ((0:Nat):Int)) 64))=1:=rfl;rw[this,Int.fdiv_one]
def eX (v:Int){n:Int}(M:n=4\/n=2):AP v n=some (if n=4 then w4 v else w2 v):=by
 unfold AP;rw[AB];have F:=Yd 3 24 (by omega) rfl (by omega);have H:=Yd 2 16 (by omega) rfl (by omega);have J:=Yd 1 8 (by omega) rfl (by omega);have K:=Yd 0 0 (by omega) rfl (by omega);have F:min (Xa0 ((AZ (8*((AZ (3:Int)).toNat:Int))).toNat:Int)) 64=min (Xa0 24) 64:=F;have H:min (Xa0 ((AZ (8*((AZ (2:Int)).toNat:Int))).toNat:Int)) 64=min (Xa0 16) 64:=H;have J:min (Xa0 ((AZ (8*((AZ (1:Int)).toNat:Int))).toNat:Int)) 64=min (Xa0 8) 64:=J;have K:min (Xa0 ((AZ (8*((AZ (0:Int)).toNat:Int))).toNat:Int)) 64=min (Xa0 ((0:Nat):Int)) 64:=K;refine (Bq (λs:Int×O S=>(s.1=3\/s.1=2\/s.1=1\/s.1=0\/s.1=-1)/\s.2.length+(s.1+1).toNat<=4) (λs=>(s.1+1).toNat) (λs=>some (s.2++(w4 v).drop (3-s.1).toNat)) ?_ xv (AG (n-1),[]) ?_ ?_).trans ?_
 ·rintro next ⟨i,l⟩ ⟨P,Q⟩ hk
  dsimp only at P Q⊢;rcases P with rfl|rfl|rfl|rfl|rfl
  ·rw[Xa2 (by decide),F,AD (by decide) (by simp only[X19];omega),AA,AK (by omega),hk _ ⟨by simp,by simp only[X2,X19];omega⟩ (by simp only;omega)];simp[w4]
  ·rw[Xa2 (by decide),H,AD (by decide) (by simp only[X19];omega),AA,AK (by omega),hk _ ⟨by simp,by simp only[X2,X19];omega⟩ (by simp only;omega)];simp[w4]
  ·rw[Xa2 (by decide),J,AD (by decide) (by simp only[X19];omega),AA,AK (by omega),hk _ ⟨by simp,by simp only[X2,X19];omega⟩ (by simp only;omega)];simp[w4]
  ·rw[Xa2 (by decide),K,fdiv_one,AD (by decide) (by simp only[X19];omega),AA,AK (by omega),hk _ ⟨by simp,by simp only[X2,X19];omega⟩ (by simp only;omega)];simp[w4]
  rw[Xa1 (by decide)];simp[w4]
 ·dsimp only;rw[AK (by omega)];rcases M with rfl|rfl
  ·exact⟨.inl rfl,by decide⟩
  exact⟨.inr (.inr (.inl rfl)),by decide⟩
 ·dsimp only;rw[AK (by omega)];exact BE (by omega)
 dsimp only;rw[AK (by omega)];rcases M with rfl|rfl<;>rfl
def SX (v:Int):AP v 4=some (w4 v):=eX v (.inl rfl)
def tf (v:Int):AP v 2=some (w2 v):=eX v (.inr rfl)
def KD (n:Int):(w4 n).length=4:=rfl
def Je (l:O Int):(l.flatMap w4).length=4*l.length:=by
 induction l with
 | nil=>rfl
 | cons x t F=>rw[Xat,X2,F,KD,X3];omega
def nB (s:r8):O S:=[(if s.Set=true then (1:S) else 2),Ak (s.qv.length:Int)]++s.qv.flatMap w4
def Hu (p:O r8):O S:=p.flatMap nB
def ZB (s:r8):(nB s).length=2+4*s.qv.length:=by unfold nB;rw[X2,Je];rfl
def P6 (p:O r8):(Hu p).length=2*p.length+4*DP p:=by
 unfold Hu;induction p with
 | nil=>rfl
 | cons s t F=>rw[Xat,X2,F,ZB,X3,CH];omega
def oL {p:O r8}(h:2*p.length+4*DP p<=100000000){ρ:Type}{K:O S->C ρ}:AC (τ:=(O S)) (λk7=>AL (σ:=(O S)) (λQ=>k7 Q ) (λH (J:r8) i11 Q=>AC (τ:=(O S)) (λU=>AC (τ:=S) (λP=>if J.Set=true then P (1:S) else P (2:S) ) λV=>Xx (gO (α:=S) 1 Q ([V,(Ak (J.qv.length:Int))]:O S)) λY=>AC (τ:=(O S)) (λZ=>AL (σ:=(O S)) (λM=>Z M ) (λF (a6:Int) i20 M=>Xx (AP a6 4) λa7=>Xx (gO (α:=S) 1 M a7) λa8=>F a8 ) J.qv 0 Y ) λaa=>U aa ) λab=>H ab ) p 0 ([]:O S) ) K=K (Hu p):=by
 rw[AB];have hl:=P6 p;unfold Hu at hl⊢;refine (jt (g:=nB) (N:=100000000) (by rw[hl];simp only[X10];omega) λnext s i v _ hv=>?_).trans rfl;rw[ZB] at hv;rw[AB,Ic,AD (by decide) (by simp;omega),AA,AB];refine (jt (g:=w4) (N:=1000000000) (by rw[Je];simp;omega) λnext x i v _ hv=>?_).trans ?_
 ·rw[SX,AA,AD (by decide) hv,AA]
 rw[Xb9];rfl
def PR (c:oF):O S:=w2 c.A++w2 c.B
def KV (c:iX):O S:=w4 c.A++(w4 c.B++w4 c.C)
def Vx (c:oF):(PR c).length=4:=rfl
def Uf (c:iX):(KV c).length=12:=rfl
def M1 (l:O oF):(l.flatMap PR).length=4*l.length:=by
 induction l with
 | nil=>rfl
 | cons x t F=>rw[Xat,X2,F,Vx,X3];omega
def MM (l:O iX):(l.flatMap KV).length=12*l.length:=by
 induction l with
 | nil=>rfl
 | cons x t F=>rw[Xat,X2,F,Uf,X3];omega
def fd (n k:Nat):Xc4 (n:Int) (2^(min (Xa0 (k:Int)) 64))=((n/2^(min k 64):Nat):Int):=by
 rw[Xax];have:((2:Int)^(min k 64))=((2^(min k 64):Nat):Int):=by simp
 rw[this,Xc8 _ (Xdf _),Int.natCast_ediv]
def uH (n:Nat):w4 (n:Int)=[Xbw (n/16777216),Xbw (n/65536),Xbw (n/256),Xbw n]:=by have F:=fd n 24;have H:=fd n 16;have J:=fd n 8;have F:Xc4 (n:Int) (2^(min (Xa0 24) 64))=((n/2^(min 24 64):Nat):Int):=F;have H:Xc4 (n:Int) (2^(min (Xa0 16) 64))=((n/2^(min 16 64):Nat):Int):=H;have J:Xc4 (n:Int) (2^(min (Xa0 8) 64))=((n/2^(min 8 64):Nat):Int):=J;unfold w4;rw[F,H,J,Bd,Bd,Bd,Bd];rfl
def tq (n:Nat):w2 (n:Int)=[Xbw (n/256),Xbw n]:=by have F:=fd n 8;have F:Xc4 (n:Int) (2^(min (Xa0 8) 64))=((n/2^(min 8 64):Nat):Int):=F;unfold w2;rw[F,Bd,Bd];rfl
end Go.AX.Q33
end
