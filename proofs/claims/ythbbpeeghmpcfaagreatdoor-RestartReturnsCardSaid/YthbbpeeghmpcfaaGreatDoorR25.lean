/-
  Texts of one proof, packed.
-/
import Derived.Test.YthbbpeeghmpcfaaGreatDoorR18
import Derived.Test.YthbbpeeghmpcfaaGreatDoorR19
import Derived.Test.YthbbpeeghmpcfaaGreatDoorR22
import Derived.Test.YthbbpeeghmpcfaaGreatDoorR24
import Derived.Sort.Walk0
set_option linter.all false
set_option maxRecDepth 100000
set_option maxHeartbeats 4000000
open List renaming length_map→X1,length_append→X2,length_cons→X3,length_nil→X10,getElem?_eq_getElem→X12,getElem?_eq_some_iff→X13,length_drop→X14,length_take→X15,mem_cons_of_mem→X16,length_replicate→X17,length_set→X18,mem_append→X20
open Option.some renaming injEq→X21,inj→X22
open Bool renaming and_eq_true→X24,eq_iff_iff→X25
open Option renaming bind→Xx,getD→Xdb
open Go renaming maxLen→Xc7
open Nat renaming ble→Xeo
open ByteArray renaming empty→Xbe
open Go.ByteArray renaming toList_eq→Xen
section
namespace Go.AX.Q33
open Go Go.AX
def nK {l:O gL}(h:(Dz l).2=0):(Dz l).1=DN l/\(DN l).length<=2048:=by
 unfold Dz at h⊢;split at h
 ·rename_i F;rw[Xa2 F];split at h
  ·cases h
  rename_i H;rw[Xa1 H];exact⟨rfl,by omega⟩
 cases h
def Vu {u:zl}(h:VB u)(U:(Dz (By u)).2=0)(V:(HX (By u)).2=0) :∃n,JB (Kv u (Dz (By u)).1)=some ⟨By u,n,u.oB.filter (λp=>p.Addr.V6==false),u.oB.filter (λp=>p.Addr.V6==true),u.gF.filter (λp=>p.Addr.V6==false),u.gF.filter (λp=>p.Addr.V6==true)⟩/\ (u.gF.filter (λp=>p.Addr.V6==true)≠[]->n=u.gH.Next/\u.gH.Next.V6=true):=by
 obtain⟨n,Y,Z⟩:=oW h;have hU:=eK h;obtain⟨j1,j2⟩:=nK U;have a6:=Bj (za:=false) h.g.gw;have hw:=h.w;refine⟨n,?_,Z⟩;have e1:IQ (Kv u (Dz (By u)).1)=some (Ap false u.oB,two (DN (By u)).length++DN (By u)++Ap false u.gF):=by have:=Yy (w:=Ap false u.oB) (r:=two (DN (By u)).length++DN (By u)++Ap false u.gF) (by omega);rw[<- this,j1];unfold Kv;simp only[Xb9]
 have e2:IQ (two (DN (By u)).length++DN (By u)++Ap false u.gF)=some (DN (By u),Ap false u.gF):=Yy (by omega);unfold JB;rw[e1];dsimp only;rw[e2];dsimp only;rw[Td _ _ (QM h).b,Xah,NZ,Y,hU,Iu h.g.gw,Iu h.g.ga,Xah,Xah,NY];have fw:=N7 u.oB;have fa:=N7 u.gF;have a7:=h.n;have F:¬ (0<(u.gF.filter (λp=>p.Addr.V6==false)).length/\0<(u.gF.filter (λp=>p.Addr.V6==true)).length):=by rintro⟨q1,q2⟩;obtain⟨p1,H⟩:=Xcs _ (Xbi.1 q1);obtain⟨p2,J⟩:=Xcs _ (Xbi.1 q2);obtain⟨a1,M⟩:=Xb2.1 H;obtain⟨b1,b2⟩:=Xb2.1 J;have P:=h.s _ a1;have Q:=h.s _ b1;rw[Xbh] at M b2;rw[M] at P;rw[b2,<- P] at Q;cases Q
 have K:SP (u.oB.filter (λp=>p.Addr.V6==false)) (u.oB.filter (λp=>p.Addr.V6==true)) (u.gF.filter (λp=>p.Addr.V6==false)) (u.gF.filter (λp=>p.Addr.V6==true))=true:=by
  unfold SP;rw[Xa4 (p:=(u.oB.filter (λp=>p.Addr.V6==false)).length+(u.oB.filter (λp=>p.Addr.V6==true)).length<=256) (by omega),Xa4 (p:=(u.gF.filter (λp=>p.Addr.V6==false)).length+(u.gF.filter (λp=>p.Addr.V6==true)).length<=256) (by omega)];simp only[Xd8,Xbd,Bool.and_eq_false_iff,Xav];rcases Nat.eq_zero_or_pos (u.gF.filter (λp=>p.Addr.V6==false)).length with q|q
  ·exact .inl (by omega)
  exact .inr λq2=>F ⟨q,q2⟩
 rw[Xa2 ⟨K,by rw[V];decide⟩]
def sX:HX []=(eA,0):=rfl
def pT {u:zl}(h:VB u):HX (By u)=if 0<u.gF.length then (XB u.gH,0) else (eA,0):=by
 have k:=QM h;rw[<- uy k.d,k.f];unfold zZ;by_cases F:0<u.gF.length
 ·rw[Xa2 F,Xa2 F,s4 (h.g.a F).1 (List.Perm.refl _)]
 rw[Xa1 F,Xa1 F,sX]
def filter_all {l:O fI}{b:I}(h :∀p∈l,p.Addr.V6=b):(l.filter λp=>p.Addr.V6==false)++(l.filter λp=>p.Addr.V6==true)=l:=by
 cases b with
 | false=>rw[Xd0.2 (λp F=>by rw[h p F];rfl),Xcw.2 (λp F=>by rw[h p F];decide),Xb1]
 | true=>rw[Xcw.2 (λp F=>by rw[h p F];decide),Xd0.2 (λp F=>by rw[h p F];rfl),Xah]
def rA {u:zl}(h:VB u)(hj:(Dz (By u)).2=0) : qp (Kv u (Dz (By u)).1)=(⟨(u.oB.filter λp=>p.Addr.V6==false)++(u.oB.filter λp=>p.Addr.V6==true),if u.gF=[] then eA else u.gH,u.gF⟩,0):=by
 have F:=pT h;have K:(HX (By u)).2=0:=by rw[F];split<;>rfl
 obtain⟨n,hP,hn⟩:=Vu h hj K;have M:=filter_all h.s;unfold qp;rw[hP];dsimp only;rw[M];by_cases H:u.gF=[]
 ·rw[Xa2 H,Xa2 H,H]
 rw[Xa1 H,Xa1 H];have P:0<u.gF.length:=Xbi.2 H;obtain⟨v,_,_⟩:=h.g.a P;obtain⟨o1,o2⟩:=h.o H;rw[Xa2 P] at F;have k:=QM h;have hT :∀t,CC (Kc u.gH) t=true->CC (By u) t=true:=by intro t ht;obtain⟨y,hy,e⟩:=Fp.1 ht;refine Fp.2 ⟨y,k.m y ?_,e⟩;unfold zZ;rw[Xa2 P];exact hy
 have t1:CC (By u) 1=true:=hT 1 (by
  rw[SH v (by decide)];have:G u.gH 1=if u.gH.o3≠-1 then some [Ak u.gH.o3] else none:=rfl
  rw[this,Xa2 o1];rfl)
 have t2:CC (By u) 2=true:=hT 2 (by
  rw[SH v (by decide)];have:G u.gH 2=if u.gH.o3≠-1\/u.gH.Path≠[] then some (Hu u.gH.Path) else none:=rfl
  rw[this,Xa2 (.inl o1)];rfl)
 have Q:(By u).any Sx=false:=by
  rw[eU,k.e14,k.e15];have f14:(bt (Mf u).Flags 192 !=128)=false:=by show (bt 128 192 !=128)=false;decide
  have f15:(bt (LB u).Flags 192 !=128)=false:=by show (bt 128 192 !=128)=false;decide
  by_cases c1:0 < (Ap true u.gF).length<;>by_cases c2:0 < (Ap true u.oB).length<;>simp only[c1,c2,Xet,Xd4,Xd9,List.any_nil,f14,f15,Bool.or_false]
 have U:ju ⟨By u,n,u.oB.filter (λp=>p.Addr.V6==false),u.oB.filter (λp=>p.Addr.V6==true),u.gF.filter (λp=>p.Addr.V6==false),u.gF.filter (λp=>p.Addr.V6==true)⟩=false:=by
  unfold ju;dsimp only;rw[K,Q,t1,t2,F];have e0:decide ((0:Int)≠0)=false:=by decide
  rw[e0];simp only[Xe4,Bool.false_or];by_cases h4:0<(u.gF.filter (λp=>p.Addr.V6==false)).length
  ·obtain⟨p,V⟩:=Xcs _ (Xbi.1 h4);obtain⟨p1,p2⟩:=Xb2.1 V;have J:u.gH.Next.V6=false:=by rw[<- h.s p p1];simpa using p2
   have Y:(XB u.gH).Next=u.gH.Next:=by unfold XB;dsimp only;rw[J,Xa1 (by decide)]
   rw[Y];have:Addr.zn u.gH.Next Mm=false:=by
    cases Z:Addr.zn u.gH.Next Mm with
    | false=>rfl
    | true=>exact absurd ((Addr.zb _ _).1 Z) o2
   rw[this,Bool.and_false]
  rw[Xa9 h4,Bool.false_and]
 rw[U,Xa1 (by decide),F];dsimp only;have a6:(if 0<(u.gF.filter λp=>p.Addr.V6==true).length then { XB u.gH with Next:=n } else XB u.gH)=u.gH:=by
  by_cases J:0<(u.gF.filter λp=>p.Addr.V6==true).length
  ·rw[Xa2 J,(hn (Xbi.1 J)).1];unfold XB;rfl
  rw[Xa1 J];have hv:u.gH.Next.V6=false:=by
   cases Z:u.gH.Next.V6 with
   | false=>rfl
   | true=>
    refine absurd ?_ J;have:u.gF.filter (λp:fI=>p.Addr.V6==true)=u.gF:=Xd0.2 λp V=>by rw[h.s p V,Z];rfl
    rw[this];exact P
  unfold XB;rw[hv,Xa1 (by decide)]
 rw[a6]
def OH (p:fI):I:=(Am p).getD false
def JA (p:fI):Am p=some (OH p)/\(OH p=true↔Ci p):=by obtain⟨b,F,H⟩:=Gn p;unfold OH;rw[F];exact⟨rfl,H⟩
def RK (a:gH):I:=(DT a eA).getD false
theorem cV (a:gH):DT a eA=some (RK a):=by obtain⟨b,h⟩:=(inferInstance:Tt (DT a eA)).h;unfold RK;rw[h];rfl
def U9 (a:gH)(p:fI):I:=(p.Addr.V6==a.Next.V6)&&((a.o3 !=-1)&&(!(Addr.zn a.Next Mm)&&Fb a))
def VV (u:zl):I:=((Dt u).2==0)&&decide ((Dt u).1.length<=4077)
def CN (u:zl):I:=decide (u.oB.length<=256)&&(decide (u.gF.length<=256)&&((u.oB++u.gF).all OH&&((!(decide (u.gF=[])) || RK u.gH)&&(u.gF.all (U9 u.gH)&&VV u))))
def Qs {u:zl}(P:Ps u.gH)(hw:u.oB.length<=1000)(hn:u.gF.length<=1000)(Q :∀{a:gH},VA a->(Kc a).length<=16):GV u=some (CN u):=by
 unfold GV CN;rw[AB];by_cases h1:u.oB.length<=256;case neg=>rw[Xa2 (by simp only[Xy];omega),Xa9 h1];rfl
 rw[Xa1 (by simp only[Xy];omega),Xa4 h1];dsimp only;by_cases M:u.gF.length<=256;case neg=>rw[Xa9 M,Xa2 (by simp only[Xc2,Xy];omega)];rfl
 rw[Xa4 M,Xa1 (by simp only[Xc2,Xy];omega),AD (by decide) (by simp only[X10];omega),AA,AD (by decide) (by omega),AA,AB]
 refine (Rm (g:=OH) (r0:=some false) λnext p i _=>by
  rw[(JA p).1,AA]
  cases OH p<;>rfl).trans ?_
 cases hg:(u.oB++u.gF).all OH with
 | false=>rfl
 | true=>
  have F :∀p∈u.oB++u.gF,Ci p:=λp H=>(JA p).2.1 (Xa6.1 hg p H);simp only[Xe1,Xco];rw[AB];have U:Dl=some eA:=rfl;by_cases J:u.gF=[]
  ·rw[Xa2 ((sZ _).2 J),U,AA,cV,AA,Xa4 J];cases he:RK u.gH with
   | false=>rfl
   | true=>
    simp only[Xe4,Xe1,Bool.false_or,Xco];rw[Xa1 (by decide),AB,J];show Xx (E4 u) _=_;have g:Pf u:=⟨by omega,by omega,λp H=>F p (Xcf _ H),(λp H=>by rw[J] at H;cases H),λq=>by rw[J] at q;cases q⟩;rw[QQ g,AA];unfold VV;rw[AB];have e:decide (((Dt u).1.length:Int)<=4077)=decide ((Dt u).1.length<=4077):=by rw[Xdw];omega
    rw[e];cases ((Dt u).2==0)<;>cases decide ((Dt u).1.length<=4077)<;>rfl
  rw[Xa1 (λq=>J ((sZ _).1 q)),Xa9 J];simp only[Bool.not_false,Bool.true_or,Xco];rw[Xa1 (by decide),AB]
  refine (Rm (g:=U9 u.gH) (r0:=some false) λnext p i _=>by
   rw[AB,MI P,AA];unfold U9;have V:Addr.zn u.gH.Next (⟨false,(0:j),(0:j)⟩:Addr)=Addr.zn u.gH.Next Mm:=rfl;have Y:(u.gH.o3==(-1))=!(u.gH.o3 !=-1):=(Bool.not_not _).symm;rw[V,Y]
   cases (p.Addr.V6==u.gH.Next.V6)<;>cases (u.gH.o3 !=-1)<;>cases Addr.zn u.gH.Next Mm<;>cases Fb u.gH<;>rfl).trans ?_
  cases Z:u.gF.all (U9 u.gH) with
  | false=>rfl
  | true=>
   simp only[Xe1,Xco];have K:VA u.gH:=by obtain⟨p,H⟩:=Xcs _ J;have:=Xa6.1 Z p H;unfold U9 at this;simp only[X24] at this;exact Nu.1 this.2.2.2
   have g:Pf u:=⟨by omega,by omega,λp H=>F p (Xcf _ H),λp H=>F p (Xdk _ H),λ_=>⟨K,Q K,λx hx=>gI K hx⟩⟩;rw[QQ g,AA];unfold VV;rw[AB];have e:decide (((Dt u).1.length:Int)<=4077)=decide ((Dt u).1.length<=4077):=by rw[Xdw];omega
   rw[e];cases ((Dt u).2==0)<;>cases decide ((Dt u).1.length<=4077)<;>rfl
def WB {u:zl}(h:CN u=true)(P :∀{a:gH},VA a->(Kc a).length<=16):VB u/\VV u=true/\(u.gF=[]->RK u.gH=true):=by
 unfold CN at h;simp only[X24,Xy] at h;obtain⟨Q,U,V,K,Y,Z⟩:=h;have J :∀p∈u.oB++u.gF,Ci p:=λp F=>(JA p).2.1 (Xa6.1 V p F);have H :∀p∈u.gF,p.Addr.V6=u.gH.Next.V6/\u.gH.o3≠-1/\u.gH.Next≠Mm/\VA u.gH:=λp F=>by have:=Xa6.1 Y p F;unfold U9 at this;simp only[X24,Xbh,Xf0,Xbd] at this;obtain⟨a1,a2,M,a4⟩:=this;exact⟨a1,a2,(λq=>by rw[q,(Addr.zb _ _).2 rfl] at M;cases M),Nu.1 a4⟩
 refine⟨⟨⟨by omega,by omega,λp F=>J p (Xcf _ F),λp F=>J p (Xdk _ F),λq=>?_⟩,Q,U,λp F=>(H p F).1,λq=>?_⟩,Z,λq=>?_⟩
 ·obtain⟨p,F⟩:=Xcs _ (Xbi.1 q);have v:=(H p F).2.2.2;exact⟨v,P v,λx hx=>gI v hx⟩
 ·obtain⟨p,F⟩:=Xcs _ q;exact⟨(H p F).2.1,(H p F).2.2.1⟩
 rw[Xa4 q] at K;simpa using K
def encS (u:zl):O S×Int:=if CN u=true then Dt u else ([],1)
def Xc {u:zl}(H:Ps u.gH)(J:u.oB.length<=1000)(K:u.gF.length<=1000)(F :∀{a:gH},VA a->(Kc a).length<=16):FP u=some (encS u):=by
 unfold FP encS;rw[Qs H J K F,AA];cases M:CN u with
 | false=>rfl
 | true=>rw[Xa1 (by decide),Xa2 rfl,QQ (WB M F).1.g,AA]
def J9 {α:Type}(l:O α):((l.length:Int) !=(([]:O α).length:Int))=!decide (l=[]):=by
 cases l with
 | nil=>rfl
 | cons x t=>rw[Xa9 (by simp),Bool.not_false,Xf0];simp only[X3,X10];omega
def wZ (l:O r8):EQ l []=some (decide (l=[])):=by
 unfold EQ;rw[J9];cases l with
 | nil=>rfl
 | cons x t=>rw[Xa9 (by simp)];rfl
def wF (l:O oF):ES l []=some (decide (l=[])):=by
 unfold ES;rw[J9];cases l with
 | nil=>rfl
 | cons x t=>rw[Xa9 (by simp)];rfl
def vm (l:O iX):Ba l []=some (decide (l=[])):=by
 unfold Ba;rw[J9];cases l with
 | nil=>rfl
 | cons x t=>rw[Xa9 (by simp)];rfl
def vl (l:O gL):Bh l []=some (decide (l=[])):=by
 unfold Bh;rw[J9];cases l with
 | nil=>rfl
 | cons x t=>rw[Xa9 (by simp)];rfl
def rY (a:gH):RK a=((a.o3==-1)&&(decide (a.Path=[])&&(Addr.zn a.Next Mm&&((a.AF==-1)&&((a.xL==-1)&&((a.zy==-1)&&(decide (a.fT=[])&&(decide (a.iX=[])&&decide (a.oE=[]))))))))):=by have h:=cV a;unfold DT at h;have e :∀x:I,cond true x false=x:=λx=>rfl;rw[AB,show eA.Path=[] from rfl,show eA.fT=[] from rfl,show eA.iX=[] from rfl,show eA.oE=[] from rfl,wZ,AA,wF,AA,vm,AA,vl,AA] at h;have F:(if (a.o3==-1)=true then if decide (a.Path=[])=true then if Addr.zn a.Next Mm=true then if (a.AF==-1)=true then if (a.xL==-1)=true then if (a.zy==-1)=true then if decide (a.fT=[])=true then if decide (a.iX=[])=true then some (decide (a.oE=[])) else some false else some false else some false else some false else some false else some false else some false else some false)=some (RK a):=h;generalize RK a=r at F⊢;generalize (a.o3==-1)=c1 at F⊢;generalize decide (a.Path=[])=c2 at F⊢;generalize Addr.zn a.Next Mm=H at F⊢;generalize (a.AF==-1)=J at F⊢;generalize (a.xL==-1)=K at F⊢;generalize (a.zy==-1)=M at F⊢;generalize decide (a.fT=[])=P at F⊢;generalize decide (a.iX=[])=Q at F⊢;generalize decide (a.oE=[])=U at F⊢;cases c1<;>cases c2<;>cases H<;>cases J<;>cases K<;>cases M<;>cases P<;>cases Q<;>simpa using F.symm
def sW (a:gH):RK a=true↔a=eA:=by
 constructor
 ·intro h;rw[rY] at h;simp only[X24,Xbh,Xy] at h;obtain⟨H,J,F,K,M,P,Q,U,V⟩:=h;have F:=(Addr.zb _ _).1 F;obtain⟨a1,Y,Z,a4,a5,a6,a7,a8,a9⟩:=a;dsimp only at *;subst H J F K M P Q U V;rfl
 rintro rfl;have:=cV eA;rw[jZ] at this;exact (X22 this).symm
def uA (d:O S)(h:d.length<=2048):(Dz [⟨128,15,d⟩]).2=0/\(Dz [⟨128,15,d⟩]).1=DN [⟨128,15,d⟩]\/2044<d.length:=by
 by_cases q:2044<d.length
 ·exact .inr q
 left;have F:DN [⟨128,15,d⟩]=PY ⟨128,15,d⟩:=by unfold DN;rw[Xat,List.flatMap_nil,Xb1]
 have H:=Sz ⟨128,15,d⟩;have J:([⟨128,15,d⟩]:O gL).all R0=true:=by unfold R0;simp only[Xd5,List.all_nil,Xd8];simp;omega
 dsimp only at H;unfold Dz;rw[Xa2 J,F,Xa1 (by omega)];exact⟨rfl,rfl⟩
def uY {l:O fI}(h :∀p∈l,Ci p)(Q:l.length<=40):CN ⟨l,eA,[]⟩=true:=by
 have U:=Bj (za:=true) h;have V:=Bj (za:=false) h;have F :∀a:O S,(Kv ⟨l,eA,[]⟩ a).length=4+(Ap false l).length+a.length:=λa=>by unfold Kv;have t :∀n,(two n).length=2:=λn=>rfl;have z:(Ap false ([]:O fI)).length=0:=rfl;simp only[X2,t];rw[z];omega
 have e2:By ⟨l,eA,[]⟩=if 0<(Ap true l).length then [LB ⟨l,eA,[]⟩] else []:=by rw[XD,gZ];rfl
 have H:(Dt ⟨l,eA,[]⟩).2=0/\(Dt ⟨l,eA,[]⟩).1.length<=4077:=by
  unfold Dt;rw[e2];split
  ·have Y:(LB ⟨l,eA,[]⟩).Data.length=3+(Ap true l).length:=by unfold LB;simp only[X2,X3,X10]
   have J:LB ⟨l,eA,[]⟩=⟨128,15,(LB ⟨l,eA,[]⟩).Data⟩:=rfl;rw[J];rcases uA (LB ⟨l,eA,[]⟩).Data (by omega) with ⟨K,M⟩|q
   ·rw[K,Xa1 (by decide)];refine⟨rfl,?_⟩;dsimp only;rw[F,M];have:=Sz (LB ⟨l,eA,[]⟩);have e:DN [⟨128,15,(LB ⟨l,eA,[]⟩).Data⟩]=PY (LB ⟨l,eA,[]⟩):=by unfold DN;rw[Xat,List.flatMap_nil,Xb1];rfl
    rw[e];omega
   omega
  have j:Dz []=([],0):=rfl;rw[j,Xa1 (by decide)];refine⟨rfl,?_⟩;dsimp only;rw[F,X10];omega
 have P:RK eA=true:=(sW eA).2 rfl;unfold CN VV;rw[H.1];dsimp only;rw[Xa4 (p:=l.length<=256) (by omega),Xb1,Xa6.2 (λp H=>(JA p).2.2 (h p H)),P,Xa4 (p:=(Dt ⟨l,eA,[]⟩).1.length<=4077) H.2];rfl
instance (a0:Addr):Tt (Bw a0):=by unfold Bw;exact Tt.Bx
instance (a0:Addr):Tt (CP a0):=by unfold CP;exact Tt.Bx
instance (a0:O S):Tt (BL a0):=by unfold BL;exact Tt.Bx
instance (a:Addr) (n:Int):Tt (DW a n):=by obtain⟨r,e,h,_⟩:=Hf a n;exact⟨_,h⟩
def PK {p:fI}{x:Addr}(J:x.ok=true):DY p x=some (inB p x):=by
 obtain⟨r,e,K,M⟩:=Hf x p.zk;unfold DY;rw[K,AA];dsimp only;rw[AB];rcases M with ⟨⟨_,F,H⟩,rfl,rfl⟩|⟨F,H⟩
 ·simp only[Xcg,Xet];unfold inB fI.zn Addr.zn;simp[F,H]
 simp only[Xbh,H,Xd4];unfold inB;have:¬ (0<=p.zk/\p.zk<=x.w):=λh=>F ⟨J,h⟩;simp only[this,decide_false,Bool.false_and]
instance (p:fI) (x:Addr):Tt (DY p x):=by unfold DY;exact Tt.Bx
instance (p q:fI):Tt (BF p q):=by unfold BF;exact Tt.Bx
instance (p:fI):Tt (Am p):=by unfold Am;exact Tt.Bx
instance (o:ss):Tt (Bi o):=by unfold Bi;exact Tt.Bx
instance (l:O ss) (p:fI) (n:Int):Tt (C3 l p n):=by unfold C3;exact Tt.Bx
def tc (n:Nat):I:=(decide (97<=n)&&decide (n<=122)) || (decide (65<=n)&&decide (n<=90)) || (decide (48<=n)&&decide (n<=57)) || decide (n=45) || decide (n=58)
def TS (c:S):I:=tc c.toNat
def FJ (s:T):I:=decide (1<=s.size)&&decide (s.size<=32)&&s.toList.all TS
def eD (s:T):s.toList.length=s.size:=by rw[Xen,Xba];rfl
def NI {s:T}(h:s.size<=Xc7):GL s=some (FJ s):=by
 have Z:=eD s;have hm:Xc7=9223372036854775807:=rfl;unfold GL;rw[AB];have H:AC (τ:=I) (λM=>if (decide ((s.size:Int)≥1)) then M (cond true (decide ((s.size:Int)<=32)) false) else M false) (λQ=>some Q)=some (decide (1<=s.size)&&decide (s.size<=32)):=by
  rw[AB];by_cases h1:1<=s.size
  ·rw[Xa2 (by simp;omega)];simp[h1];omega
  rw[Xa1 (by simp;omega)];simp[h1]
 rw[Bq (λv:Int=>0<=v/\v<=s.size) (λv=>(s.size-v).toNat) (λv=>cond ((s.toList.drop v.toNat).all TS) (some (decide (1<=s.size)&&decide (s.size<=32))) (some false)) ?_ xv 0 (by omega) (BE (by omega))]
 ·unfold FJ;simp only[Int.toNat_zero,Xer];cases s.toList.all TS<;>simp
 intro next v hv U
 by_cases J:v<s.size
 ·obtain⟨k,rfl⟩ :∃k:Nat,v=k:=⟨v.toNat,by omega⟩;have P:k<s.toList.length:=by omega
  rw[Xa2 (by simpa using J),Ae P,AA];have key :∀(c:S) (K:I->C I),AC (τ:=I) (λF=>if (decide ((c.toNat:Int)≥97)) then if (cond true (decide ((c.toNat:Int)<=122)) false) then F (!true) else if (decide ((c.toNat:Int)≥65)) then if (cond false true (cond true (decide ((c.toNat:Int)<=90)) false)) then F (!true) else if (decide ((c.toNat:Int)≥48)) then if (cond false true (cond true (decide ((c.toNat:Int)<=57)) false)) then F (!true) else if (cond false true ((c.toNat:Int)==45)) then F (!true) else F (!(cond false true ((c.toNat:Int)==58))) else if (cond false true ((c.toNat:Int)==45)) then F (!true) else F (!(cond false true ((c.toNat:Int)==58))) else if (decide ((c.toNat:Int)≥48)) then if (cond false true (cond true (decide ((c.toNat:Int)<=57)) false)) then F (!true) else if (cond false true ((c.toNat:Int)==45)) then F (!true) else F (!(cond false true ((c.toNat:Int)==58))) else if (cond false true ((c.toNat:Int)==45)) then F (!true) else F (!(cond false true ((c.toNat:Int)==58))) else if (decide ((c.toNat:Int)≥65)) then if (cond false true (cond true (decide ((c.toNat:Int)<=90)) false)) then F (!true) else if (decide ((c.toNat:Int)≥48)) then if (cond false true (cond true (decide ((c.toNat:Int)<=57)) false)) then F (!true) else if (cond false true ((c.toNat:Int)==45)) then F (!true) else F (!(cond false true ((c.toNat:Int)==58))) else if (cond false true ((c.toNat:Int)==45)) then F (!true) else F (!(cond false true ((c.toNat:Int)==58))) else if (decide ((c.toNat:Int)≥48)) then if (cond false true (cond true (decide ((c.toNat:Int)<=57)) false)) then F (!true) else if (cond false true ((c.toNat:Int)==45)) then F (!true) else F (!(cond false true ((c.toNat:Int)==58))) else if (cond false true ((c.toNat:Int)==45)) then F (!true) else F (!(cond false true ((c.toNat:Int)==58)))) K=K (!TS c):=by
   intro c K;rw[AB];have V :∀n:Fin 256,(λn:Nat=>if (decide ((n:Int)≥97)) then if (cond true (decide ((n:Int)<=122)) false) then (!true) else if (decide ((n:Int)≥65)) then if (cond false true (cond true (decide ((n:Int)<=90)) false)) then (!true) else if (decide ((n:Int)≥48)) then if (cond false true (cond true (decide ((n:Int)<=57)) false)) then (!true) else if (cond false true ((n:Int)==45)) then (!true) else (!(cond false true ((n:Int)==58))) else if (cond false true ((n:Int)==45)) then (!true) else (!(cond false true ((n:Int)==58))) else if (decide ((n:Int)≥48)) then if (cond false true (cond true (decide ((n:Int)<=57)) false)) then (!true) else if (cond false true ((n:Int)==45)) then (!true) else (!(cond false true ((n:Int)==58))) else if (cond false true ((n:Int)==45)) then (!true) else (!(cond false true ((n:Int)==58))) else if (decide ((n:Int)≥65)) then if (cond false true (cond true (decide ((n:Int)<=90)) false)) then (!true) else if (decide ((n:Int)≥48)) then if (cond false true (cond true (decide ((n:Int)<=57)) false)) then (!true) else if (cond false true ((n:Int)==45)) then (!true) else (!(cond false true ((n:Int)==58))) else if (cond false true ((n:Int)==45)) then (!true) else (!(cond false true ((n:Int)==58))) else if (decide ((n:Int)≥48)) then if (cond false true (cond true (decide ((n:Int)<=57)) false)) then (!true) else if (cond false true ((n:Int)==45)) then (!true) else (!(cond false true ((n:Int)==58))) else if (cond false true ((n:Int)==45)) then (!true) else (!(cond false true ((n:Int)==58)))) n.val=!tc n.val:=by decide +kernel
   have Y:=V ⟨c.toNat,c.toNat_lt⟩;unfold TS;simp only[<- apply_ite K];exact Xap K Y
  rw[key];rw[Xax,Xbt P,Xd5];by_cases hg:TS s.toList[k]=true
  ·simp only[hg,Xe4,Xco,Xd4,Xcl];rw[AK (by omega),U _ (by omega) (by omega)];have:((k:Int)+1).toNat=k+1:=by omega
   rw[this]
  have hg:TS s.toList[k]=false:=by simpa using hg
  simp[hg]
 rw[Xa1 (by simpa using J)];have:v.toNat=s.toList.length:=by omega
 rw[this,List.drop_length];exact H
def HP (s:Set):I:=FJ s.Name&&decide (s.qv.length<=64)&&decide (s.tE.length<=64)&&s.qv.all CS&&s.tE.all FJ
def Qr (s:Set):Prop:=s.Name.size<=Xc7/\∀x∈s.tE,x.size<=Xc7
def Da (p:fI):I:=p.Addr.ok&&decide (0<=p.zk)&&decide (p.zk<=p.Addr.w)&&Addr.zn (p.Addr.cut p.zk.toNat) p.Addr
def HN (p:fI):Da p=true↔Ci p:=by unfold Da Ci;simp only[X24,Xy,Addr.zb,Xf2]
def DR (p:fI):Am p=some (Da p):=by obtain⟨b,F,H⟩:=Gn p;rw[F];congr 1;rw[X25,H,HN]
def YO (o:ss):I:=Da o.fI&&decide (o.fI.zk<=o.Max)&&decide (o.Max<=o.fI.Addr.w)&&CS o.tb
def LK (o:ss):Bi o=some (YO o):=by
 unfold Bi YO;rw[Ic,AB,DR,AA];have F:(if o.fI.Addr.V6=true then (128:Int) else 32)=o.fI.Addr.w:=by unfold Addr.w;split<;>rfl
 rw[F];unfold CS;simp only[Xe1,ge_iff_le];cases Da o.fI<;>cases decide (o.fI.zk<=o.Max)<;>cases decide (o.Max<=(o.fI.Addr.w:Int))<;>cases decide (1<=o.tb)<;>cases decide (o.tb<=4294967295)<;>rfl
def ON:O T->O Set->I
 | _,[]=>true
 | seen,x::t=>!decide (x.Name∈seen)&&HP x&&ON (x.Name::seen) t
def T8 (r:zu):I:=ON [] r.tE&&r.r9.all YO&&decide (r.tE.length<=64)&&decide (r.r9.length<=512)
def Seen (m:O (T×I))(seen:O T):Prop:=∀n,(A1 m n).getD false=decide (n∈seen)
def Seen.nil:Seen [] []:=λn=>by simp[A1]
def Seen.put {m:O (T×I)}{seen:O T}(h:Seen m seen)(x:T):Seen (A3 m x true) (x::seen):=by
 intro n;rw[Go.AX.Ay];by_cases F:n=x
 ·subst F;simp
 rw[Xa1 (by simpa using F),h n];simp[F]
def r5 (a b:Nat):AC (τ:=I) (λk=>if (decide ((a:Int)<=64)) then k (cond true (decide ((b:Int)<=512)) false) else k false) (λv=>some v)=some (decide (a<=64)&&decide (b<=512)):=by
 rw[AB];by_cases h:a<=64
 ·rw[Xa2 (by simp;omega)];simp[h];omega
 rw[Xa1 (by simp;omega)];simp[h]
def tI {body:(O (T×I)->C I)->Set->Nat->O (T×I)->C I}{K:C I} : ∀{l:O Set} {i:Nat} {m:O (T×I)} {seen:O T},(∀next x i m,x∈l->body next x i m=cond (!((A1 m x.Name).getD false)&&HP x) (next (A3 m x.Name true)) (some false))->Seen m seen-> AL (λ_=>K) body l i m=cond (ON seen l) K (some false)
 | [],_,_,_,_,_=>rfl
 | x::t,i,m,seen,F,H=>by
  show body (λs=>AL (λ_=>K) body t (i+1) s) x i m=_;rw[F _ x i m (by simp),H x.Name,ON];cases M:(!decide (x.Name∈seen)&&HP x)
  ·rfl
  rw[Xco];exact tI (λnext y j m J=>F next y j m (X16 _ J)) (H.put _)
def Ig {r:zu}(h :∀s∈r.tE,Qr s):Ez r=some (T8 r):=by
 unfold Ez;rw[AB,tI (seen:=[]) (K:=AC _ _) ?_ Seen.nil,AB,Rm (g:=YO) (r0:=some false) ?_,r5]
 ·unfold T8;cases ON [] r.tE<;>cases r.r9.all YO<;>simp
 ·intro next x i _
  rw[LK,AA];cases YO x<;>rfl
 intro next x i m hx
 obtain⟨h1,h2⟩:=h x hx;rw[AB,AB,NI h1];simp only[AA,Xc2];have Z :∀n:Nat,decide ((n:Int)>64)=!decide (n<=64):=λn=>by rw[X25];simp;omega
 rw[Z,Z];have ha :∀K:Unit->C I,AC (τ:=Unit) (λP=>AL (σ:=Unit) (λ_=>P ()) (λF J a6 _=>AC (τ:=I) (λM=>if (decide (J<1)) then M true else M (decide (J>4294967295)) ) λQ=>if Q then some false else F ()) x.qv 0 ()) K=cond (x.qv.all CS) (K ()) (some false):=by
  intro K;rw[AB];refine Rm λnext n i _=>?_;rw[Ic];unfold CS;by_cases g1:n<1
  ·have:¬ 1<=n:=by omega
   simp[g1,this]
  by_cases g2:n>4294967295
  ·have:¬ n<=4294967295:=by omega
   simp[g1,g2,this]
  have g3:1<=n:=by omega
  have g4:n<=4294967295:=by omega
  simp[g1,g2,g3,g4]
 have hs :∀K:Unit->C I,AC (τ:=Unit) (λU=>AL (σ:=Unit) (λ_=>U ()) (λH V a7 _=>Xx (GL V) λY=>if (!Y) then some false else H ()) x.tE 0 ()) K=cond (x.tE.all FJ) (K ()) (some false):=by intro K;rw[AB];refine Rm λnext n i hn=>?_;rw[NI (h2 n hn),AA];cases FJ n<;>rfl
 rw[ha,hs];unfold HP;cases FJ x.Name<;>cases (A1 m x.Name).getD false<;>cases decide (x.qv.length<=64)<;>cases decide (x.tE.length<=64)<;>cases x.qv.all CS<;>cases x.tE.all FJ<;>rfl
def Zy {α:Type}{b:Nat}{l:O α}{x:α}[Decidable (x∈l)]{p:α->I}{n:Nat}(J:Xeo b 65536=true)(Z:l.length+1<=1000000000)(U:n=(l.takeWhile p).length)(c:I)(Q:c=decide (x∈l)) : (if c=true then some l else Xx (part l 0 (n:Int)) λF=>Xx (gO (α:=α) b [] F) λ_=>Xx (gO (α:=α) b F ([x]:O α)) λK=>Xx (part l (n:Int) (l.length:Int)) λM=>Xx (gO (α:=α) b K M) λP=>some P) =
   some (if x∈l then l else l.takeWhile p++x::l.dropWhile p):=by
 have ht:=B7 p l;obtain⟨V,Y⟩:=C1 p l;by_cases H:x∈l
 ·rw[Q,Xa2 (by simpa using H),Xa2 H]
 rw[Q,Xa1 (by simpa using H),Xa1 H,UT (by omega),AA,AD J (by simp;omega),AA,AD J (by simp;omega),AA,Fo (by omega),AA,AD J (by simp;omega),AA,U,V,Y];simp
def ME {α:Type}{lt:α->α->I}(P :∀a b c,lt a b=true->lt b c=true->lt a c=true)(H :∀a,lt a a=false){l:O α}{x:α}(Q:l.Pairwise λa b=>lt a b=true) : x∈l↔l[(l.takeWhile (lt · x)).length]?=some x:=by
 constructor
 ·intro F;rw[<- Xbn (p:=(lt · x)) (l:=l),X20] at F;rcases F with F|F
  ·have:=Ja (lt · x) F;rw[H] at this;simp at this
  have U:=(C1 (lt · x) l).2;cases J:l.dropWhile (lt · x) with
  | nil=>rw[J] at F;simp at F
  | cons y t=>
   have V:lt y x=false:=by have:=List.head?_dropWhile_not (lt · x) l;rw[J] at this;simpa using this
   have Y:(y::t).Pairwise λa b=>lt a b=true:=by rw[<- J];exact Q.sublist (List.dropWhile_sublist _)
   rw[J] at F;have K:x=y:=by
    rcases Xa7.1 F with e|e
    ·exact e
    have:=(Xab.1 Y).1 x e;rw[V] at this;simp at this
   have M:(l.drop (l.takeWhile (lt · x)).length)[0]?=some x:=by rw[U,J,K];rfl
   rw[List.getElem?_drop] at M;simpa using M
 intro h;exact Xbz h
def Rl {l:O Int}{n:Int}(K:l.Pairwise λa b=>Fk a b=true)(M:l.length+1<=1000000000):ER l n=some (if n∈l then l else G7 Fk l n):=by
 have H:=B7 (Fk · n) l;unfold ER;rw[nu (p:=(Fk · n)) (λx P=>P (cond true (decide (x<n)) false)) (by omega) (λx _ k=>rfl),AB];have J:=ME Nl MO (x:=n) K;have F:=Zy (b:=8) (l:=l) (x:=n) (p:=(Fk · n)) (by decide) M rfl;by_cases hk:(l.takeWhile (Fk · n)).length<l.length
 ·rw[Xa2 (by simpa using hk),Ae hk,AA];refine F _ ?_;rw[X25,Xy,J,X12 hk];simp
 rw[Xa1 (by simpa using hk)];refine F _ ?_;rw[X25,Xy,J,Xdl (by omega)];simp
def Ml (a b:T):I:=Op.bytesLess a.toList b.toList
def Rw (a b:T):Ml a b=true↔a.toList<b.toList:=by unfold Ml;rw[Go.Proofs.bytesLess_eq];simp
def tu {a b:T}(h:a.toList=b.toList):a=b:=by have:=uT a b;rw[h] at this;simpa using this.symm
def nr (a b c:T)(F:Ml a b=true)(H:Ml b c=true):Ml a c=true:=by rw[Rw] at *;exact List.lt_trans F H
def rL (a:T):Ml a a=false:=by
 cases h:Ml a a
 ·rfl
 rw[Rw] at h;exact absurd h (List.lt_irrefl _)
def sD (a b:T)(h:Ml a b=false):a=b\/Ml b a=true:=by
 have H:¬ a.toList<b.toList:=λq=>by rw[<- Rw] at q;rw[h] at q;simp at q
 rw[Rw];have J:b.toList<=a.toList:=List.not_lt.1 H;rcases List.le_iff_lt_or_eq.1 J with F|F
 ·exact .inr F
 exact .inl (tu F.symm)
def M5 {l:O T}{n:T}(K:l.Pairwise λa b=>Ml a b=true)(M:l.length+1<=1000000000):B9 l n=some (if n∈l then l else G7 Ml l n):=by
 have H:=B7 (Ml · n) l;unfold B9;rw[nu (p:=(Ml · n)) (λx P=>P (cond true (Op.bytesLess x.toList n.toList) false)) (by omega) (λx _ k=>rfl),AB];have J:=ME nr rL (x:=n) K;have F:=Zy (b:=16) (l:=l) (x:=n) (p:=(Ml · n)) (by decide) M rfl;by_cases hk:(l.takeWhile (Ml · n)).length<l.length
 ·rw[Xa2 (by simpa using hk),Ae hk,AA];refine F _ ?_;rw[X25,Xy,J,X12 hk];simp only[Xe1,uT,Xy,X21]
 rw[Xa1 (by simpa using hk)];refine F _ ?_;rw[X25,Xy,J,Xdl (by omega)];simp
def GY (L:O Set)(n:T):C Set:=L.find? λs=>decide (s.Name=n)
def Vd:Set:=⟨Xbe,[],[]⟩
def NE (r:zu)(n:T):GH r n=some ((GY r.tE n).getD Vd,(GY r.tE n).isSome):=by
 unfold GH GY;rw[AB];have key :∀(l:O Set) (i:Nat),AL (λ_=>some ((⟨Xbe,[],[]⟩:Set),false)) (λF H K _=>if (H.Name.toList==n.toList) then some (H,true) else F ()) l i ()=some ((l.find? λs=>decide (s.Name=n)).getD Vd,(l.find? λs=>decide (s.Name=n)).isSome):=by
  intro l;induction l with
  | nil=>intro i;rfl
  | cons x t J=>intro i;show (if (x.Name.toList==n.toList)=true then some (x,true) else AL _ _ t (i+1) ())=_;rw[J,uT,List.find?_cons];by_cases h:x.Name=n<;>simp[h]
 exact key r.tE 0
def HW {L:O Set}{n:T}{s:Set}(h:GY L n=some s):s∈L/\s.Name=n:=by unfold GY at h;exact⟨List.mem_of_find?_eq_some h,by simpa using List.find?_some h⟩
def S3 {L:O Set}{n:T}(h:GY L n=none) :∀s∈L,s.Name≠n:=by unfold GY at h;intro s F;simpa using List.find?_eq_none.1 h s F
def Wo (L:O Set):Prop:=(L.map (·.Name)).Nodup
def Wo.eq {L:O Set}(h:Wo L){s t:Set}(J:s∈L)(M:t∈L)(e:s.Name=t.Name):s=t:=by
 induction L with
 | nil=>simp at J
 | cons x L P=>
  unfold Wo at h;obtain⟨K,Q⟩:=List.nodup_cons.1 h;rcases Xa7.1 J with rfl|F<;>rcases Xa7.1 M with rfl|H
  ·rfl
  ·exact absurd (Xau.2 ⟨t,H,e.symm⟩) K
  ·exact absurd (Xau.2 ⟨s,F,e⟩) K
  exact P Q F H
def Wo.find {L:O Set}(h:Wo L){s:Set}(F:s∈L):GY L s.Name=some s:=by
 cases H:GY L s.Name with
 | none=>exact absurd rfl (S3 H s F)
 | some t=>obtain⟨J,K⟩:=HW H;rw[h.eq J F K]
inductive RN (L:List Set)(n:ByteArray):ByteArray->Prop
 | base:RN L n n
 | step {s:Set} {y:ByteArray} (hs:s∈L) (h:RN L n s.Name) (hy:y∈s.tE):RN L n y
structure Exp (L:List Set)(n:ByteArray)(la:List Int)(ms:List ByteArray):Prop where
 pa:la.Pairwise λa b=>Fk a b=true
 am :∀a,a∈la ↔∃s∈L,RN L n s.Name/\a∈s.qv
 pm:ms.Pairwise λa b=>Ml a b=true
 mm :∀x,x∈ms↔RN L n x/\∀s∈L,s.Name≠x
structure Mod (L:List Set):Prop where
 n:L.length<=64
 u:Wo L
 a :∀s∈L,s.qv.length<=64
 s :∀s∈L,s.tE.length<=64
def mA (L:O Set)(n:T):O T:=n::L.flatMap (·.tE)
def mS {L:O Set}(h:Mod L)(n:T):(mA L n).length<=4097:=by
 have key :∀(l:O Set),(∀s∈l,s.tE.length<=64)->(l.flatMap (·.tE)).length<=64*l.length:=by
  intro l;induction l with
  | nil=>intro _;simp
  | cons x t H=>intro F;have:=H λs J=>F s (X16 _ J);have:=F x (by simp);simp only[Xat,X2,X3];omega
 have K:=key L h.s;have M:=h.n;unfold mA;simp only[X3];omega
def mI {L:O Set}{n x:T}(h:RN L n x):x∈mA L n:=by
 cases h with
 | base=>unfold mA;simp
 | step F _ H=>unfold mA;exact X16 _ (Xc9.2 ⟨_,F,H⟩)
abbrev keys (m:O (T×I)):O T:=m.map (·.1)
def mo {m:O (T×I)}(h :∀p∈m,p.2=true)(x:T):(A1 m x).getD false=decide (x∈keys m):=by
 cases hg:A1 m x with
 | none=>
  have:x∉keys m:=λK=>by obtain⟨v,F⟩:=jK.2 K;rw[hg] at F;simp at F
  simp[this]
 | some v=>have H:=Vl hg;have J:=h _ H;have:x∈keys m:=Xau.2 ⟨_,H,rfl⟩;simp only at J;simp[J,this]
def jH {m:O (T×I)}(h :∀p∈m,p.2=true)(x:T) :∀p∈A3 m x true,p.2=true:=by
 induction m with
 | nil=>intro p F;simp[A3] at F;rw[F]
 | cons q m H=>
  intro p F;unfold A3 at F;split at F
  ·rcases Xa7.1 F with rfl|F
   ·rfl
   exact h p (X16 _ F)
  rcases Xa7.1 F with rfl|F
  ·exact h _ (by simp)
  exact H (λp F=>h p (X16 _ F)) p F
def Wa {m:O (T×I)}{x:T}(h:x∉keys m)(v:I):(A3 m x v).length=m.length+1:=by have:=Xap List.length (P1 m x v);rw[Xa1 h] at this;simpa using this
structure RI (L:List Set)(n:ByteArray)(a:List Int)(m:List ByteArray)(sn:List (ByteArray×Bool))(td:List ByteArray):Prop where
 pa:a.Pairwise λa b=>Fk a b=true
 pm:m.Pairwise λa b=>Ml a b=true
 nd:(keys sn).Nodup
 tr :∀p∈sn,p.2=true
 rn :∀x∈keys sn,RN L n x
 tk :∀x∈td,x∈keys sn
 sa :∀x∈a,∃s∈L,RN L n s.Name/\x∈s.qv
 sm :∀x∈m,RN L n x/\∀s∈L,s.Name≠x
 pr :∀x∈keys sn,x∈td\/((∀s∈L,s.Name=x->(∀y∈s.qv,y∈a)/\∀y∈s.tE,y∈keys sn)/\((∀s∈L,s.Name≠x)->x∈m))
 n0:n∈keys sn
 la:a.length+64*(td.length+(4097-sn.length))<=64*4098
 lm:m.length+(td.length+(4097-sn.length))<=4098
def UK {L:O Set}(h:Mod L){n:T}{F:O (T×I)}(nd:(keys F).Nodup)(rn :∀x∈keys F,RN L n x):F.length<=4097:=by have H:=M3 nd λx J=>mI (rn x J);have K:=mS h n;simp only[keys,X1] at H;omega
def RI.fin {L:O Set}{n:T}{a:O Int}{m:O T}{P:O (T×I)}(h:RI L n a m P []):Exp L n a m:=by
 have H :∀x,RN L n x->x∈keys P:=by
  intro x Q;induction Q with
  | base=>exact h.n0
  | step J _ U V=>
   rcases h.pr _ V with F|F
   ·simp at F
   exact (F.1 _ J rfl).2 _ U
 refine⟨h.pa,λx=>⟨h.sa x,λ⟨s,J,K,M⟩=>?_⟩,h.pm,λx=>⟨h.sm x,λ⟨K,M⟩=>?_⟩⟩
 ·rcases h.pr _ (H _ K) with F|F
  ·simp at F
  exact (F.1 s J rfl).1 x M
 rcases h.pr _ (H _ K) with F|F
 ·simp at F
 exact F.2 M
def uF {a:O Int}{l:O Int}{ρ:Type}{Q:ρ->Prop}{k:O Int->C ρ}(P:a.Pairwise λa b=>Fk a b=true)(hl:a.length+l.length<=1000000) (U :∀v,v.Pairwise (λa b=>Fk a b=true)->(∀y,y∈v↔y∈a\/y∈l)->v.length<=a.length+l.length->Ok (k v) Q) : Ok (AL (λv=>k v) (λnext x _ v=>Xx (ER v x) λV=>next V) l 0 a) Q:=by
 refine .Gd (λi v=>v.Pairwise (λa b=>Fk a b=true)/\(∀y,y∈v↔y∈a\/y∈l.take i)/\v.length<=a.length+i) ⟨P,by simp,by simp⟩ (λv ⟨F,H,K⟩=>U v F (by simpa using H) K) ?_;rintro next x i v M ⟨F,H,K⟩ Y
 have hi:=(X13.1 M).1;rw[Rl F (by omega),AA];refine Y _ ⟨?_,λy=>?_,?_⟩
 ·split
  ·exact F
  exact H7 Nl XS F ‹_›
 ·have Z:y∈l.take (i+1)↔y∈l.take i\/y=x:=by rw[Xbr,M];simp
  rw[Z];split
  ·rename_i J;rw[H];constructor
   ·rintro (h|h)
    ·exact .inl h
    exact .inr (.inl h)
   rintro (h|h|rfl)
   ·exact .inl h
   ·exact .inr h
   exact (H _).1 J
  rw[D5,H,or_assoc]
 split
 ·omega
 rw[G0];omega
def bR {r:zu}{n:T}(hm:Mod r.tE){a:O Int}{m:O T}{sn:O (T×I)}{x:T}{P:O T}(h:RI r.tE n a m sn (x::P)){ρ:Type}{Q:ρ->Prop} {next:O Int×O T×O (T×I)×O T->C ρ} (hn :∀a' Z J U,RI r.tE n a' Z J U->U.length+(4097-J.length)<(x::P).length+(4097-sn.length)->Ok (next (a',Z,J,U)) Q) : Ok (AC (τ:=(O Int)×(O T)×(O (T×I))×(O T)) (λax=>Xx (gN (x::P) 0) λay=>Xx (GH r ay) λ(v12,az)=>AC (τ:=(O T)) (λY=>if (!az) then Xx (gN (x::P) 0) λae=>Xx (B9 m ae) λaf=>Y af else Y m ) λba=>Xx (part (x::P) 1 ((x::P).length:Int)) λbb=>AC (τ:=(O Int)) (λbc=>AL (σ:=(O Int)) (λag=>bc ag ) (λa6 bd br ag=>Xx (ER ag bd) λbe=>a6 be ) v12.qv 0 a ) λbf=>AC (τ:=(O (T×I))×(O T)) (λbg=>AL (σ:=(O (T×I))×(O T)) (λ(v27,v28)=>bg (v27,v28) ) (λa7 ah bu (v27,v28)=>Xx (some (Xdb (A1 v27 ah) false)) λbh=>AC (τ:=(O (T×I))×(O T)) (λap=>if (!bh) then Xx (gO (α:=T) 16 v28 ([ah]:O T)) λbi=>ap ((A3 v27 ah true),bi) else ap (v27,v28) ) λ(v35,v36)=>a7 (v35,v36) ) v12.tE 0 (sn,bb) ) λ(v37,bj)=>ax (bf,ba,v37,bj) ) λ(v39,v40,v41,bk)=>next (v39,v40,v41,bk)) Q:=by
 have bw:=UK hm h.nd h.rn;have bl:=h.la;have bm:=h.lm;simp only[X3] at bl bm hn;have hx:=h.tk x (by simp);have a8:=h.rn x hx;rw[AB];have g0:gN (x::P) 0=some x:=Ae (l:=x::P) (i:=0) (by simp);have p1:part (x::P) 1 ((x::P).length:Int)=some P:=by have:=Fo (l:=x::P) (n:=1) (by simp);simpa using this
 rw[g0,AA,NE,AA];dsimp only;rw[p1];have ai :∀K:O T->C ρ,(∀Z,Z.Pairwise (λa b=>Ml a b=true)->(∀y,y∈Z↔y∈m\/(y=x/\GY r.tE x=none))->Z.length<=m.length+1->Ok (K Z) Q)->
   Ok (AC (τ:=(O T)) (λY=>if (!(GY r.tE x).isSome) then Xx (some x) λae=>Xx (B9 m ae) λaf=>Y af else Y m) K) Q:=by
  intro K hK;rw[AB];cases M:GY r.tE x with
  | some s=>rw[Xa1 (by simp)];exact hK m h.pm (by simp[M]) (by omega)
  | none=>
   rw[Xa2 (by simp),AA,M5 h.pm (by omega),AA];refine hK _ ?_ (λy=>?_) ?_
   ·split
    ·exact h.pm
    exact H7 nr sD h.pm ‹_›
   ·split
    ·simp only[M,Xf6];constructor
     ·exact .inl
     rintro (h|rfl)
     ·exact h
     assumption
    rw[D5];simp[M]
   split
   ·omega
   rw[G0];omega
 refine ai _ λZ bn aj bx=>?_;rw[AA,AB];generalize V:(GY r.tE x).getD Vd=s;have bz:s.qv.length<=64/\s.tE.length<=64:=by
  cases M:GY r.tE x with
  | none=>rw[M] at V;subst V;exact⟨by simp[Vd],by simp[Vd]⟩
  | some s'=>rw[M] at V;simp only[Xaz] at V;subst V;exact⟨hm.a _ (HW M).1,hm.s _ (HW M).1⟩
 have bo :∀t∈r.tE,t.Name=x->t=s/\GY r.tE x=some s:=by intro t ht he;have:=hm.u.find ht;rw[he] at this;rw[this] at V;simp only[Xaz] at V;subst V;exact⟨rfl,this⟩
 have c0 :∀y,y∈s.qv\/y∈s.qv->True:=λ_ _=>trivial;have ak:(s.qv≠[]\/s.tE≠[])->s∈r.tE/\s.Name=x:=by
  intro bp;cases M:GY r.tE x with
  | none=>rw[M] at V;subst V;simp[Vd] at bp
  | some s'=>rw[M] at V;simp only[Xaz] at V;subst V;exact HW M
 refine uF h.pa (by omega) λa' bq al c3=>?_;rw[AB];refine .Gd (λi (p:O (T×I)×O T)=>(keys p.1).Nodup/\(∀q∈p.1,q.2=true)/\(∀y,y∈keys p.1↔y∈keys sn\/y∈s.tE.take i)/\(∀y∈p.2,y∈keys p.1)/\(∀y∈keys p.1,y∈keys sn\/y∈p.2)/\(∀y∈P,y∈p.2)/\p.2.length+sn.length=P.length+p.1.length)
  ⟨h.nd,h.tr,by simp,λy F=>h.tk y (X16 _ F),λy F=>.inl F,λy F=>F,rfl⟩ ?_ ?_
 ·rintro⟨J,U⟩ ⟨b1,b2,b3,Pw,b5,b6,b7⟩;simp only[Xd3] at b1 b2 b3 Pw b5 b6 b7;have aa :∀y∈keys J,RN r.tE n y:=by
   intro y F;rcases (b3 y).1 F with F|F
   ·exact h.rn y F
   obtain⟨q1,q2⟩:=ak (.inr (λe=>by rw[e] at F;simp at F));exact .step q1 (by rw[q2];exact a8) F
  have aq:=UK hm b1 aa;refine hn a' Z J U ⟨bq,bn,b1,b2,aa,Pw,λy F=>?_,λy F=>?_,λy F=>?_,(b3 n).2 (.inl h.n0),by omega,by omega⟩ (by omega)
  ·rcases (al y).1 F with F|F
   ·exact h.sa y F
   obtain⟨q1,q2⟩:=ak (.inl (λe=>by rw[e] at F;simp at F));exact⟨s,q1,by rw[q2];exact a8,F⟩
  ·rcases (aj y).1 F with F|⟨rfl,M⟩
   ·exact h.sm y F
   exact⟨a8,S3 M⟩
  rcases b5 y F with an|an
  ·rcases h.pr y an with hp|⟨p1,p2⟩
   ·rcases Xa7.1 hp with rfl|hp
    ·refine .inr ⟨λt ht he=>?_,λao=>?_⟩
     ·obtain⟨e1,e2⟩:=bo t ht he;subst e1;exact⟨λz H=>(al z).2 (.inr H),λz H=>(b3 z).2 (.inr H)⟩
     refine (aj _).2 (.inr ⟨rfl,?_⟩);cases M:GY r.tE y with
     | none=>rfl
     | some t=>exact absurd (HW M).2 (ao t (HW M).1)
    exact .inl (b6 y hp)
   refine .inr ⟨λt ht he=>?_,λao=>(aj y).2 (.inl (p2 ao))⟩;obtain⟨c1,c2⟩:=p1 t ht he;exact⟨λz H=>(al z).2 (.inl (c1 z H)),λz H=>(b3 z).2 (.inl (c2 z H))⟩
  exact .inl an
 rintro nx y i ⟨J,U⟩ F ⟨b1,b2,b3,Pw,b5,b6,b7⟩ ar;simp only at b1 b2 b3 Pw b5 b6 b7;have hi:=(X13.1 F).1;have ht :∀z,z∈s.tE.take (i+1)↔z∈s.tE.take i\/z=y:=λz=>by rw[Xbr,F];simp
 have aa :∀z∈keys J,RN r.tE n z:=by
  intro z H;rcases (b3 z).1 H with H|H
  ·exact h.rn z H
  have H:=Xdr H;obtain⟨q1,q2⟩:=ak (.inr (λe=>by rw[e] at H;simp at H));exact .step q1 (by rw[q2];exact a8) H
 have aq:=UK hm b1 aa;simp only[AA];rw[AB,mo b2];by_cases ab:y∈keys J
 ·rw[Xa4 ab,Xa1 (by decide)];refine ar _ ⟨b1,b2,λz=>?_,Pw,b5,b6,b7⟩;rw[b3,ht];constructor
  ·rintro (h|h)
   ·exact .inl h
   exact .inr (.inl h)
  rintro (h|h|rfl)
  ·exact .inl h
  ·exact .inr h
  exact (b3 _).1 ab
 rw[Xa9 ab,Xa2 (by decide)];refine .bind (Ok.gO (by decide) (by simp;omega)) λc4 au=>?_;subst au;refine ar _ ⟨eP b1,jH b2 y,λz=>?_,λz H=>?_,λz H=>?_,λz H=>?_,?_⟩
 ·rw[Sv,b3,ht,or_assoc]
 ·rw[Sv];rcases X20.1 H with H|H
  ·exact .inl (Pw z H)
  exact .inr (by simpa using H)
 ·rcases Sv.1 H with H|rfl
  ·exact (b5 z H).imp id λh=>X20.2 (.inl h)
  exact .inr (by simp)
 ·exact X20.2 (.inl (b6 z H))
 simp only;rw[Wa ab];simp only[X2,X3,X10];omega
def RI.init {L:O Set}(n:T):RI L n [] [] (A3 [] n true) [n]:=by
 refine⟨.nil,.nil,by simp[A3],by simp[A3],?_,?_,by simp,by simp,?_,by simp[A3],by simp[A3],by simp[A3]⟩
 ·intro x F;simp[A3] at F;subst F;exact .base
 ·intro x F;simp[A3] at F⊢;exact F
 intro x F;simp[A3] at F;exact .inl (by simp[F])
def N4 {r:zu}{n:T}(Q:Mod r.tE)(U :∀s∈r.tE,Qr s)(V:T8 r=true) : Ok (Gt r n) λF=>(GY r.tE n=none/\F=([],[],11))\/(∃s,GY r.tE n=some s/\F.2.2=0/\Exp r.tE n F.1 F.2.1):=by
 unfold Gt;rw[Ig U,V,AA,Xa1 (by decide),NE,AA];dsimp only;cases hf:GY r.tE n with
 | none=>exact .ite (λ_=>.ret (.inl ⟨rfl,rfl⟩)) λh=>absurd rfl h
 | some s=>
  refine .ite (λh=>absurd h (by simp)) λ_=>?_;refine .join (λp:O Int×O T=>Exp r.tE n p.1 p.2) (λk Y=>?_) λp Z=>.ret (.inr ⟨s,rfl,rfl,Z⟩);refine .Dr (λp:(O Int)×(O T)×(O (T×I))×(O T)=>RI r.tE n p.1 p.2.1 p.2.2.1 p.2.2.2) (λp=>p.2.2.2.length+(4097-p.2.2.1.length)) (RI.init n) (BE (by simp[A3])) ?_;rintro next ⟨a,m,sn,P⟩ H J
  simp only at H;cases P with
  | nil=>dsimp only;rw[Xa1 (by simp)];exact Y (a,m) H.fin
  | cons x P=>dsimp only;rw[Xa2 (by simp)];exact bR Q H λa' m' K M h1 h2=>J (a',m',K,M) h1 h2
end Go.AX.Q33
end
