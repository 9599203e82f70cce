/-
  Texts of one proof, packed.
-/
import Derived.Test.YtgbncopbacigiaaGreatDoorD16
import Derived.Test.YtgbncopbacigiaaGreatDoorD17
import Derived.Test.YtgbncopbacigiaaGreatDoorD19
import Derived.Sort.Walk0
set_option linter.all false
set_option maxRecDepth 100000
set_option maxHeartbeats 4000000
open List renaming length_map→X10,length_append→X11,length_cons→X12,length_nil→X13,getElem?_eq_getElem→X15,length_drop→X17,length_take→X18,mem_cons_of_mem→X19,length_replicate→X20,length_set→X21,length_singleton→X22,mem_append→X23
open Option.some renaming injEq→X24,inj→X25
open Bool renaming and_eq_true→X27,eq_iff_iff→X28
open Option renaming bind→Xd
open Int renaming toNat→Xi,fdiv→Xcd
open List renaming take→Xaq,drop→Xat
open Go renaming maxLen→Xbl
open Nat renaming ble→Xdi
open ByteArray renaming empty→Xaj
open Go.ByteArray renaming toList_eq→Xd8
section
namespace Go.AX.Q29
open Go Go.AX
def uT (a:Addr):O S:=(BC a).getD []
def Pm {a:Addr}(h:a.ok=true):BC a=some (uT a)/\(uT a).length=a.L:=by obtain⟨r,F,H,_⟩:=KN h;unfold uT;rw[F];exact⟨rfl,H⟩
def Vn (p:fv):O S:=BF p.rL::(uT p.Addr).take ((p.rL.toNat+7)/8)
def Bc (six:I)(l:O fv):O S:=l.flatMap λp=>if (p.Addr.V6==six)=true then Vn p else []
def xQ (a:Addr):a.w=8*a.L/\a.L<=16:=by unfold Addr.w Addr.L;split<;>exact⟨rfl,by omega⟩
def SR {p:fv}(h:Cd p):(Vn p).length<=17:=by obtain⟨F,H,J,_⟩:=h;obtain⟨_,e2⟩:=Pm F;have:=(xQ p.Addr).2;unfold Vn;simp only[X12,X18];omega
def OT (six:I)(p:fv)(t:O fv):Bc six (p::t)=(if (p.Addr.V6==six)=true then Vn p else [])++Bc six t:=Xac
def CW {six:I} :∀{l:O fv},(∀p∈l,Cd p)->(Bc six l).length<=17*l.length
 | [],_=>by simp[Bc]
 | p::t,h=>by
  have H:=SR (h p (by simp));have J:=CW (six:=six) (l:=t) λq F=>h q (X19 _ F);rw[OT,X11,X12];split
  ·omega
  simp only[X13];omega
def KU {l:O fv}(hl:l.length<=100000)(hg :∀p∈l,Cd p)(six:I):Dn l six=some (Bc six l):=by
 unfold Dn;rw[AB];refine (O3 (λ(t:O fv) _ (s:O S)=>s.length+17*t.length<=10000000/\∀p∈t,Cd p) (λt _ s=>some (s++Bc six t)) ?_ ?_ l 0 [] ⟨by simp only[X13];omega,hg⟩).trans ?_
 ·intro i s _;show some s=some (s++[]);rw[Xag]
 ·rintro next p t i s ⟨M,H⟩ J
  simp only[X12] at M;have hp:=H p (by simp);have P:=SR hp;have K :∀q∈t,Cd q:=λq Q=>H q (X19 _ Q);obtain⟨U,k2,k3,_⟩:=hp;obtain⟨e1,e2⟩:=Pm U;obtain⟨w1,w2⟩:=xQ p.Addr;rw[AB,OT];by_cases F:(p.Addr.V6==six)=true
  ·obtain⟨k,V⟩ :∃k:Nat,p.rL=k:=⟨p.rL.toNat,by omega⟩;have e3:AQ (Int.tdiv (AQ (p.rL+7)) 8)=(((p.rL.toNat+7)/8:Nat):Int):=by rw[V,Xa7,AN (x:=(k:Int)+7) (by omega),Int.tdiv_eq_ediv_of_nonneg (by omega),AN (by omega)];omega
   have e4:(p.rL.toNat+7)/8<=p.Addr.L:=by omega
   have Y:sR (0<=(0:Int)/\(0:Int)<=(((p.rL.toNat+7)/8:Nat):Int)/\(((p.rL.toNat+7)/8:Nat):Int)<=((uT p.Addr).length:Int))=some ():=Xy (by rw[e2];omega);have Z:Xaq (Xi (((p.rL.toNat+7)/8:Nat):Int)-Xi 0) (Xat (Xi 0) (uT p.Addr))=(uT p.Addr).take ((p.rL.toNat+7)/8):=by rw[Xa7];rfl
   rw[Xy F,Xy F,AD (by decide) (by simp only[X22];omega),AA,e1,AA,e3,Y,AA,Z, AD (by decide) (by simp only[X11,X22,X18];omega),AA];dsimp only
   rw[J _ ⟨by
    simp only[X11,X22,X18]
    omega,K⟩]
   unfold Vn;simp only[Xau,List.singleton_append,List.cons_append,Xax]
  rw[Xj F,Xj F];dsimp only;rw[J _ ⟨by omega,K⟩,Xax]
 rw[Xax]
def YO {l:O kI}(U:l.length<=1000000)(x:kI):FK l x=some (KJ tX l x):=by unfold FK;have P:=jz (p:=(tX · x)) (l:=l) (by omega) (g:=λy k=>k (cond true (decide (y.oA<x.oA)) false)) (λy _ k=>rfl) (K:=λJ=>Xd (part l 0 J) λM=>Xd (gE (α:=kI) 40 [] M) λ_=>Xd (gE (α:=kI) 40 M ([x]:O kI)) λQ=>Xd (part l J (l.length:Int)) λF=>Xd (gE (α:=kI) 40 Q F) λH=>some H);refine Eq.trans P ?_;exact dz (K:=some) (b:=40) (lt:=tX) (l:=l) (x:=x) (by decide) (by omega)
def sB (u:rZ):O kI:=if 0<u.gT.length then uG u.gH else []
def LY (u:rZ):O kI:=if 0<(Bc true u.gT).length then KJ tX (sB u) ⟨128,14,[0,2,1,16]++uT u.gH.Next++[0]++Bc true u.gT⟩ else sB u
def If (u:rZ):O kI:=if 0<(Bc true u.qv).length then KJ tX (LY u) ⟨128,15,[0,2,1]++Bc true u.qv⟩ else LY u
def two (n:Nat):O S:=[BF (Xcd (n:Int) (2^(min (Xi 8) 64))),BF (n:Int)]
def Vd (u:rZ)(a:O S):O S:=two (Bc false u.qv).length++Bc false u.qv++two a.length++a++Bc false u.gT
def EI (u:rZ):O S×Int:=if (He (If u)).2≠0 then ([],(He (If u)).2) else (Vd u (He (If u)).1,0)
structure vB (u:rZ):Prop where
 w:u.qv.length<=1000
 n:u.gT.length<=1000
 gw :∀p∈u.qv,Cd p
 ga :∀p∈u.gT,Cd p
 a:0<u.gT.length->VA u.gH/\(uG u.gH).length<=16/\∀x∈uG u.gH,x.Data.length<=768
def Su {u:rZ}(g:vB u):FO u=some (EI u):=by
 have a1:=CW (six:=true) g.gw;have a6:=CW (six:=false) g.gw;have a7:=CW (six:=true) g.ga;have a8:=CW (six:=false) g.ga;have hw:=g.w;have hn:=g.n;have Z:(sB u).length<=16/\∀x∈sB u,x.Data.length<=768:=by
  unfold sB;split
  ·exact (g.a ‹_›).2
  simp
 unfold FO;have e0 :∀(K:O kI->C (O S×Int)),AC (τ:=(O kI)) (λk1=>if (decide ((u.gT.length:Int)>0)) then Xd (FX u.gH) λ(v2,v3)=>if (v3 !=0) then some ([],v3) else k1 v2 else k1 []) K=K (sB u):=by
  intro K;rw[AB];unfold sB;by_cases h:0<u.gT.length
  ·rw[Xy (by simp only[Xe];omega),Xy h,Zx (g.a h).1,AA];exact Xj (by simp)
  rw[Xj (by simp only[Xe];omega),Xj h]
 rw[e0];rw[KU (by omega) g.ga,AA];have hL:(uT u.gH.Next).length<=16\/u.gT.length=0:=by
  rcases Nat.eq_zero_or_pos u.gT.length with h|h
  ·exact .inr h
  have:=(Pm (g.a h).1.n).2;have:=(xQ u.gH.Next).2;exact .inl (by omega)
 have e1 :∀{H:Type} (K:O kI->C H),AC (τ:=(O kI)) (λk6=>if (decide (((Bc true u.gT).length:Int)>0)) then Xd (BC u.gH.Next) λv7=>Xd (gE (α:=S) 1 ([(0:S),(2:S),(1:S),(16:S)]:O S) v7) λv8=>Xd (gE (α:=S) 1 v8 ([(0:S)]:O S)) λv9=>Xd (gE (α:=S) 1 v9 (Bc true u.gT)) λP=>Xd (FK (sB u) (⟨128,14,P⟩:kI)) λQ=>k6 Q else k6 (sB u)) K=K (LY u):=by
  intro H K;rw[AB];unfold LY;by_cases h:0<(Bc true u.gT).length
  ·have J:0<u.gT.length:=by omega
   have hl:(uT u.gH.Next).length<=16:=hL.resolve_right (by omega);rw[Xy (by simp only[Xe];omega),Xy h,(Pm (g.a J).1.n).1,AA,AD (by decide) (by simp only[X12,X13];omega),AA, AD (by decide) (by simp only[X11,X12,X13];omega),AA,AD (by decide) (by simp only[X11,X12,X13];omega),AA,YO (by omega),AA]
  rw[Xj (by simp only[Xe];omega),Xj h]
 rw[e1,KU (by omega) g.gw,AA];have h1:(LY u).length<=17/\∀x∈LY u,x.Data.length<=20000:=by
  unfold LY;split
  ·refine⟨by rw[Hm];omega,λx F=>?_⟩;rcases HY.1 F with F|rfl
   ·have:=Z.2 x F;omega
   have hl:(uT u.gH.Next).length<=16:=hL.resolve_right (by omega);simp only[X11,X12,X13];omega
  exact⟨by omega,λx F=>by have:=Z.2 x F;omega⟩
 have e2 :∀{H:Type} (K:O kI->C H),AC (τ:=(O kI)) (λM=>if (decide (((Bc true u.qv).length:Int)>0)) then Xd (gE (α:=S) 1 ([(0:S),(2:S),(1:S)]:O S) (Bc true u.qv)) λU=>Xd (FK (LY u) (⟨128,15,U⟩:kI)) λV=>M V else M (LY u)) K=K (If u):=by
  intro H K;rw[AB];unfold If;by_cases h:0<(Bc true u.qv).length
  ·rw[Xy (by simp only[Xe];omega),Xy h,AD (by decide) (by simp only[X12,X13];omega),AA,YO (by omega),AA]
  rw[Xj (by simp only[Xe];omega),Xj h]
 rw[e2];have h2:(If u).length<=18/\∀x∈If u,x.Data.length<=20000:=by
  unfold If;split
  ·refine⟨by rw[Hm];omega,λx F=>?_⟩;rcases HY.1 F with F|rfl
   ·exact h1.2 x F
   simp only[X11,X12,X13];omega
  exact⟨by omega,h1.2⟩
 rw[cY (by omega) (λx F=>by have:=h2.2 x F;omega),AA];have hj:=Z0 (l:=If u);unfold EI;dsimp only;by_cases he:(He (If u)).2=0
 ·have Y:¬ (He (If u)).2≠0:=λq=>q he;rw[Xj (by rw[he];decide),Xj Y,KU (by omega) g.gw,AA,AD (by decide) (by simp only[X12,X13];omega),AA, AD (by decide) (by simp only[X11,X12,X13];omega),AA,AD (by decide) (by simp only[X11,X12,X13];omega),AA, KU (by omega) g.ga,AA,AD (by decide) (by simp only[X11,X12,X13];omega),AA];rfl
 rw[Xy (by simpa using he),Xy he]
def wg (u:rZ):kI:=⟨128,14,[0,2,1,16]++uT u.gH.Next++[0]++Bc true u.gT⟩
def vj (u:rZ):kI:=⟨128,15,[0,2,1]++Bc true u.qv⟩
def jd (u:rZ):LY u=if 0<(Bc true u.gT).length then KJ tX (sB u) (wg u) else sB u:=rfl
def jQ (u:rZ):If u=if 0<(Bc true u.qv).length then KJ tX (LY u) (vj u) else LY u:=rfl
def filter_all {l:O fv}{b:I}(h :∀p∈l,p.Addr.V6=b):(l.filter λp=>p.Addr.V6==false)++(l.filter λp=>p.Addr.V6==true)=l:=by
 cases b with
 | false=>rw[Xc8.2 (λp hp=>by rw[h p hp];rfl),List.filter_eq_nil_iff.2 (λp hp=>by rw[h p hp];decide),Xag]
 | true=>rw[List.filter_eq_nil_iff.2 (λp hp=>by rw[h p hp];decide),Xc8.2 (λp hp=>by rw[h p hp];rfl),Xax]
def JH (p:fv):I:=(Ae p).getD false
def Im (p:fv):Ae p=some (JH p)/\(JH p=true↔Cd p):=by obtain⟨b,F,H⟩:=Fg p;unfold JH;rw[F];exact⟨rfl,H⟩
def vK (a:gH):I:=(CQ a eA).getD false
theorem Xf (a:gH):CQ a eA=some (vK a):=by obtain⟨b,h⟩:=(inferInstance:Tt (CQ a eA)).h;unfold vK;rw[h];rfl
def Tz (a:gH)(p:fv):I:=(p.Addr.V6==a.Next.V6)&&((a.gS !=-1)&&(!(Addr.rO a.Next wE)&&Eh a))
def X1 (u:rZ):I:=((EI u).2==0)&&decide ((EI u).1.length<=4077)
def Dq (u:rZ):I:=decide (u.qv.length<=256)&&(decide (u.gT.length<=256)&&((u.qv++u.gT).all JH&&((!(decide (u.gT=[])) || vK u.gH)&&(u.gT.all (Tz u.gH)&&X1 u))))
def U3 {u:rZ}(P:vb u.gH)(hw:u.qv.length<=1000)(hn:u.gT.length<=1000)(Q :∀{a:gH},VA a->(uG a).length<=16):Gq u=some (Dq u):=by
 unfold Gq Dq;rw[AB];by_cases K:u.qv.length<=256;case neg=>rw[Xy (by simp only[Xe];omega),Ws K];rfl
 rw[Xj (by simp only[Xe];omega),Wd K];dsimp only;by_cases M:u.gT.length<=256;case neg=>rw[Ws M,Xy (by simp only[Xdg,Xe];omega)];rfl
 rw[Wd M,Xj (by simp only[Xdg,Xe];omega),AD (by decide) (by simp only[X13];omega),AA,AD (by decide) (by omega),AA,AB]
 refine (Oo (g:=JH) (r0:=some false) λnext p i _=>by
  rw[(Im p).1,AA]
  cases JH p<;>rfl).trans ?_
 cases hg:(u.qv++u.gT).all JH with
 | false=>rfl
 | true=>
  have F :∀p∈u.qv++u.gT,Cd p:=λp hp=>(Im p).2.1 (Wo.1 hg p hp);simp only[Xcr,Xc6];rw[AB];have U:CE=some eA:=rfl;by_cases H:u.gT=[]
  ·rw[Xy ((pD _).2 H),U,AA,Xf,AA,Wd H];cases he:vK u.gH with
   | false=>rfl
   | true=>
    simp only[Bool.not_true,Xcr,Bool.false_or,Xc6];rw[Xj (by decide),AB,H];show Xd (FO u) _=_;have g:vB u:=⟨by omega,by omega,λp hp=>F p (List.mem_append_left _ hp),(λp hp=>by rw[H] at hp;cases hp),λq=>by rw[H] at q;cases q⟩;rw[Su g,AA];unfold X1;rw[AB];have e:decide (((EI u).1.length:Int)<=4077)=decide ((EI u).1.length<=4077):=by rw[decide_eq_decide];omega
    rw[e];cases ((EI u).2==0)<;>cases decide ((EI u).1.length<=4077)<;>rfl
  rw[Xj (λq=>H ((pD _).1 q)),Ws H];simp only[Bool.not_false,Bool.true_or,Xc6];rw[Xj (by decide),AB]
  refine (Oo (g:=Tz u.gH) (r0:=some false) λnext p i _=>by
   rw[AB,KQ P,AA];unfold Tz;have V:Addr.rO u.gH.Next (⟨false,(0:j),(0:j)⟩:Addr)=Addr.rO u.gH.Next wE:=rfl;have Y:(u.gH.gS==(-1))=!(u.gH.gS !=-1):=(Bool.not_not _).symm;rw[V,Y]
   cases (p.Addr.V6==u.gH.Next.V6)<;>cases (u.gH.gS !=-1)<;>cases Addr.rO u.gH.Next wE<;>cases Eh u.gH<;>rfl).trans ?_
  cases Z:u.gT.all (Tz u.gH) with
  | false=>rfl
  | true=>
   simp only[Xcr,Xc6];have J:VA u.gH:=by obtain⟨p,hp⟩:=List.exists_mem_of_ne_nil _ H;have:=Wo.1 Z p hp;unfold Tz at this;simp only[X27] at this;exact Nw.1 this.2.2.2
   have g:vB u:=⟨by omega,by omega,λp hp=>F p (List.mem_append_left _ hp),λp hp=>F p (List.mem_append_right _ hp),λ_=>⟨J,Q J,λx hx=>jP J hx⟩⟩;rw[Su g,AA];unfold X1;rw[AB];have e:decide (((EI u).1.length:Int)<=4077)=decide ((EI u).1.length<=4077):=by rw[decide_eq_decide];omega
   rw[e];cases ((EI u).2==0)<;>cases decide ((EI u).1.length<=4077)<;>rfl
def Iu {α:Type}(l:O α):((l.length:Int) !=(([]:O α).length:Int))=!decide (l=[]):=by
 cases l with
 | nil=>rfl
 | cons x t=>rw[Ws (by simp),Bool.not_false,bne_iff_ne];simp only[X12,X13];omega
def oQ (l:O oF):Dw l []=some (decide (l=[])):=by
 unfold Dw;rw[Iu];cases l with
 | nil=>rfl
 | cons x t=>rw[Ws (by simp)];rfl
def nr (l:O r8):Dy l []=some (decide (l=[])):=by
 unfold Dy;rw[Iu];cases l with
 | nil=>rfl
 | cons x t=>rw[Ws (by simp)];rfl
def nT (l:O n8):BJ l []=some (decide (l=[])):=by
 unfold BJ;rw[Iu];cases l with
 | nil=>rfl
 | cons x t=>rw[Ws (by simp)];rfl
def nR (l:O kI):BY l []=some (decide (l=[])):=by
 unfold BY;rw[Iu];cases l with
 | nil=>rfl
 | cons x t=>rw[Ws (by simp)];rfl
def jj (a:gH):vK a=((a.gS==-1)&&(decide (a.Path=[])&&(Addr.rO a.Next wE&&((a.sd==-1)&&((a.rh==-1)&&((a.rX==-1)&&(decide (a.fT=[])&&(decide (a.n8=[])&&decide (a.lf=[]))))))))):=by have h:=Xf a;unfold CQ at h;have e :∀x:I,cond true x false=x:=λx=>rfl;rw[AB,show eA.Path=[] from rfl,show eA.fT=[] from rfl,show eA.n8=[] from rfl,show eA.lf=[] from rfl,oQ,AA,nr,AA,nT,AA,nR,AA] at h;have F:(if (a.gS==-1)=true then if decide (a.Path=[])=true then if Addr.rO a.Next wE=true then if (a.sd==-1)=true then if (a.rh==-1)=true then if (a.rX==-1)=true then if decide (a.fT=[])=true then if decide (a.n8=[])=true then some (decide (a.lf=[])) else some false else some false else some false else some false else some false else some false else some false else some false)=some (vK a):=h;generalize vK a=r at F⊢;generalize (a.gS==-1)=H at F⊢;generalize decide (a.Path=[])=J at F⊢;generalize Addr.rO a.Next wE=K at F⊢;generalize (a.sd==-1)=M at F⊢;generalize (a.rh==-1)=P at F⊢;generalize (a.rX==-1)=Q at F⊢;generalize decide (a.fT=[])=U at F⊢;generalize decide (a.n8=[])=V at F⊢;generalize decide (a.lf=[])=Y at F⊢;cases H<;>cases J<;>cases K<;>cases M<;>cases P<;>cases Q<;>cases U<;>cases V<;>simpa using F.symm
def kU (a:gH):vK a=true↔a=eA:=by
 constructor
 ·intro h;rw[jj] at h;simp only[X27,Xbi,Xe] at h;obtain⟨H,J,F,K,M,P,Q,U,V⟩:=h;have F:=(Addr.rb _ _).1 F;obtain⟨Y,Z,a3,a4,a5,a6,a7,a8,a9⟩:=a;dsimp only at *;subst H J F K M P Q U V;rfl
 rintro rfl;have:=Xf eA;rw[Zp] at this;exact (X25 this).symm
def lg (d:O S)(h:d.length<=2048):(He [⟨128,15,d⟩]).2=0/\(He [⟨128,15,d⟩]).1=HO [⟨128,15,d⟩]\/2044<d.length:=by
 by_cases q:2044<d.length
 ·exact .inr q
 left;have F:HO [⟨128,15,d⟩]=XB ⟨128,15,d⟩:=by unfold HO;rw[Xac,List.flatMap_nil,Xag]
 have H:=Pe ⟨128,15,d⟩;have J:([⟨128,15,d⟩]:O kI).all ve=true:=by unfold ve;simp only[Xd1,List.all_nil,Xd3];simp;omega
 dsimp only at H;unfold He;rw[Xy J,F,Xj (by omega)];exact⟨rfl,rfl⟩
def mH {l:O fv}(h :∀p∈l,Cd p)(P:l.length<=40):Dq ⟨l,eA,[]⟩=true:=by
 have Q:=CW (six:=true) h;have U:=CW (six:=false) h;have F :∀a:O S,(Vd ⟨l,eA,[]⟩ a).length=4+(Bc false l).length+a.length:=λa=>by unfold Vd;have t :∀n,(two n).length=2:=λn=>rfl;have z:(Bc false ([]:O fv)).length=0:=rfl;simp only[X11,t];rw[z];omega
 have e2:If ⟨l,eA,[]⟩=if 0<(Bc true l).length then [vj ⟨l,eA,[]⟩] else []:=by rw[jQ,jd];rfl
 have hp:(EI ⟨l,eA,[]⟩).2=0/\(EI ⟨l,eA,[]⟩).1.length<=4077:=by
  unfold EI;rw[e2];split
  ·have V:(vj ⟨l,eA,[]⟩).Data.length=3+(Bc true l).length:=by unfold vj;simp only[X11,X12,X13]
   have H:vj ⟨l,eA,[]⟩=⟨128,15,(vj ⟨l,eA,[]⟩).Data⟩:=rfl;rw[H];rcases lg (vj ⟨l,eA,[]⟩).Data (by omega) with ⟨J,K⟩|q
   ·rw[J,Xj (by decide)];refine⟨rfl,?_⟩;dsimp only;rw[F,K];have:=Pe (vj ⟨l,eA,[]⟩);have e:HO [⟨128,15,(vj ⟨l,eA,[]⟩).Data⟩]=XB (vj ⟨l,eA,[]⟩):=by unfold HO;rw[Xac,List.flatMap_nil,Xag];rfl
    rw[e];omega
   omega
  have j:He []=([],0):=rfl;rw[j,Xj (by decide)];refine⟨rfl,?_⟩;dsimp only;rw[F,X13];omega
 have M:vK eA=true:=(kU eA).2 rfl;unfold Dq X1;rw[hp.1];dsimp only;rw[Wd (p:=l.length<=256) (by omega),Xag,Wo.2 (λp hp=>(Im p).2.2 (h p hp)),M,Wd (p:=(EI ⟨l,eA,[]⟩).1.length<=4077) hp.2];rfl
def Qm (p:fv):Do p=some (JH p):=by
 have hg:=(Im p).2;have no:¬ Cd p->some false=some (JH p):=λq=>by
  have:JH p=false:=by rw[Bool.eq_false_iff];exact λe=>q (hg.1 e)
  rw[this]
 unfold Do;rw[AB,IL,AA,Ox];simp only[AA,Xcr];by_cases F:p.Addr.ok=true;case neg=>rw[Xj F];exact no λq=>F q.1
 rw[Xy F];by_cases H:0<=p.rL;case neg=>rw[Xj (by simpa using H)];exact no λq=>H q.2.1
 rw[Xy (by simpa using H)];by_cases J:p.rL<=p.Addr.w;case neg=>rw[Xj (by simpa using J)];exact no λq=>J q.2.2.1
 rw[Xy (by simpa using J)];obtain⟨k,M⟩ :∃k:Nat,p.rL=k:=⟨p.rL.toNat,by omega⟩;have K:=JO p.Addr (n:=k) (by omega);rw[<- M] at K;rw[K,AA];congr 1;rw[X28,hg,Addr.rb];have e:p.rL.toNat=k:=by omega
 exact⟨λh=>⟨F,H,J,by rw[e];exact h⟩,λh=>by have:=h.2.2.2;rw[e] at this;exact this⟩
instance (F:Addr):Tt (Bh F):=by unfold Bh;exact Tt.so
instance (F:Addr):Tt (Bz F):=by unfold Bz;exact Tt.so
instance (F:O S):Tt (BM F):=by unfold BM;exact Tt.so
instance (a:Addr) (n:Int):Tt (CS a n):=by obtain⟨r,e,h,_⟩:=Gg a n;exact⟨_,h⟩
def NC {p:fv}{x:Addr}(J:x.ok=true):CU p x=some (xW p x):=by
 obtain⟨r,e,K,M⟩:=Gg x p.rL;unfold CU;rw[K,AA];dsimp only;rw[AB];rcases M with ⟨⟨_,F,H⟩,rfl,rfl⟩|⟨F,H⟩
 ·simp only[Xcw,Xdl];unfold xW fv.rO Addr.rO;simp[F,H]
 simp only[Xbi,H,Xd0];unfold xW;have:¬ (0<=p.rL/\p.rL<=x.w):=λh=>F ⟨J,h⟩;simp only[this,decide_false,Bool.false_and]
instance (p:fv) (x:Addr):Tt (CU p x):=by unfold CU;exact Tt.so
instance (p q:fv):Tt (A7 p q):=by unfold A7;exact Tt.so
instance (p:fv):Tt (Ae p):=by unfold Ae;exact Tt.so
instance (o:oB):Tt (Ba o):=by unfold Ba;exact Tt.so
instance (l:O oB) (p:fv) (n:Int):Tt (CG l p n):=by unfold CG;exact Tt.so
def lP (n:Nat):I:=(decide (97<=n)&&decide (n<=122)) || (decide (65<=n)&&decide (n<=90)) || (decide (48<=n)&&decide (n<=57)) || decide (n=45) || decide (n=58)
def P8 (c:S):I:=lP c.toNat
def tj (s:T):I:=decide (1<=s.size)&&decide (s.size<=32)&&s.toList.all P8
def X6 (s:T):s.toList.length=s.size:=by rw[Xd8,Xal];rfl
def K2 {s:T}(h:s.size<=Xbl):E6 s=some (tj s):=by
 have hl:=X6 s;have hm:Xbl=9223372036854775807:=rfl;unfold E6;rw[AB];have H:AC (τ:=I) (λM=>if (decide ((s.size:Int)≥1)) then M (cond true (decide ((s.size:Int)<=32)) false) else M false) (λU=>some U)=some (decide (1<=s.size)&&decide (s.size<=32)):=by
  rw[AB];by_cases P:1<=s.size
  ·rw[Xy (by simp;omega)];simp[P];omega
  rw[Xj (by simp;omega)];simp[P]
 rw[Cm (λv:Int=>0<=v/\v<=s.size) (λv=>(s.size-v).toNat) (λv=>cond ((s.toList.drop v.toNat).all P8) (some (decide (1<=s.size)&&decide (s.size<=32))) (some false)) ?_ rp 0 (by omega) (BK (by omega))]
 ·unfold tj;simp only[Int.toNat_zero,List.drop_zero];cases s.toList.all P8<;>simp
 intro next v hv V
 by_cases J:v<s.size
 ·obtain⟨k,rfl⟩ :∃k:Nat,v=k:=⟨v.toNat,by omega⟩;have Q:k<s.toList.length:=by omega
  rw[Xy (by simpa using J),As Q,AA];have key :∀(c:S) (K:I->C I),AC (τ:=I) (λF=>if (decide ((c.toNat:Int)≥97)) then if (cond true (decide ((c.toNat:Int)<=122)) false) then F (!true) else if (decide ((c.toNat:Int)≥65)) then if (cond false true (cond true (decide ((c.toNat:Int)<=90)) false)) then F (!true) else if (decide ((c.toNat:Int)≥48)) then if (cond false true (cond true (decide ((c.toNat:Int)<=57)) false)) then F (!true) else if (cond false true ((c.toNat:Int)==45)) then F (!true) else F (!(cond false true ((c.toNat:Int)==58))) else if (cond false true ((c.toNat:Int)==45)) then F (!true) else F (!(cond false true ((c.toNat:Int)==58))) else if (decide ((c.toNat:Int)≥48)) then if (cond false true (cond true (decide ((c.toNat:Int)<=57)) false)) then F (!true) else if (cond false true ((c.toNat:Int)==45)) then F (!true) else F (!(cond false true ((c.toNat:Int)==58))) else if (cond false true ((c.toNat:Int)==45)) then F (!true) else F (!(cond false true ((c.toNat:Int)==58))) else if (decide ((c.toNat:Int)≥65)) then if (cond false true (cond true (decide ((c.toNat:Int)<=90)) false)) then F (!true) else if (decide ((c.toNat:Int)≥48)) then if (cond false true (cond true (decide ((c.toNat:Int)<=57)) false)) then F (!true) else if (cond false true ((c.toNat:Int)==45)) then F (!true) else F (!(cond false true ((c.toNat:Int)==58))) else if (cond false true ((c.toNat:Int)==45)) then F (!true) else F (!(cond false true ((c.toNat:Int)==58))) else if (decide ((c.toNat:Int)≥48)) then if (cond false true (cond true (decide ((c.toNat:Int)<=57)) false)) then F (!true) else if (cond false true ((c.toNat:Int)==45)) then F (!true) else F (!(cond false true ((c.toNat:Int)==58))) else if (cond false true ((c.toNat:Int)==45)) then F (!true) else F (!(cond false true ((c.toNat:Int)==58)))) K=K (!P8 c):=by
   intro c K;rw[AB];have Y :∀n:Fin 256,(λn:Nat=>if (decide ((n:Int)≥97)) then if (cond true (decide ((n:Int)<=122)) false) then (!true) else if (decide ((n:Int)≥65)) then if (cond false true (cond true (decide ((n:Int)<=90)) false)) then (!true) else if (decide ((n:Int)≥48)) then if (cond false true (cond true (decide ((n:Int)<=57)) false)) then (!true) else if (cond false true ((n:Int)==45)) then (!true) else (!(cond false true ((n:Int)==58))) else if (cond false true ((n:Int)==45)) then (!true) else (!(cond false true ((n:Int)==58))) else if (decide ((n:Int)≥48)) then if (cond false true (cond true (decide ((n:Int)<=57)) false)) then (!true) else if (cond false true ((n:Int)==45)) then (!true) else (!(cond false true ((n:Int)==58))) else if (cond false true ((n:Int)==45)) then (!true) else (!(cond false true ((n:Int)==58))) else if (decide ((n:Int)≥65)) then if (cond false true (cond true (decide ((n:Int)<=90)) false)) then (!true) else if (decide ((n:Int)≥48)) then if (cond false true (cond true (decide ((n:Int)<=57)) false)) then (!true) else if (cond false true ((n:Int)==45)) then (!true) else (!(cond false true ((n:Int)==58))) else if (cond false true ((n:Int)==45)) then (!true) else (!(cond false true ((n:Int)==58))) else if (decide ((n:Int)≥48)) then if (cond false true (cond true (decide ((n:Int)<=57)) false)) then (!true) else if (cond false true ((n:Int)==45)) then (!true) else (!(cond false true ((n:Int)==58))) else if (cond false true ((n:Int)==45)) then (!true) else (!(cond false true ((n:Int)==58)))) n.val=!lP n.val:=by decide +kernel
   have Z:=Y ⟨c.toNat,c.toNat_lt⟩;unfold P8;simp only[<- apply_ite K];exact congrArg K Z
  rw[key];rw[Xa7,Xbb Q,Xd1];by_cases hg:P8 s.toList[k]=true
  ·simp only[hg,Bool.not_true,Xc6,Xd0,Bool.false_eq_true];rw[AN (by omega),V _ (by omega) (by omega)];have:((k:Int)+1).toNat=k+1:=by omega
   rw[this]
  have hg:P8 s.toList[k]=false:=by simpa using hg
  simp[hg]
 rw[Xj (by simpa using J)];have:v.toNat=s.toList.length:=by omega
 rw[this,List.drop_length];exact H
def tQ (s:Set):I:=tj s.Name&&decide (s.n7.length<=64)&&decide (s.oT.length<=64)&&s.n7.all Bt&&s.oT.all tj
def OM (s:Set):Prop:=s.Name.size<=Xbl/\∀x∈s.oT,x.size<=Xbl
def B8 (p:fv):I:=p.Addr.ok&&decide (0<=p.rL)&&decide (p.rL<=p.Addr.w)&&Addr.rO (p.Addr.cut p.rL.toNat) p.Addr
def HF (p:fv):B8 p=true↔Cd p:=by unfold B8 Cd;simp only[X27,Xe,Addr.rb,Xdn]
def CP (p:fv):Ae p=some (B8 p):=by obtain⟨b,F,H⟩:=Fg p;rw[F];congr 1;rw[X28,H,HF]
def Ot (p:fv):Do p=some (B8 p):=by
 have K:BO p.Addr=some (p.Addr.w:Int):=by unfold BO Addr.w;split<;>rfl
 unfold Do B8;rw[AB,IL,AA,K];simp only[AA,Xcr];cases p.Addr.ok
 ·simp
 by_cases F:0<=p.rL
 ·by_cases M:p.rL<=p.Addr.w
  ·obtain⟨k,H⟩ :∃k:Nat,p.rL=k:=⟨p.rL.toNat,by omega⟩;have J:=JO p.Addr (n:=k) (by omega);rw[<- H] at J;rw[J,H];simp only[AA,Xa7,ge_iff_le];rw[Xy True.intro,Xy (by simp),Xy (by simp;omega)];have P:decide ((0:Int)<=(k:Int))=true:=by simp
   have Q:decide ((k:Int)<=(p.Addr.w:Int))=true:=by simp;omega
   rw[P,Q];simp
  simp[F,M]
 simp[F]
def U0 (o:oB):I:=B8 o.fv&&decide (o.fv.rL<=o.Max)&&decide (o.Max<=o.fv.Addr.w)&&Bt o.r4
def Jd (o:oB):Ba o=some (U0 o):=by
 unfold Ba U0;rw[HK,AB,CP,AA];have F:(if o.fv.Addr.V6=true then (128:Int) else 32)=o.fv.Addr.w:=by unfold Addr.w;split<;>rfl
 rw[F];unfold Bt;simp only[Xcr,ge_iff_le];cases B8 o.fv<;>cases decide (o.fv.rL<=o.Max)<;>cases decide (o.Max<=(o.fv.Addr.w:Int))<;>cases decide (1<=o.r4)<;>cases decide (o.r4<=4294967295)<;>rfl
def L0:O T->O Set->I
 | _,[]=>true
 | seen,x::t=>!decide (x.Name∈seen)&&tQ x&&L0 (x.Name::seen) t
def QO (r:ry):I:=L0 [] r.oT&&r.n5.all U0&&decide (r.oT.length<=64)&&decide (r.n5.length<=512)
def Seen (m:O (T×I))(seen:O T):Prop:=∀n,(A8 m n).getD false=decide (n∈seen)
def Seen.nil:Seen [] []:=λn=>by simp[A8]
def Seen.put {m:O (T×I)}{seen:O T}(h:Seen m seen)(x:T):Seen (A3 m x true) (x::seen):=by
 intro n;rw[Go.AX.tb];by_cases F:n=x
 ·subst F;simp
 rw[Xj (by simpa using F),h n];simp[F]
def j0 (a b:Nat):AC (τ:=I) (λk=>if (decide ((a:Int)<=64)) then k (cond true (decide ((b:Int)<=512)) false) else k false) (λv=>some v)=some (decide (a<=64)&&decide (b<=512)):=by
 rw[AB];by_cases h:a<=64
 ·rw[Xy (by simp;omega)];simp[h];omega
 rw[Xj (by simp;omega)];simp[h]
def lB {body:(O (T×I)->C I)->Set->Nat->O (T×I)->C I}{K:C I} : ∀{l:O Set} {i:Nat} {m:O (T×I)} {seen:O T},(∀next x i m,x∈l->body next x i m=cond (!((A8 m x.Name).getD false)&&tQ x) (next (A3 m x.Name true)) (some false))->Seen m seen-> AI (λ_=>K) body l i m=cond (L0 seen l) K (some false)
 | [],_,_,_,_,_=>rfl
 | x::t,i,m,seen,F,H=>by
  show body (λs=>AI (λ_=>K) body t (i+1) s) x i m=_;rw[F _ x i m (by simp),H x.Name,L0];cases M:(!decide (x.Name∈seen)&&tQ x)
  ·rfl
  rw[Xc6];exact lB (λnext y j m J=>F next y j m (X19 _ J)) (H.put _)
def HM {r:ry}(h :∀s∈r.oT,OM s):EJ r=some (QO r):=by
 unfold EJ;rw[AB,lB (seen:=[]) (K:=AC _ _) ?_ Seen.nil,AB,Oo (g:=U0) (r0:=some false) ?_,j0]
 ·unfold QO;cases L0 [] r.oT<;>cases r.n5.all U0<;>simp
 ·intro next x i _
  rw[Jd,AA];cases U0 x<;>rfl
 intro next x i m hx
 obtain⟨h1,h2⟩:=h x hx;rw[AB,AB,K2 h1];simp only[AA,Xdg];have Z :∀n:Nat,decide ((n:Int)>64)=!decide (n<=64):=λn=>by rw[X28];simp;omega
 rw[Z,Z];have ha :∀K:Unit->C I,AC (τ:=Unit) (λP=>AI (σ:=Unit) (λ_=>P ()) (λF J a1 _=>AC (τ:=I) (λM=>if (decide (J<1)) then M true else M (decide (J>4294967295)) ) λQ=>if Q then some false else F ()) x.n7 0 ()) K=cond (x.n7.all Bt) (K ()) (some false):=by
  intro K;rw[AB];refine Oo λnext n i _=>?_;rw[HK];unfold Bt;by_cases g1:n<1
  ·have:¬ 1<=n:=by omega
   simp[g1,this]
  by_cases g2:n>4294967295
  ·have:¬ n<=4294967295:=by omega
   simp[g1,g2,this]
  have g3:1<=n:=by omega
  have g4:n<=4294967295:=by omega
  simp[g1,g2,g3,g4]
 have hs :∀K:Unit->C I,AC (τ:=Unit) (λU=>AI (σ:=Unit) (λ_=>U ()) (λH V a6 _=>Xd (E6 V) λY=>if (!Y) then some false else H ()) x.oT 0 ()) K=cond (x.oT.all tj) (K ()) (some false):=by intro K;rw[AB];refine Oo λnext n i hn=>?_;rw[K2 (h2 n hn),AA];cases tj n<;>rfl
 rw[ha,hs];unfold tQ;cases tj x.Name<;>cases (A8 m x.Name).getD false<;>cases decide (x.n7.length<=64)<;>cases decide (x.oT.length<=64)<;>cases x.n7.all Bt<;>cases x.oT.all tj<;>rfl
def WU {α:Type}{b:Nat}{l:O α}{x:α}[Decidable (x∈l)]{p:α->I}{n:Nat}(J:Xdi b 65536=true)(Z:l.length+1<=1000000000)(U:n=(l.takeWhile p).length)(c:I)(Q:c=decide (x∈l)) : (if c=true then some l else Xd (part l 0 (n:Int)) λF=>Xd (gE (α:=α) b [] F) λ_=>Xd (gE (α:=α) b F ([x]:O α)) λK=>Xd (part l (n:Int) (l.length:Int)) λM=>Xd (gE (α:=α) b K M) λP=>some P) =
   some (if x∈l then l else l.takeWhile p++x::l.dropWhile p):=by
 have ht:=CN p l;obtain⟨V,Y⟩:=sD p l;by_cases H:x∈l
 ·rw[Q,Xy (by simpa using H),Xy H]
 rw[Q,Xj (by simpa using H),Xj H,WC (by omega),AA,AD J (by simp;omega),AA,AD J (by simp;omega),AA,P3 (by omega),AA,AD J (by simp;omega),AA,U,V,Y];simp
def NI {α:Type}{lt:α->α->I}(P :∀a b c,lt a b=true->lt b c=true->lt a c=true)(H :∀a,lt a a=false){l:O α}{x:α}(Q:l.Pairwise λa b=>lt a b=true) : x∈l↔l[(l.takeWhile (lt · x)).length]?=some x:=by
 constructor
 ·intro F;rw[<- Xbk (p:=(lt · x)) (l:=l),X23] at F;rcases F with F|F
  ·have:=IJ (lt · x) F;rw[H] at this;simp at this
  have U:=(sD (lt · x) l).2;cases J:l.dropWhile (lt · x) with
  | nil=>rw[J] at F;simp at F
  | cons y t=>
   have V:lt y x=false:=by have:=List.head?_dropWhile_not (lt · x) l;rw[J] at this;simpa using this
   have hp:(y::t).Pairwise λa b=>lt a b=true:=by rw[<- J];exact Q.sublist (List.dropWhile_sublist _)
   rw[J] at F;have K:x=y:=by
    rcases Wp.1 F with e|e
    ·exact e
    have:=(Wu.1 hp).1 x e;rw[V] at this;simp at this
   have M:(l.drop (l.takeWhile (lt · x)).length)[0]?=some x:=by rw[U,J,K];rfl
   rw[List.getElem?_drop] at M;simpa using M
 intro h;exact Xay h
def On {l:O Int}{n:Int}(M:l.Pairwise λa b=>tF a b=true)(P:l.length+1<=1000000000):Dx l n=some (if n∈l then l else KJ tF l n):=by
 have J:=CN (tF · n) l;unfold Dx;rw[jz (p:=(tF · n)) (λx Q=>Q (cond true (decide (x<n)) false)) (by omega) (λx _ k=>rfl),AB];have K:=NI eP Yw (x:=n) M;have F:=WU (b:=8) (l:=l) (x:=n) (p:=(tF · n)) (by decide) P rfl;by_cases H:(l.takeWhile (tF · n)).length<l.length
 ·rw[Xy (by simpa using H),As H,AA];refine F _ ?_;rw[X28,Xe,K,X15 H];simp
 rw[Xj (by simpa using H)];refine F _ ?_;rw[X28,Xe,K,List.getElem?_eq_none (by omega)];simp
def um (a b:T):I:=Op.bytesLess a.toList b.toList
def O2 (a b:T):um a b=true↔a.toList<b.toList:=by unfold um;rw[Go.Proofs.bytesLess_eq];simp
def lW {a b:T}(h:a.toList=b.toList):a=b:=by have:=lz a b;rw[h] at this;simpa using this.symm
def fD (a b c:T)(F:um a b=true)(H:um b c=true):um a c=true:=by rw[O2] at *;exact List.lt_trans F H
def jW (a:T):um a a=false:=by
 cases h:um a a
 ·rfl
 rw[O2] at h;exact absurd h (List.lt_irrefl _)
def j7 (a b:T)(h:um a b=false):a=b\/um b a=true:=by
 have H:¬ a.toList<b.toList:=λq=>by rw[<- O2] at q;rw[h] at q;simp at q
 rw[O2];have J:b.toList<=a.toList:=List.not_lt.1 H;rcases List.le_iff_lt_or_eq.1 J with F|F
 ·exact .inr F
 exact .inl (lW F.symm)
def Kq {l:O T}{n:T}(M:l.Pairwise λa b=>um a b=true)(P:l.length+1<=1000000000):Br l n=some (if n∈l then l else KJ um l n):=by
 have J:=CN (um · n) l;unfold Br;rw[jz (p:=(um · n)) (λx Q=>Q (cond true (Op.bytesLess x.toList n.toList) false)) (by omega) (λx _ k=>rfl),AB];have K:=NI fD jW (x:=n) M;have F:=WU (b:=16) (l:=l) (x:=n) (p:=(um · n)) (by decide) P rfl;by_cases H:(l.takeWhile (um · n)).length<l.length
 ·rw[Xy (by simpa using H),As H,AA];refine F _ ?_;rw[X28,Xe,K,X15 H];simp only[Xcr,lz,Xe,X24]
 rw[Xj (by simpa using H)];refine F _ ?_;rw[X28,Xe,K,List.getElem?_eq_none (by omega)];simp
def FQ (L:O Set)(n:T):C Set:=L.find? λs=>decide (s.Name=n)
def Rw:Set:=⟨Xaj,[],[]⟩
def Kz (r:ry)(n:T):E4 r n=some ((FQ r.oT n).getD Rw,(FQ r.oT n).isSome):=by
 unfold E4 FQ;rw[AB];have key :∀(l:O Set) (i:Nat),AI (λ_=>some ((⟨Xaj,[],[]⟩:Set),false)) (λF H K _=>if (H.Name.toList==n.toList) then some (H,true) else F ()) l i ()=some ((l.find? λs=>decide (s.Name=n)).getD Rw,(l.find? λs=>decide (s.Name=n)).isSome):=by
  intro l;induction l with
  | nil=>intro i;rfl
  | cons x t J=>intro i;show (if (x.Name.toList==n.toList)=true then some (x,true) else AI _ _ t (i+1) ())=_;rw[J,lz,List.find?_cons];by_cases h:x.Name=n<;>simp[h]
 exact key r.oT 0
def GY {L:O Set}{n:T}{s:Set}(h:FQ L n=some s):s∈L/\s.Name=n:=by unfold FQ at h;exact⟨List.mem_of_find?_eq_some h,by simpa using List.find?_some h⟩
def Pg {L:O Set}{n:T}(h:FQ L n=none) :∀s∈L,s.Name≠n:=by unfold FQ at h;intro s F;simpa using List.find?_eq_none.1 h s F
def wc (L:O Set):Prop:=(L.map (·.Name)).Nodup
def wc.eq {L:O Set}(h:wc L){s t:Set}(J:s∈L)(M:t∈L)(e:s.Name=t.Name):s=t:=by
 induction L with
 | nil=>simp at J
 | cons x L P=>
  unfold wc at h;obtain⟨K,Q⟩:=List.nodup_cons.1 h;rcases Wp.1 J with rfl|F<;>rcases Wp.1 M with rfl|H
  ·rfl
  ·exact absurd (Xa0.2 ⟨t,H,e.symm⟩) K
  ·exact absurd (Xa0.2 ⟨s,F,e⟩) K
  exact P Q F H
def wc.find {L:O Set}(h:wc L){s:Set}(F:s∈L):FQ L s.Name=some s:=by
 cases H:FQ L s.Name with
 | none=>exact absurd rfl (Pg H s F)
 | some t=>obtain⟨J,K⟩:=GY H;rw[h.eq J F K]
inductive RN (L:List Set)(n:ByteArray):ByteArray->Prop
 | base:RN L n n
 | step {s:Set} {y:ByteArray} (hs:s∈L) (h:RN L n s.Name) (hy:y∈s.oT):RN L n y
structure xq (L:List Set)(n:ByteArray)(la:List Int)(ms:List ByteArray):Prop where
 pa:la.Pairwise λa b=>tF a b=true
 am :∀a,a∈la ↔∃s∈L,RN L n s.Name/\a∈s.n7
 pm:ms.Pairwise λa b=>um a b=true
 mm :∀x,x∈ms↔RN L n x/\∀s∈L,s.Name≠x
structure Mod (L:List Set):Prop where
 n:L.length<=64
 u:wc L
 a :∀s∈L,s.n7.length<=64
 s :∀s∈L,s.oT.length<=64
def dV (L:O Set)(n:T):O T:=n::L.flatMap (·.oT)
def dy {L:O Set}(h:Mod L)(n:T):(dV L n).length<=4097:=by
 have key :∀(l:O Set),(∀s∈l,s.oT.length<=64)->(l.flatMap (·.oT)).length<=64*l.length:=by
  intro l;induction l with
  | nil=>intro _;simp
  | cons x t H=>intro F;have:=H λs J=>F s (X19 _ J);have:=F x (by simp);simp only[Xac,X11,X12];omega
 have K:=key L h.s;have M:=h.n;unfold dV;simp only[X12];omega
def dj {L:O Set}{n x:T}(h:RN L n x):x∈dV L n:=by
 cases h with
 | base=>unfold dV;simp
 | step F _ H=>unfold dV;exact X19 _ (Xc5.2 ⟨_,F,H⟩)
end Go.AX.Q29
end
