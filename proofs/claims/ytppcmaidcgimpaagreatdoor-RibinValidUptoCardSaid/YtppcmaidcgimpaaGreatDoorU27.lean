/-
  Texts of one proof, packed.
-/
import Derived.Test.YtppcmaidcgimpaaGreatDoorU26
import Derived.KernelRfl
set_option linter.all false
set_option maxRecDepth 100000
set_option maxHeartbeats 4000000
open List renaming length_map→X10,length_append→X11,length_cons→X12,length_nil→X13,mem_singleton→X14,getElem?_eq_getElem→X15,getElem?_eq_some_iff→X16,length_drop→X17,length_take→X18,mem_cons_of_mem→X19,length_replicate→X20,length_set→X21,mem_append→X23
open Option.some renaming inj→X25
open Bool renaming and_eq_true→X27
open Option renaming bind→Wb
open Int renaming toNat→Wo
open List renaming take→Xbx,drop→Xc2
open Go renaming maxLen→Xb3
open ByteArray renaming empty→Xac
section
namespace Go.AX.Q25
open Go Go.AX Go.AX.xP
def nB {α H:Type}{key:α->H}{cmp:H->H->Int}(lo:LO cmp) :∀{l:I α},(∀j x y,l[j]?=some x->l[j+1]?=some y->cmp (key x) (key y)<0)->wI key cmp l
 | [],_=>List.Pairwise.nil
 | a::t,h=>by
  have J:wI key cmp t:=nB lo λj x y M P=>h (j+1) x y M P;refine Xb4.2 ⟨λb F=>?_,J⟩;cases t with
  | nil=>cases F
  | cons c s=>
   have K:=h 0 a c rfl rfl;rcases Xa3.1 F with e|F
   ·rw[e];exact K
   exact lo.trans K ((Xb4.1 J).1 b F)
structure VR (b:ls):Prop where
 peer:Le b.lf=true
 len:b.gD.length<=256
 u0:0<=b.oX
 u1:b.oX<=1073745919
 st:(b.oX !=0)=xT b.gD
 wI:wI kH BU b.gD
 ok :∀x∈b.gD,CU x.oA.fI=true/\Cu b x=true
 f4:Pj b=true
 f6:PT b=true
def VR.of {b:ls}(h:C9 b=true):VR b:=by
 unfold C9 at h;simp only[X27,Wd,Xbr,Xbj] at h;obtain⟨M,h2,P,Q,U,H,V,Y⟩:=h;rw[MV] at H;have J :∀j x,b.gD[j]?=some x->CU x.oA.fI=true/\(0<j->BU (kH (b.gD.getD (j-1) x)) (kH x)<0)/\Cu b x=true:=by intro j x F;have:=H j x F;rw[Xbk] at this;unfold VG at this;simp only[Bool.or_eq_false_iff,Bool.not_eq_false',Bool.and_eq_false_imp,Wd,Xb0] at this;refine⟨this.1,λK=>?_,this.2.2⟩;have:=this.2.1 (by omega);omega
 refine⟨M,by omega,P,Q,U,nB BQ λj x y F Z=>?_,λx F=>?_,V,Y⟩
 ·have:=(J (j+1) y Z).2.1 (by omega);rw[Nat.add_sub_cancel,Xa6,F] at this;exact this
 obtain⟨j,K,e⟩:=List.mem_iff_getElem.1 F;have:=J j x (by rw[X15 K,e]);exact⟨this.1,this.2.2⟩
def VR.to {b:ls}(h:VR b):C9 b=true:=by unfold C9;simp only[X27,Wd,Xbr,Xbj];refine⟨h.peer,by have:=h.len;omega,h.u0,h.u1,h.st,?_,h.f4,h.f6⟩;rw[MV];intro j x F;rw[Xbk];have H:=Xcb F;unfold VG;simp only[Bool.or_eq_false_iff,Bool.not_eq_false',Bool.and_eq_false_imp,Wd,Xb0];refine⟨(h.ok x H).1,λK=>?_,(h.ok x H).2⟩;have J:=(X16.1 F).1;rw[Xa6,X15 (by omega)];have:=(Xcy.1 h.wI) (j-1) j (by omega) J (by omega);rw[(X16.1 F).2] at this;show ¬ BU (kH b.gD[j-1]) (kH x)≥0;omega
def Ht (l:I gD)(p:fI):I gD:=l.filter λh=>!(fI.wa h.oA.fI p)
def ID (l:I gD)(h:gD):I gD:=(l.filter λx=>decide (BU (kH x) (kH h)<0))++h::l.filter λx=>decide (0<BU (kH x) (kH h))
def lr (p:fI)(y:gD):(!(fI.wa y.oA.fI p))=true↔kH y≠p:=by rw[Xbj,<- Bool.not_eq_true,fI.vR];rfl
def U4 {F H:I gD}{x:gD}{p:fI}(h:At kH BU p F H)(e:kH x=p):Ht (F++x::H) p=F++H:=dm BQ h e (lr p)
def XD {F H:I gD}{p:fI}(h:At kH BU p F H):Ht (F++H) p=F++H:=gh BQ h (lr p)
def NN {H J:I gD}{h:gD}(K:At kH BU (kH h) H J):ID (H++J) h=H++h::J:=by
 unfold ID;rw[Xbt,Xbt];have M:H.filter (λx=>decide (BU (kH x) (kH h)<0))=H:=Xd1.2 λ(y:gD) F=>Wz (K.1 y F);have P:J.filter (λx=>decide (BU (kH x) (kH h)<0))=[]:=Xdj.2 λy F=>by have:=K.2 y F;simp;omega
 have Q:H.filter (λx=>decide (0<BU (kH x) (kH h)))=[]:=Xdj.2 λy F=>by have:=K.1 y F;simp;omega
 have U:J.filter (λx=>decide (0<BU (kH x) (kH h)))=J:=Xd1.2 λ(y:gD) F=>Wz (K.2 y F);rw[M,P,Q,U,Xaj,Xay]
def Lj {F H:I gD}{x h:gD}(K:At kH BU (kH h) F H)(e:kH x=kH h):ID (F++x::H) h=F++h::H:=by have J:BU (kH x) (kH h)=0:=BQ.eq.2 e;unfold ID;rw[Xbt,Xbt,Xdc (by rw[J];simp),Xdc (by rw[J];simp),<- Xbt,<- Xbt];exact NN K
def XJ {l:I gD}{p:fI}(h:wI kH BU l):wI kH BU (Ht l p):=PV h
def SH (l:I gD)(p:fI):(Ht l p).length<=l.length:=List.length_filter_le _ _
def VI {l:I gD}{h:gD}(H:wI kH BU l):wI kH BU (ID l h):=by
 rcases split BQ H (kH h) with ⟨J,x,K,rfl,e,F⟩|⟨J,K,rfl,F⟩
 ·rw[Lj F e];exact F.zq BQ rfl (mJ H)
 rw[NN F];exact F.zq BQ rfl H
def RY {l:I gD}{h:gD}(H:wI kH BU l):(ID l h).length<=l.length+1:=by
 rcases split BQ H (kH h) with ⟨J,x,K,rfl,e,F⟩|⟨J,K,rfl,F⟩
 ·rw[Lj F e];simp
 rw[NN F];simp;omega
def kT {l:I gD}{h x:gD}(F:x∈ID l h):x=h\/x∈l:=by
 unfold ID at F;rw[X23,Xa3] at F;rcases F with F|F|F
 ·exact .inr (Xbl.1 F).1
 ·exact .inl F
 exact .inr (Xbl.1 F).1
def gi {l:I gD}{p:fI}{x:gD}(F:x∈Ht l p):x∈l:=(Xbl.1 F).1
def oo {ρ:Type}{l:I gD}{p:fI}(V:wI kH BU l)(Y:l.length<=1000000)(K:I gD->O ρ) : (Wb (Ci l p) λ(v12,M)=>AB (τ:=(I gD)) (λH=>if M then Wb (dU l v12 (AO (v12+1))) λP=>H P else H l) λQ=>K Q)=K (Ht l p):=by
 rcases split BQ V p with ⟨F,x,U,rfl,e,J⟩|⟨F,U,rfl,J⟩
 ·have Z:F.length<=1000000:=by simp at Y;omega
  rw[Ru J e (by omega),AA,U4 J e];dsimp only;rw[AC,Wr rfl,AG (by omega)];have:dU (F++x::U) (F.length:Int) ((F.length:Int)+1)=some (F++U):=by unfold dU;rw[Wr ⟨by omega,by simp;omega,rfl⟩];simp
  rw[this,AA]
 rw[U2 J (by omega),AA,XD J];dsimp only;rw[AC,Wm (by simp)]
def Vn {l:I gD}{p:fI}(Q:l.length<=1000000):EV l p=some (Ht l p):=by
 unfold EV;have go :∀(t:I gD) (i:Nat) (F:I gD),F.length+t.length<=1000000->AI (σ:=I gD) (λv2=>(λU=>some U) v2) (λH (J:gD) i5 v2=>AB (τ:=(I gD)) (λK=>if (!(fI.wa J.oA.fI p)) then Wb (gN (α:=gD) 208 v2 ([J]:I gD)) λV=>K V else K v2) λY=>H Y) t i F=some (F++Ht t p):=by
  intro t;induction t with
  | nil=>intro i F _;rw[U9];simp[Ht]
  | cons x t M=>
   intro i F h;simp only[X12] at h;rw[Cb,AC];cases P:fI.wa x.oA.fI p
   ·rw[Wr (by rfl),AD (by decide) (by simp;omega),AA];refine (M _ _ (by simp;omega)).trans ?_;simp[Ht,P]
   rw[Wm (by simp)];refine (M _ _ (by omega)).trans ?_;simp[Ht,P]
 exact (go l 0 [] (by simpa using Q)).trans (by simp)
def pX {ρ:Type}{l:I gD}{h:gD}{p:fI}(hp:kH h=p)(V:wI kH BU l)(Z:l.length<=1000000)(K:I gD->O ρ) : (Wb (Ci l p) λ(v25,v26)=>AB (τ:=(I gD)) (λH=>if v26 then Wb (mu l v25) λY=>Wb (wj l v25 h) λP=>H P else Wb (bH (α:=gD) 208 l v25 h) λQ=>H Q) λU=>K U)=K (ID l h):=by
 subst hp;rcases split BQ V (kH h) with ⟨F,x,J,rfl,e,M⟩|⟨F,J,rfl,M⟩
 ·rw[Ru M e (by omega),AA,Lj M e];dsimp only;rw[AC,Wr rfl,JY,AA];have:wj (F++x::J) (F.length:Int) h=some (F++h::J):=by unfold wj;rw[Wr (by simp;omega)];simp
  rw[this,AA]
 rw[U2 M (by omega),AA,NN M];dsimp only;rw[AC,Wm (by simp)];have:bH (α:=gD) 208 (F++J) (F.length:Int) h=some (F++h::J):=by unfold bH;rw[Wr ⟨by omega,by simp;omega,by omega,by omega⟩];simp
 rw[this,AA]
def nK {p:Prop}[Decidable p]{ρ:Type}(h:p){K:Unit->O ρ}:(Wb (wQ p) λx=>K x)=K ():=by unfold wQ;rw[Wr h,AA]
def bD {ρ:Type}{F M:I gD}{p:fI}(ha:At kH BU p F M)(hl:(F++M).length<=1000000)(K:Int->O ρ) : AB (τ:=Int) (λQ=>BD (σ:=Int) (λH J=>AB (τ:=C) (λP=>if (decide (J<((F++M).length:Int))) then Wb (mu (F++M) J) λU=>Wb (EC U.oA.fI p) λV=>P (cond true (decide (V<0)) false) else P false) λY=>if Y then H (AO (J+1)) else Q J) tE 0) K=K (F.length:Int):=by
 rw[AC];have a1:(F++M).length=F.length+M.length:=by simp
 refine Dq (λv:Int=>0<=v/\v<=F.length) (λv=>(F.length-v).toNat) (λ_=>K (F.length:Int)) ?_ tE 0 ⟨by omega,by omega⟩ (BW (by omega));intro next v hv ih
 obtain⟨v,rfl⟩ :∃n:Nat,v=(n:Int):=⟨v.toNat,by omega⟩;rw[AC];by_cases h:v<F.length
 ·rw[Wr (by simp;omega),BY (by omega),AA,I2,AA];have:(F++M)[v]'(by omega)=F[v]:=Xax h;have Z:=ha.1 _ (Xae h);rw[this,show decide (BU F[v].oA.fI p<0)=true from Wz Z];show (if true=true then _ else _)=_;rw[Wr rfl,AG (by omega)];exact ih _ ⟨by omega,by omega⟩ (by omega)
 have e:v=F.length:=by omega
 subst e;cases M with
 | nil=>rw[Wm (by simp)];show (if false=true then _ else _)=_;rw[Wm (by simp)]
 | cons y t=>rw[Wr (by simp;omega),JY,AA,I2,AA];have Z:=ha.2 y (by simp);rw[show decide (BU y.oA.fI p<0)=false from Xa5 (by have:0<BU y.oA.fI p:=Z;omega)];show (if false=true then _ else _)=_;rw[Wm (by simp)]
def qL {ρ:Type}{l:I gD}{h:gD}{p:fI}(hp:kH h=p)(hs:wI kH BU l)(hl:l.length<=100000)(K:I gD->O ρ) : (Wb (EV l p) λF=>AB (τ:=Int) (λZ=>BD (σ:=Int) (λP Q=>AB (τ:=C) (λV=>if (decide (Q<(F.length:Int))) then Wb (mu F Q) λa1=>Wb (EC a1.oA.fI p) λa6=>V (cond true (decide (a6<0)) false) else V false ) λa7=>if a7 then P (AO (Q+1)) else Z Q ) tE 0 ) λH=>Wb (wQ (0<=H/\H<=(F.length:Int)/\(F.length:Int)<=(F.length:Int))) λ_=>Wb (gN (α:=gD) 208 [] (Xbx (Wo (F.length:Int)-Wo H) (Xc2 (Wo H) F))) λ_=>Wb (wQ (H<=H/\H<=(F.length:Int))) λ_=>Wb (part F 0 H) λa8=>Wb (gN (α:=gD) 208 a8 ([h]:I gD)) λaa=>Wb (gN (α:=gD) 208 aa (Xbx (Wo (F.length:Int)-Wo H) (Xc2 (Wo H) F))) λab=>K ab)=K (ID l h):=by
 subst hp;rw[Vn (by omega),AA];obtain⟨J,M,hw,hi,U,ae⟩ :∃J M,Ht l (kH h)=J++M/\ID l h=J++h::M/\At kH BU (kH h) J M/\(J++M).length<=100000:=by
  rcases split BQ hs (kH h) with ⟨J,x,M,rfl,e,U⟩|⟨J,M,rfl,U⟩
  ·exact⟨J,M,U4 U e,Lj U e,U,by simp at hl⊢;omega⟩
  exact⟨J,M,XD U,NN U,U,hl⟩
 rw[hw,hi,bD U (by omega)];have Y:(J++M).length=J.length+M.length:=by simp
 have ht:Xbx (Wo ((J++M).length:Int)-Wo (J.length:Int)) (Xc2 (Wo (J.length:Int)) (J++M))=M:=by rw[Xaa,Xaa,List.drop_left,Y,Nat.add_sub_cancel_left,Xcj]
 have hp:part (J++M) 0 (J.length:Int)=some J:=by have:=Ls (l:=J++M) (a:=0) (b:=J.length) (by omega) (by omega);simpa using this
 rw[nK ⟨by omega,by omega,by omega⟩,ht,AD (by decide) (by simp;omega),AA,nK ⟨by omega,by omega⟩,hp,AA,AD (by decide) (by simp;omega),AA,AD (by decide) (by simp;omega),AA];simp
def xY (f:vV)(b:ls)(u:tT)(p:fI):gD:=⟨⟨p,b.lf.tS,u.gE⟩,zu f b.lf ⟨p,b.lf.tS,u.gE⟩,false⟩
def Cz (b:ls)(u:tT):I gD:=u.gS.foldl Ht b.gD
def EZ (f:vV)(b:ls)(u:tT):I gD:=u.fT.foldl (λl p=>ID l (xY f b u p)) (Cz b u)
def F5 (b:ls):ls:={ b with oX:=cond (xT b.gD) b.oX 0 }
def zR:ls:=⟨⟨0,Xac,0,0,[]⟩,false,[],0⟩
def CY (f:vV)(b:ls)(u:tT):ls:={ b with gD:=EZ f b u }
def D3 (f:vV)(b:ls)(u:tT):ls×Int:=
 if (Rf f&&(C9 b&&Em u))=true then
  if b.Up=true then
   if (Pj (CY f b u)&&(PT (CY f b u)&&decide (((CY f b u).gD.length:Int)<=256)))=true then (F5 (CY f b u),0) else (zR,34)
  else (zR,31)
 else (zR,1)
def Qf {b:ls}{u:tT}(H:wI kH BU b.gD):wI kH BU (Cz b u)/\(Cz b u).length<=b.gD.length/\∀x∈Cz b u,x∈b.gD:=by
 unfold Cz;have go :∀(t:I fI) (l:I gD),wI kH BU l->wI kH BU (t.foldl Ht l)/\(t.foldl Ht l).length<=l.length/\∀x∈t.foldl Ht l,x∈l:=by
  intro t;induction t with
  | nil=>intro l h;exact⟨h,Xam _,λx F=>F⟩
  | cons p t J=>intro l h;obtain⟨K,M,P⟩:=J (Ht l p) (XJ h);exact⟨K,Xb1 M (SH l p),λx F=>gi (P x F)⟩
 exact go _ _ H
def QC {l0:I gD}(g:fI->gD)(F:wI kH BU l0)(t:I fI):wI kH BU (t.foldl (λl p=>ID l (g p)) l0)/\(t.foldl (λl p=>ID l (g p)) l0).length<=l0.length+t.length/\∀x∈t.foldl (λl p=>ID l (g p)) l0,x∈l0 \/∃p∈t,x=g p:=by
 induction t generalizing l0 with
 | nil=>exact⟨F,Xam _,λx H=>.inl H⟩
 | cons p t J=>
  obtain⟨K,Q,M⟩:=J (l0:=ID l0 (g p)) (VI F);have:=RY (h:=g p) F;refine⟨K,by simp only[Xbh,X12];omega,λx H=>?_⟩;rcases M x H with h|⟨q,P,e⟩
  ·rcases kT h with e|h
   ·exact .inr ⟨p,by simp,e⟩
   exact .inl h
  exact .inr ⟨q,by simp[P],e⟩
end Go.AX.Q25
end
section
namespace Go.AX.Q25
open Go Go.AX Go.AX.xP
structure yU (u:tT):Prop where
 a:xH u.gE
 w:u.gS.length<=1000
 n:u.fT.length<=1000
def Uo {u:tT}(h:Em u=true):u.gS.length<=256/\u.fT.length<=256:=by unfold Em at h;simp only[X27,Wd] at h;exact⟨h.1,h.2.1⟩
def Dd {α σ ρ:Type}{l:List α}{st:σ->α->σ}{I:σ->Prop}{body:(σ->O ρ)->α->Nat->σ->O ρ}{K:σ->O ρ} (H :∀next i x s,x∈l->I s->body next x i s=next (st s x)) (J :∀s x,x∈l->I s->I (st s x)) :∀(i:Nat) (s:σ),I s->AI K body l i s=K (l.foldl st s):=by
 induction l with
 | nil=>intro i s _;rfl
 | cons x t P=>intro i s M;rw[Cb,H _ _ _ _ (by simp) M];exact P (λnext i y s F=>H next i y s (X19 _ F)) (λs y F=>J s y (X19 _ F)) (i+1) _ (J s x (by simp) M)
def NO (l:I gD):n0 l+n1 l=l.length:=by
 induction l with
 | nil=>rfl
 | cons x t F=>
  cases h:x.oA.fI.Addr.V6
  ·rw[(Oe h).1,(Oe h).2,X12];omega
  rw[(SJ h).1,(SJ h).2,X12];omega
variable {f:vV} {b:ls} {u:tT}
def Qp (Q:Co f)(U:yH b)(hp:b.lf.Set.size<=Xb3)(P:yU u):Dm f b u=some (D3 f b u):=by
 unfold Dm D3;rw[AC,UB Q.s,AA];cases h1:Rf f
 ·rw[Wr (by rfl)];rfl
 rw[Wm (by simp),OM U,AA];cases Z:C9 b
 ·rw[Wr (by rfl)];rfl
 rw[Wm (by simp),Yd P.a,AA];cases h3:Em u
 ·rfl
 show (if (false=true) then _ else _)=_;rw[Wm (by simp),Xce,Xce,Wr rfl];cases h4:b.Up
 ·rw[Wr (by rfl),Wm (by simp)];rfl
 rw[Wm (by simp),Wr rfl,KN U.zh,AA,AC];have V:=VR.of Z;have hl:=V.len;have Y:=Uo h3;rw[Dd (st:=Ht) (I:=λl=>wI kH BU l/\l.length<=256) (λnext i x s _ F=>oo F.1 (by omega) next) (λs x _ F=>⟨XJ F.1,Xb1 (SH s x) F.2⟩) 0 b.gD ⟨V.wI,hl⟩];show AB _ _=_;rw[AC];obtain⟨M,a1,a6⟩:=Qf (u:=u) V.wI;have hh:=QC (xY f b u) M u.fT;have sa:=P.a.Gb;have H:=λ(K:List gD->O (ls×Int)) (body:(List gD->O (ls×Int))->fI->Nat->List gD->O (ls×Int)) (J :∀next x j s n,x∈u.fT->wI kH BU s/\s.length+(n+1)<=1000->body next x j s=next (ID s (xY f b u x)))=>
  VO (K:=K) (body:=body) (λl p=>ID l (xY f b u p)) (λn l=>wI kH BU l/\l.length+n<=1000) (λn s x F=>⟨VI F.1,by have:=RY (h:=xY f b u x) F.1;omega⟩) u.fT 0 (Cz b u) J ⟨M,by omega⟩
 refine (H _ _ λnext x j s n _ F=>?_).trans ?_;rotate_left
 ·show Wb (G2 (CY f b u)) _=_;have ho:(CY f b u).gD.length<=512:=by show (EZ f b u).length<=512;unfold EZ;omega
  rw[fp (by omega),AA];cases h5:(Pj (CY f b u)&&(PT (CY f b u)&&decide (((CY f b u).gD.length:Int)<=256)))
  ·rw[Wr (by rfl),Wm (by simp)];rfl
  rw[Wm (by simp),Wr rfl];show Wb (CB (CY f b u)) _=_;rw[MO,AA];rfl
 rw[Z2 sa,AA,j4 Q hp P.a,AA];exact pX (h:=xY f b u x) rfl F.1 (by omega) next
def NT (Y:Co f)(Z:yH b)(hp:b.lf.Set.size<=Xb3)(M:yU u):HZ f b u=some (D3 f b u):=by
 unfold HZ D3;rw[AC,VF Y.s,AA];cases h1:Rf f
 ·rw[Wr (by rfl)];rfl
 rw[Wm (by simp),Jz Z,AA];cases h2:C9 b
 ·rw[Wr (by rfl)];rfl
 rw[Wm (by simp),S7 M.a M.w M.n Ur,AA];cases h3:Em u
 ·rfl
 show (if (false=true) then _ else _)=_;rw[Wm (by simp),Xce,Xce,Wr rfl];cases h4:b.Up
 ·rw[Wr (by rfl),Wm (by simp)];rfl
 rw[Wm (by simp),Wr rfl,J2 Z.zh,AA,AC];have V:=VR.of h2;have hl:=V.len;have a1:=Uo h3;rw[Dd (st:=Ht) (I:=λl=>l.length<=256) (λnext i x s _ F=>by rw[Vn (by omega),AA]) (λs x _ F=>Xb1 (SH s x) F) 0 b.gD hl];show AB _ _=_;rw[AC];obtain⟨P,a6,a7⟩:=Qf (u:=u) V.wI;have hh:=QC (xY f b u) P u.fT;have sa:=M.a.Gb;have H:=λ(K:List gD->O (ls×Int)) (body:(List gD->O (ls×Int))->fI->Nat->List gD->O (ls×Int)) (J :∀next x j s n,x∈u.fT->wI kH BU s/\s.length+(n+1)<=1000->body next x j s=next (ID s (xY f b u x)))=>
  VO (K:=K) (body:=body) (λl p=>ID l (xY f b u p)) (λn l=>wI kH BU l/\l.length+n<=1000) (λn s x F=>⟨VI F.1,by have:=RY (h:=xY f b u x) F.1;omega⟩) u.fT 0 (Cz b u) J ⟨P,by omega⟩
 refine (H _ _ λnext x j s n _ F=>?_).trans ?_;rotate_left
 ·show Wb (F7 (CY f b u)) _=_;have ho:(CY f b u).gD.length<=512:=by show (EZ f b u).length<=512;unfold EZ;omega
  have hn:=NO (CY f b u).gD;rw[aF (by omega),AA];dsimp only;rw[AC,AG (by omega)];have e1:decide ((n0 (CY f b u).gD:Int)>b.lf.tb)=!Pj (CY f b u):=Jv;have e2:decide ((n1 (CY f b u).gD:Int)>b.lf.tv)=!PT (CY f b u):=Jv;have e3:decide ((n0 (CY f b u).gD:Int)+(n1 (CY f b u).gD:Int)>256)=!decide (((CY f b u).gD.length:Int)<=256):=by rw[Jv,show (n0 (CY f b u).gD:Int)+(n1 (CY f b u).gD:Int)=((CY f b u).gD.length:Int) by omega]
  rw[e1,e2,e3];have Q:(Wb (CQ (CY f b u)) λU=>some (U,(0:Int)))=some (F5 (CY f b u),0):=by rw[OY,AA];rfl
  cases h5:Pj (CY f b u)<;>cases h6:PT (CY f b u)<;>cases h7:decide (((CY f b u).gD.length:Int)<=256);all_goals first
   | rfl
   | exact Q
 rw[AC,eG sa,AA,TM Y hp M.a,AA];exact qL (h:=xY f b u x) rfl F.1 (by omega) next
end Go.AX.Q25
end
section
namespace Go.AX.Q25
open Go Go.AX Go.AX.xP
def Jl {α ρ:Type}{l:I α}{body:(Unit->O ρ)->α->Nat->Unit->O ρ}{K:Unit->O ρ}(F :∀next i x,l[i]?=some x->body next x i ()=next ()):AI K body l 0 ()=K ():=by
 rw[fR (bad:=λ_ _=>false) (st:=λ_ _=>()) (r:=none) (λnext i x s H=>by cases s;exact F next i x H)];have :∀(l:I α) (i:Nat),Qv (λ_ _=>false) l i=false:=by
  intro l;induction l with
  | nil=>intro i;rfl
  | cons x t J=>intro i;unfold Qv;rw[J];rfl
 rw[this,Wm (by simp)]
def Addr.za (a:Addr):Addr.wa a a=true:=(Addr.vR a a).2 rfl
def IU {α:Type}{l:I α}{i:Nat}{x:α}(h:l[i]?=some x):mu l (i:Int)=some x:=by obtain⟨F,H⟩:=X16.1 h;rw[BY F,H]
def OF (a:gE):DN a a=some true:=by
 unfold DN;simp only[Xd5,Xds,Xe7,Addr.za,Bool.not_true,Xcn,AC]
 rw[Jl (l:=a.Path) λnext i x F=>by
  rw[IU F,AA,AA,Zv]
  simp]
 rw[Jl (l:=a.cW) λnext i x F=>by
  rw[IU F,AA,show qv.wa x x=true by unfold qv.wa;simp];rfl]
 rw[Jl (l:=a.oB) λnext i x F=>by
  rw[IU F,AA,show oB.wa x x=true by unfold oB.wa;simp];rfl]
 rw[Jl (l:=a.iX) λnext i x F=>by
  rw[IU F]
  simp]
def Ef (r:oA):Bd r r=some true:=by unfold Bd;rw[(fI.vR _ _).2 rfl,OF];simp[AC]
def WU (p:lf):GM p p=some true:=by
 unfold GM;simp only[Xd5,Xds,Xe7,Xd0,Bool.not_true,Xcn,AC]
 rw[Jl (l:=p.oT) λnext i x F=>by
  rw[IU F,AA,Addr.za];rfl]
def PH (b:ls):HA b b=some true:=by
 unfold HA;simp only[Xd5,Xds,Xe7,Xd0,Bool.not_true,Xcn,AC,WU,AA]
 rw[Jl (l:=b.gD) λnext i x F=>by
  rw[IU F]
  simp[Ef]]
def Rw {d:r9}{n:Int}(F:Dk d):Ok (Bf d n) λr=>(yU r.1/\(∀p∈r.1.gS,B5 p)/\∀p∈r.1.fT,B5 p)/\Dk r.2:=by
 unfold Bf;rw[Qq,AA];refine .bind (AH F (by omega)) ?_;rintro⟨a,d⟩ ⟨a1,a2,F⟩;dsimp only at a1 a2 F⊢;refine .join (λq:r9×I fI=>Dk q.1/\q.2.length<=10/\∀p∈q.2,B5 p) (λk Z=>?_) ?_
 ·refine .wA (λq:Int×r9×I fI=>0<=q.1/\q.1+q.2.2.length<=3/\Dk q.2.1/\∀p∈q.2.2,B5 p) (λq=>q.1.toNat) ⟨a1,by dsimp only[X13];omega,F,by simp⟩ (BW (by dsimp only;omega)) ?_;rintro next ⟨i,d,l⟩ ⟨i1,i2,F,J⟩ K
  dsimp only at i1 i2 F J K⊢;refine .join (λq:C×r9=>(q.1=true->0<i)/\Dk q.2) (λk2 H=>.ite (λh=>?_) λh=>H _ ⟨λe=>(by cases e),F⟩) ?_
  ·refine .bind (AH F (by omega)) ?_;rintro⟨b,d⟩ ⟨b1,b2,F⟩;exact H _ ⟨λ_=>by simpa using h,F⟩
  rintro⟨b,d⟩ ⟨hb,F⟩;dsimp only at hb F⊢;refine .ite (λh=>?_) λh=>Z _ ⟨F,by dsimp only;omega,J⟩;have hi:=hb h;refine .bind (C0 F) ?_;rintro⟨p,d⟩ ⟨hp,F⟩;dsimp only at hp F⊢;refine .bind (.gN (by decide) (by simp;omega)) λw M=>K _ ⟨?_,?_,F,?_⟩ ?_
  ·dsimp only;rw[AG (by omega)];omega
  ·dsimp only;rw[AG (by omega),M];simp;omega
  ·intro q P;rw[M] at P;rcases X23.1 P with h|h
   ·exact J q h
   rw[X14.1 h];exact hp
  dsimp only;rw[AG (by omega)];omega
 rintro⟨d,wd⟩ ⟨F,w1,w2⟩;dsimp only at F w1 w2⊢;refine .bind (AH F (by omega)) ?_;rintro⟨b,d⟩ ⟨b1,b2,F⟩;dsimp only at F⊢;refine .join (λq:r9×Int×(I oF)×C×j×j×Int×Int×Int×(I qv)×(I oB)×(I gH)×(I fI)=>Dk q.1/\xH ⟨q.2.1,q.2.2.1,⟨q.2.2.2.1,q.2.2.2.2.1,q.2.2.2.2.2.1⟩,q.2.2.2.2.2.2.1,q.2.2.2.2.2.2.2.1,q.2.2.2.2.2.2.2.2.1,q.2.2.2.2.2.2.2.2.2.1,q.2.2.2.2.2.2.2.2.2.2.1,q.2.2.2.2.2.2.2.2.2.2.2.1⟩/\q.2.2.2.2.2.2.2.2.2.2.2.2.length<=10/\∀p∈q.2.2.2.2.2.2.2.2.2.2.2.2,B5 p) (λk Z=>?_) ?_
 ·refine .ite (λh=>?_) λh=>Z _ ⟨F,⟨by simp,by simp[xm],by simp,by simp,by simp,by simp⟩,by simp,by simp⟩;refine .bind (nJ F) ?_;rintro⟨r,d⟩ ⟨⟨Q,U⟩,F⟩;dsimp only at Q U F⊢;refine .bind (AH F (by omega)) ?_;rintro⟨c,d⟩ ⟨c1,c2,F⟩;dsimp only at c1 c2 F⊢;refine .join (λq:r9×I fI=>Dk q.1/\q.2.length<=10/\∀p∈q.2,B5 p) (λk2 H=>?_) ?_
  ·refine .wA (λq:Int×r9×I fI=>0<=q.1/\q.1+q.2.2.length<=4/\Dk q.2.1/\∀p∈q.2.2,B5 p) (λq=>q.1.toNat) ⟨c1,by simp;omega,F,by simpa using Q⟩ (BW (by dsimp only;omega)) ?_;rintro next ⟨i,d,l⟩ ⟨i1,i2,F,J⟩ K
   dsimp only at i1 i2 F J K⊢;refine .ite (λh=>?_) λh=>H _ ⟨F,by dsimp only;omega,J⟩;have hi:0<i:=by simpa using h
   refine .bind (C0 F) ?_;rintro⟨p,d⟩ ⟨hp,F⟩;dsimp only at hp F⊢;refine .join (λl':I fI=>l'.length<=l.length+1/\∀p∈l',B5 p) (λk3 V=>.ite (λh=>?_) λh=>V _ ⟨by omega,J⟩) λl' Y=>K _ ⟨?_,?_,F,Y.2⟩ ?_
   ·refine .bind (.gN (by decide) (by simp;omega)) λw M=>V _ ⟨by rw[M];simp,λq P=>?_⟩;rw[M] at P;rcases X23.1 P with h|h
    ·exact J q h
    rw[X14.1 h];exact hp
   ·dsimp only;rw[AG (by omega)];omega
   ·dsimp only;rw[AG (by omega)];have:=Y.1;omega
   dsimp only;rw[AG (by omega)];omega
  rintro⟨d,an⟩ ⟨F,n1,n2⟩;exact Z _ ⟨F,U.Kd,n1,n2⟩
 rintro⟨d,o,pa,nv,nh,nl,me,pr,ot,co,la,un,an⟩ ⟨F,hs,n1,n2⟩;exact .ret ⟨⟨⟨hs,by dsimp only;omega,by dsimp only at n1⊢;omega⟩,w2,n2⟩,F⟩
def G1:C4=some true:=by kernel_rfl
def Lh (p:lf):Le p=(Bv p.tS&&((decide (0<=p.tb)&&decide (p.tb<=256))&&((decide (0<=p.tv)&&decide (p.tv<=256))&&(decide ((p.oT.length:Int)<=8)&&p.oT.all Addr.ok)))):=by unfold Le;rw[Mc];rfl
def VR.zA {b:ls}(h:VR b):yH b:=by have hp:=h.peer;rw[Lh] at hp;simp only[X27,Wd] at hp;refine⟨by have:=h.len;omega,by omega,λx F=>?_⟩;have:=(h.ok x F).2;unfold Cu at this;simp only[X27] at this;exact (yG.of this.1).Kd
def Va {d:r9}{n:Int}(F:Dk d)(h:101<=n/\n<=105):Ok (F2 d n) λr=>(r.1.tS=n/\r.1.Set.size<=4/\Le r.1=true)/\Dk r.2:=by
 unfold F2;refine .bind (AH F (by omega)) ?_;rintro⟨a,d⟩ ⟨K,M,F⟩;dsimp only at K M F⊢;refine .bind (.mu (by simp;omega)) λnm H=>.bind (AH F (by omega)) ?_;rintro⟨b,d⟩ ⟨b1,b2,F⟩;dsimp only at b1 b2 F⊢;refine .bind (AH F (by omega)) ?_;rintro⟨c,d⟩ ⟨P,Q,F⟩;dsimp only at P Q F⊢;refine .bind (eH h false) λp hp=>.bind (eH h true) λq U=>.ret ⟨⟨rfl,show nm.size<=4 from ?_,?_⟩,F⟩
 ·have J:=H.1;simp only[Xa3,Xbs,Xel] at J;rcases J with rfl|rfl|rfl|rfl|rfl|rfl<;>decide
 rw[Lh];dsimp only;rw[AG (by omega),AG (by omega)];unfold Bv;simp only[X27,Wd,Xc3,List.all_nil,hp,U,X12,X13];refine⟨by omega,by omega,by omega,by omega,trivial,trivial,trivial⟩
def H3 (b:ls):ls×Int:=if C9 b=true then if b.Up=true then (zR,31) else ({ b with Up:=true },0) else (zR,1)
def kZ {b:ls}(h:yH b):HG b=some (H3 b):=by
 unfold HG H3;rw[OM h,AA];cases C9 b
 ·rfl
 rw[Wm (by simp),Wr rfl];cases hu:b.Up
 ·rw[Wm (by simp),Wm (by simp),KN h.zh,AA]
 rfl
def TE {b:ls}(h:yH b):Ix b=some (H3 b):=by
 unfold Ix H3;rw[Jz h,AA];cases C9 b
 ·rfl
 rw[Wm (by simp),Wr rfl];cases hu:b.Up
 ·rw[Wm (by simp),Wm (by simp),J2 h.zh,AA]
 rfl
def yc (h:gD):gD:={ h with vq:=true }
def L9 {ρ:Type}{v:I gD}(hl:v.length<=1000000)(K:I gD->O ρ) : AB (τ:=(I gD)) (λV=>BD (σ:=Int×(I gD)) (λF (v9,v10)=>if (decide (v9<(v.length:Int))) then Wb (mu v10 v9) λJ=>Wb (wj v10 v9 ({ J with vq:=true })) λM=>F ((AO (v9+1)),M) else V v10) tE (0,v)) K=K (v.map yc):=by
 rw[AC];refine (Dq (λs:Int×I gD=>0<=s.1/\s.1<=(v.length:Int)/\s.2.length=v.length) (λs=>((v.length:Int)-s.1).toNat) (λs=>K (s.2.take s.1.toNat++(s.2.drop s.1.toNat).map yc)) ?_ tE (0,v) ⟨by simp,by simp,rfl⟩ (BW (by dsimp only;omega))).trans (by simp);rintro next ⟨i,l⟩ ⟨Y,Z,Q⟩ U
 dsimp only at Y Z Q U⊢;obtain⟨i,rfl⟩ :∃n:Nat,i=(n:Int):=⟨i.toNat,by omega⟩;by_cases h:i<v.length
 ·have P:i<l.length:=by omega
  have H:wj l (i:Int) ({ l[i] with vq:=true }:gD)=some (l.set i (yc l[i])):=by unfold wj;rw[Wr (by omega)];rfl
  rw[Wr (by simpa using h),BY P,AA,H,AA,AG (by omega)];rw[U _ ⟨by dsimp only;omega,by dsimp only;omega,by simpa using Q⟩ (by dsimp only;omega)];dsimp only;rw[show ((i:Int)+1).toNat=i+1 by omega,Xaa,LL P,List.drop_set_of_lt (by omega),Xak];congr 2;rw[Xbp P];rfl
 rw[Wm (by simpa using h),show i=l.length by omega];simp
def KJ (b:ls)(now grace:Int):ls×Int:=
 if (C9 b&&(decide (0<=now)&&(decide (now<=1073741824)&&(decide (0<=grace)&&decide (grace<=4095)))))=true then
  if b.Up=true then (F5 ⟨b.lf,false,(cond (grace==0) [] b.gD).map yc,now+grace⟩,0) else (zR,31)
 else (zR,1)
def pK {b:ls}(h:yH b){now grace:Int}:J4 b now grace=some (KJ b now grace):=by
 unfold J4 KJ;simp only[Jv (a:=now),Jv (a:=grace),Oa (a:=now),Oa (a:=grace)];rw[AC,OM h,AA];cases C9 b
 ·rfl
 by_cases F:0<=now;case neg=>rw[Xa5 F];rfl
 by_cases a2:now<=1073741824;case neg=>rw[Wz F,Xa5 a2];rfl
 by_cases a3:0<=grace;case neg=>rw[Wz F,Wz a2,Xa5 a3];rfl
 by_cases a4:grace<=4095;case neg=>rw[Wz F,Wz a2,Wz a3,Xa5 a4];rfl
 rw[Wz F,Wz a2,Wz a3,Wz a4];show (if (!b.Up)=true then _ else _)=some (if b.Up=true then _ else _);cases hu:b.Up
 ·rfl
 rw[Wm (by simp),Wr rfl,KN h.zh,AA,AC,AG (by omega)];have H:=h.h;cases hg:grace==0
 ·rw[Wm (by simp)];refine (L9 (v:=b.gD) H _).trans ?_;show Wb (CB _) _=_;rw[MO,AA];rfl
 rw[Wr rfl];refine (L9 (v:=[]) (by simp) _).trans ?_;show Wb (CB _) _=_;rw[MO,AA];rfl
def VK {b:ls}(h:yH b){now grace:Int}:J1 b now grace=some (KJ b now grace):=by
 unfold J1 KJ;simp only[Jv (a:=now),Jv (a:=grace),Oa (a:=now),Oa (a:=grace)];rw[AC,Jz h,AA];cases C9 b
 ·rfl
 by_cases F:0<=now;case neg=>rw[Xa5 F];rfl
 by_cases a2:now<=1073741824;case neg=>rw[Wz F,Xa5 a2];rfl
 by_cases a3:0<=grace;case neg=>rw[Wz F,Wz a2,Xa5 a3];rfl
 by_cases a4:grace<=4095;case neg=>rw[Wz F,Wz a2,Wz a3,Xa5 a4];rfl
 rw[Wz F,Wz a2,Wz a3,Wz a4];show (if (!b.Up)=true then _ else _)=some (if b.Up=true then _ else _);cases hu:b.Up
 ·rfl
 rw[Wm (by simp),Wr rfl,J2 h.zh,AA,AC,AG (by omega)];have H:=h.h;cases hg:grace==0
 ·rw[Wm (by simp)];refine (L9 (v:=b.gD) H _).trans ?_;show Wb (CQ _) _=_;rw[OY,AA];rfl
 rw[Wr rfl];refine (L9 (v:=[]) (by simp) _).trans ?_;show Wb (CQ _) _=_;rw[OY,AA];rfl
def JR (F:Int)(h:gD):C:=!h.vq || ((F==0&&h.oA.fI.Addr.V6) || (F==1&&!h.oA.fI.Addr.V6))
def KB (b:ls)(F:Int):ls:=F5 { b with gD:=b.gD.filter (JR F) }
def ip {ρ:Type}(w:Int)(x:gD)(K:C->O ρ):AB (τ:=C) (λF=>if (!x.vq) then F true else if (w==0) then if (cond false true (cond true x.oA.fI.Addr.V6 false)) then F true else if (w==1) then F (cond false true (cond true (!x.oA.fI.Addr.V6) false)) else F false else if (w==1) then F (cond false true (cond true (!x.oA.fI.Addr.V6) false)) else F false) K=K (JR w x):=by rw[AC];unfold JR;cases x.vq<;>cases (w==0)<;>cases (w==1)<;>cases x.oA.fI.Addr.V6<;>rfl
def OA {b:ls}(h:DM b)(w:Int):HH b w=some (KB b w):=by
 unfold HH KB;rw[J2 h,AA,AA,AC];have hl:=h.h;have go :∀(t:I gD) (i:Nat) (F:I gD),F.length+t.length<=1000000->AI (σ:=I gD) (λP=>(λQ=>Wb (CQ ({ b with gD:=Q })) λU=>some U) P) (λH (K:gD) i7 P=>AB (τ:=C) (λJ=>if (!K.vq) then J true else if (w==0) then if (cond false true (cond true K.oA.fI.Addr.V6 false)) then J true else if (w==1) then J (cond false true (cond true (!K.oA.fI.Addr.V6) false)) else J false else if (w==1) then J (cond false true (cond true (!K.oA.fI.Addr.V6) false)) else J false ) λv9=>AB (τ:=(I gD)) (λM=>if v9 then Wb (gN (α:=gD) 208 P ([K]:I gD)) λV=>M V else M P) λY=>H Y) t i F=some (F5 { b with gD:=F++t.filter (JR w) }):=by
  intro t;induction t with
  | nil=>intro i F _;rw[U9];dsimp only;rw[OY,AA];simp[F5]
  | cons x t Z=>
   intro i F h;simp only[X12] at h;rw[Cb,ip,AC];cases hk:JR w x
   ·rw[Wm (by simp)];refine (Z _ _ (by omega)).trans ?_;rw[Xdc (by simp[hk])]
   rw[Wr rfl,AD (by decide) (by simp;omega),AA];refine (Z _ _ (by simp;omega)).trans ?_;rw[List.filter_cons_of_pos hk];simp
 exact (go b.gD 0 [] (by simpa using hl)).trans (by simp)
def pe (p:fI):CU p=IF p:=by have F:=DG p;rw[N3] at F;exact (X25 F).symm
def UQ {p:lf}(h:Le p=true):0<=p.tb/\0<=p.tv:=by rw[Lh] at h;simp only[X27,Wd] at h;exact⟨h.2.1.1,h.2.2.1.1⟩
def kc {b:ls}(h:VR b):VR { b with Up:=true } where
 peer:=h.peer
 len:=h.len
 u0:=h.u0
 u1:=h.u1
 st:=h.st
 wI:=h.wI
 ok x hx:=by refine⟨(h.ok x hx).1,?_⟩;have:=(h.ok x hx).2;unfold Cu at this⊢;simp only[X27] at this⊢;exact⟨this.1,this.2.1,this.2.2.1,this.2.2.2.1,rfl⟩
 f4:=h.f4
 f6:=h.f6
def jz {l m:I gD}(h:l.Sublist m):n0 l<=n0 m:=h.countP_le
def kY {l m:I gD}(h:l.Sublist m):n1 l<=n1 m:=h.countP_le
def ou {l m:I gD}(h :∀x∈l,x∈m)(F:xT l=true):xT m=true:=by unfold xT at F⊢;rw[List.any_eq_true] at F⊢;obtain⟨x,H,J⟩:=F;exact⟨x,h x H,J⟩
def Ya {b:ls}(h:xT b.gD=true->b.oX≠0):((F5 b).oX !=0)=xT b.gD:=by
 unfold F5;dsimp only;cases F:xT b.gD
 ·rfl
 have:=h F;simpa using this
def IJ (b:ls):(F5 b).oX=b.oX\/(F5 b).oX=0:=by
 unfold F5;dsimp only;cases xT b.gD
 ·exact .inr rfl
 exact .inl rfl
def iY {b:ls}(h:VR b)(p:gD->C):VR (F5 { b with gD:=b.gD.filter p }) where
 peer:=h.peer
 len:=Xb1 (List.length_filter_le _ _) h.len
 u0:=by
  rcases IJ { b with gD:=b.gD.filter p } with e|e
  ·rw[e];exact h.u0
  rw[e];exact Int.le_refl _
 u1:=by
  rcases IJ { b with gD:=b.gD.filter p } with e|e
  ·rw[e];exact h.u1
  rw[e];decide
 st:=Ya λJ=>by have:=h.st;have K:=ou (m:=b.gD) (λx H=>(Xbl.1 H).1) J;rw[K] at this;simpa using this
 wI:=PV h.wI
 ok x H:=h.ok x (Xbl.1 H).1
 f4:=by have F:=h.f4;unfold Pj at F⊢;simp only[Wd] at F⊢;have:=jz (List.filter_sublist (p:=p) (l:=b.gD));show ((n0 (b.gD.filter p):Nat):Int)<=_;exact Int.le_trans (Int.ofNat_le.2 this) F
 f6:=by have F:=h.f6;unfold PT at F⊢;simp only[Wd] at F⊢;have:=kY (List.filter_sublist (p:=p) (l:=b.gD));show ((n1 (b.gD.filter p):Nat):Int)<=_;exact Int.le_trans (Int.ofNat_le.2 this) F
def qA (l:I gD):n0 (l.map yc)=n0 l/\n1 (l.map yc)=n1 l:=by unfold n0 n1;rw[List.countP_map,List.countP_map];exact⟨rfl,rfl⟩
def nk {b:ls}(h:VR b){now grace:Int}(H:0<=now)(Q:now<=1073741824)(U:0<=grace)(V:grace<=4095):VR (F5 ⟨b.lf,false,(cond (grace==0) [] b.gD).map yc,now+grace⟩):=by
 have F:(cond (grace==0) [] b.gD).Sublist b.gD:=by
  cases grace==0
  ·exact List.Sublist.refl _
  exact List.nil_sublist _
 have Y:=UQ h.peer;refine⟨h.peer,?_,?_,?_,Ya λK=>?_,?_,λx M=>?_,?_,?_⟩
 ·show ((cond (grace==0) [] b.gD).map yc).length<=256;rw[X10];exact Xb1 F.length_le h.len
 ·rcases IJ ⟨b.lf,false,(cond (grace==0) [] b.gD).map yc,now+grace⟩ with e|e
  ·rw[e];show 0<=now+grace;omega
  rw[e];omega
 ·rcases IJ ⟨b.lf,false,(cond (grace==0) [] b.gD).map yc,now+grace⟩ with e|e
  ·rw[e];show now+grace<=_;omega
  rw[e];omega
 ·show now+grace≠0;cases hg:grace==0
  ·have:grace≠0:=by simpa using hg
   omega
  rw[hg] at K;cases K
 ·show List.Pairwise _ ((cond (grace==0) [] b.gD).map yc);rw[List.pairwise_map];exact Xea F h.wI
 ·obtain⟨y,P,rfl⟩:=Xaf.1 M;have:=h.ok y (F.subset P);refine⟨this.1,?_⟩;have J:=this.2;unfold Cu at J⊢;simp only[X27] at J⊢;exact⟨J.1,J.2.1,J.2.2.1,J.2.2.2.1,rfl⟩
 ·have H:=h.f4;unfold Pj at H⊢;simp only[Wd] at H⊢;have:=jz F;show ((n0 ((cond (grace==0) [] b.gD).map yc):Nat):Int)<=_;rw[(qA _).1];exact Int.le_trans (Int.ofNat_le.2 this) H
 have H:=h.f6;unfold PT at H⊢;simp only[Wd] at H⊢;have:=kY F;show ((n1 ((cond (grace==0) [] b.gD).map yc):Nat):Int)<=_;rw[(qA _).2];exact Int.le_trans (Int.ofNat_le.2 this) H
def oQ (f:vV)(p:lf)(r:oA):0<=zu f p r/\zu f p r<=14:=by
 unfold zu;have h:=(fi f p r).2;cases F:TX f p r with
 | nil=>exact⟨Int.le_refl _,by decide⟩
 | cons x t=>have:=h x (by rw[F];simp);show 0<=x/\x<=14;omega
def lM {f:vV}{b:ls}{u:tT}(h:VR b)(P:Em u=true)(Q:b.Up=true)(Z:Pj (CY f b u)=true)(h6:PT (CY f b u)=true)(hl:((CY f b u).gD.length:Int)<=256):VR (F5 (CY f b u)):=by
 obtain⟨w1,w2,w3⟩:=Qf (u:=u) h.wI;have Y:=QC (xY f b u) w1 u.fT;unfold Em at P;simp only[X27,Wd,Xa0] at P;obtain⟨_,_,hg,_,K,_⟩:=P;have F :∀x∈(CY f b u).gD,x∈b.gD \/∃p∈u.fT,x=xY f b u p:=λx M=>by
  rcases Y.2.2 x M with H|H
  ·exact .inl (w3 x H)
  exact .inr H
 refine⟨h.peer,by show (CY f b u).gD.length<=256;omega,?_,?_,Ya λU=>?_,Y.1,λx M=>?_,Z,h6⟩
 ·rcases IJ (CY f b u) with e|e<;>rw[e]
  ·exact h.u0
  exact Int.le_refl _
 ·rcases IJ (CY f b u) with e|e<;>rw[e]
  ·exact h.u1
  decide
 ·have h1:xT b.gD=true:=by
   unfold xT at U⊢;rw[List.any_eq_true] at U⊢;obtain⟨x,M,J⟩:=U;rcases F x M with H|⟨p,_,e⟩
   ·exact⟨x,H,J⟩
   rw[e] at J;cases J
  have:=h.st;rw[h1] at this;show b.oX≠0;simpa using this
 rcases F x M with H|⟨p,hp,e⟩
 ·exact h.ok x H
 rw[e];refine⟨by rw[pe];exact hg p (Xdp _ hp),?_⟩;have V:=K p hp;unfold QI at V;simp only[X27] at V;have hc:=oQ f b.lf ⟨p,b.lf.tS,u.gE⟩;unfold Cu xY;simp only[X27,Xbj,Xd5,Xb0];refine⟨V.2.2.2,by show (b.lf.tS !=b.lf.tS)=false;simp,by omega,by omega,?_⟩;show (!b.Up&&!false)=false;rw[Q];rfl
structure WR (b:ls):Prop where
 v:VR b
 n:101<=b.lf.tS/\b.lf.tS<=105
 s:b.lf.Set.size<=4
def WR.raise {b:ls}(h:WR b)(F:(H3 b).2=0):WR (H3 b).1:=by
 unfold H3 at F⊢;rw[h.v.to,Wr rfl] at F⊢;cases hu:b.Up
 ·rw[Wm (by simp)];exact⟨kc h.v,h.n,h.s⟩
 rw[hu,Wr rfl] at F;exact absurd F (by decide)
def WR.down {b:ls}(h:WR b){now grace:Int}(H:(KJ b now grace).2=0):WR (KJ b now grace).1:=by
 unfold KJ at H⊢;cases F:(C9 b&&(decide (0<=now)&&(decide (now<=1073741824)&&(decide (0<=grace)&&decide (grace<=4095)))))
 ·rw[F,Wm (by simp)] at H;exact absurd H (by decide)
 rw[F,Wr rfl] at H;rw[Wr rfl];cases hu:b.Up
 ·rw[hu,Wm (by simp)] at H;exact absurd H (by decide)
 rw[Wr rfl];simp only[X27,Wd] at F;exact⟨nk h.v F.2.1 F.2.2.1 F.2.2.2.1 F.2.2.2.2,h.n,h.s⟩
def WR.yE {b:ls}(h:WR b)(w:Int):WR (KB b w):=⟨iY h.v _,h.n,h.s⟩
def WR.apply {f:vV}{b:ls}{u:tT}(h:WR b)(F:(D3 f b u).2=0):WR (D3 f b u).1:=by
 unfold D3 at F⊢;cases J:(Rf f&&(C9 b&&Em u))
 ·rw[J,Wm (by simp)] at F;exact absurd F (by decide)
 rw[J,Wr rfl] at F;rw[Wr rfl];cases hu:b.Up
 ·rw[hu,Wm (by simp)] at F;exact absurd F (by decide)
 rw[hu,Wr rfl] at F;rw[Wr rfl];cases H:(Pj (CY f b u)&&(PT (CY f b u)&&decide (((CY f b u).gD.length:Int)<=256)))
 ·rw[H,Wm (by simp)] at F;exact absurd F (by decide)
 rw[Wr rfl];simp only[X27,Wd] at J H;exact⟨lM h.v J.2.2 hu H.1 H.2.1 H.2.2,h.n,h.s⟩
def WR.sz {b:ls}(h:WR b):b.lf.Set.size<=Xb3:=nF h.s
def XR {d:r9}(F:Dk d):Ok (Cj d) λr=>MF r.1/\WR r.2.1/\Dk r.2.2:=by
 unfold Cj;refine .bind (N9 F) ?_;rintro⟨f,d⟩ ⟨hf,F⟩;dsimp only at hf F⊢;refine .bind (AH F (by omega)) ?_;rintro⟨a,d⟩ ⟨a1,a2,F⟩;dsimp only at a1 a2 F⊢;rw[AG (by omega)];refine .bind (Va F (by omega)) ?_;rintro⟨p,d⟩ ⟨⟨p1,p2,Y⟩,F⟩;dsimp only at p1 p2 Y F⊢;have a8:p.oT.length<=8:=by have:=Y;rw[Lh] at this;simp only[X27,Wd] at this;omega
 have hm:=UQ Y;have P:FV p=some ⟨p,false,[],0⟩:=by unfold FV;rw[AD (by decide) (by simp;omega),AA]
 rw[P,AA];refine .bind (AH F (by omega)) ?_;rintro⟨k,d⟩ ⟨k1,k2,F⟩;dsimp only at k1 k2 F⊢;refine .join (λq:r9×ls=>Dk q.1/\WR q.2) (λkk a6=>?_) λq M=>.ret ⟨hf,M.2,M.1⟩;refine .wA (λq:Int×r9×ls=>-1<=q.1/\q.1<=8/\Dk q.2.1/\WR q.2.2) (λq=>(q.1+1).toNat) ⟨by dsimp only;omega,by dsimp only;omega,F,?_⟩ (BW (by dsimp only;omega)) ?_
 ·refine⟨⟨Y,by simp,Int.le_refl _,by show (0:Int)<=1073745919;decide,rfl,List.Pairwise.nil,by simp,Wz hm.1,Wz hm.2⟩,by dsimp only;omega,p2⟩
 rintro next ⟨i,d,b⟩ ⟨i1,i2,F,K⟩ ih
 dsimp only at i1 i2 F K ih⊢;refine .ite (λh=>?_) λh=>a6 _ ⟨F,K⟩;have hi:0<=i:=by simpa using h
 have Z:=K.v.zA;refine .bind (AH F (by omega)) ?_;rintro⟨c,d⟩ ⟨c1,c2,F⟩;dsimp only at c1 c2 F⊢;refine .join (λq:Int×r9×ls=>Dk q.2.1/\(q.1=0->WR q.2.2)) (λk2 H=>?_) ?_
 ·refine .ite (λh=>?_) λh=>?_
  ·refine .bind (AH F (by omega)) ?_;rintro⟨x,d⟩ ⟨x1,x2,F⟩;dsimp only at x1 x2 F⊢;refine .bind (AH F (by omega)) ?_;rintro⟨y,d⟩ ⟨y1,y2,F⟩;dsimp only at y1 y2 F⊢;refine .bind (.mu (by simp;omega)) λg hg=>?_;rw[VK Z,AA];exact H _ ⟨F,λe=>K.down e⟩
  refine .join (λq:Int×r9×ls=>Dk q.2.1/\(q.1=0->WR q.2.2)) (λk3 Q=>?_) λq M=>H _ M;refine .ite (λh=>?_) λh=>?_
  ·refine .bind (AH F (by omega)) ?_;rintro⟨x,d⟩ ⟨x1,x2,F⟩;dsimp only at x1 x2 F⊢;rw[OA Z.zh,AA];exact Q _ ⟨F,λ_=>K.yE x⟩
  refine .join (λ_=>True) (λk4 J=>.ite (λ_=>J _ trivial) λ_=>J _ trivial) λz _=>?_;refine .join (λq:Int×r9×ls=>Dk q.2.1/\(q.1=0->WR q.2.2)) (λk4 J=>?_) λq M=>Q _ M;refine .ite (λ_=>?_) λ_=>?_
  ·rw[TE Z,AA];exact J _ ⟨F,λe=>K.raise e⟩
  refine .bind (Rw F) ?_;rintro⟨u,d⟩ ⟨⟨hu,_,_⟩,F⟩;dsimp only at hu F⊢;rw[NT hf.CD Z K.sz hu,AA];exact J _ ⟨F,λe=>K.apply e⟩
 rintro⟨e,d',b'⟩ ⟨U,V⟩;dsimp only at U V⊢;refine .join (λb2=>WR b2) (λk2 H=>.ite (λh=>H _ (V (by simpa using h))) λ_=>H _ K) λb2 a7=>ih _ ⟨?_,?_,U,a7⟩ ?_
 ·dsimp only;rw[AG (by omega)];omega
 ·dsimp only;rw[AG (by omega)];omega
 dsimp only;rw[AG (by omega)];omega
def Addr.wM (x:Addr):Prop:=True/\True/\True/\True
def fI.wM (x:fI):Prop:=Addr.wM x.Addr/\wv x.vg/\True
def oF.wM (x:oF):Prop:=True/\(x.o3.length<=Xb3/\x.o3.length<=1048576/\∀y0∈x.o3,wv y0)/\True
def qv.wM (x:qv):Prop:=wv x.A/\wv x.B/\True
def oB.wM (x:oB):Prop:=wv x.A/\wv x.B/\wv x.C/\True
def gH.wM (x:gH):Prop:=wv x.Flags/\wv x.iB/\(x.Data.length<=Xb3/\x.Data.length<=1048576/\∀y0∈x.Data,True)/\True
def gE.wM (x:gE):Prop:=wv x.gO/\(x.Path.length<=Xb3/\x.Path.length<=1048576/\∀y0∈x.Path,oF.wM y0)/\Addr.wM x.Next/\wv x.wo/\wv x.th/\wv x.vS/\(x.cW.length<=Xb3/\x.cW.length<=1048576/\∀y0∈x.cW,qv.wM y0)/\(x.oB.length<=Xb3/\x.oB.length<=1048576/\∀y0∈x.oB,oB.wM y0)/\(x.iX.length<=Xb3/\x.iX.length<=1048576/\∀y0∈x.iX,gH.wM y0)/\True
def oA.wM (x:oA):Prop:=fI.wM x.fI/\wv x.vY/\gE.wM x.gE/\True
def lf.wM (x:lf):Prop:=wv x.tS/\(x.Set.size<=Xb3/\x.Set.size<=1048576)/\wv x.tb/\wv x.tv/\(x.oT.length<=Xb3/\x.oT.length<=1048576/\∀y0∈x.oT,Addr.wM y0)/\True
def gD.wM (x:gD):Prop:=oA.wM x.oA/\wv x.vj/\True/\True
def ls.wM (x:ls):Prop:=lf.wM x.lf/\True/\(x.gD.length<=Xb3/\x.gD.length<=1048576/\∀y0∈x.gD,gD.wM y0)/\wv x.oX/\True
def tT.wM (x:tT):Prop:=(x.gS.length<=Xb3/\x.gS.length<=1048576/\∀y0∈x.gS,fI.wM y0)/\gE.wM x.gE/\(x.fT.length<=Xb3/\x.fT.length<=1048576/\∀y0∈x.fT,fI.wM y0)/\True
def sA:I oF->Nat
 | []=>0
 | s::t=>1+s.o3.length+sA t
def sO:I gH->Nat
 | []=>0
 | u::t=>u.Data.length+sO t
def uB {p:I oF}(h :∀s∈p,s.o3.length<=1048576):sA p<=1048577*p.length:=by
 induction p with
 | nil=>exact Xd7 _
 | cons s t F=>have:=h s (by simp);have:=F λx H=>h x (X19 _ H);simp only[sA,X12,Nat.mul_succ];omega
def tu {p:I gH}(h :∀s∈p,s.Data.length<=1048576):sO p<=1048576*p.length:=by
 induction p with
 | nil=>exact Xd7 _
 | cons s t F=>have:=h s (by simp);have:=F λx H=>h x (X19 _ H);simp only[sO,X12,Nat.mul_succ];omega
def qt (p:I oF):p.length+xm p=sA p:=by
 induction p with
 | nil=>rfl
 | cons s t F=>rw[Fe,X12];simp only[sA];omega
def rL {p:I gH}{u:gH}(h:u∈p):u.Data.length<=sO p:=by
 induction p with
 | nil=>cases h
 | cons s t F=>
  simp only[sO];rcases Xa3.1 h with e|h
  ·rw[e];omega
  have:=F h;omega
def te {p:I oF}{n:Nat}(h:n+sA p<=4000000000000000000):p.foldl (λ(v2:Int) (F:oF)=>AO (v2+(AO (1+(F.o3.length:Int))))) (n:Int)=((n+sA p:Nat):Int):=by
 induction p generalizing n with
 | nil=>rfl
 | cons s t H=>simp only[sA] at h;rw[Xbh,AG (x:=1+(s.o3.length:Int)) (by omega),AG (by omega),show (n:Int)+(1+(s.o3.length:Int))=((n+(1+s.o3.length):Nat):Int) by omega,H (by omega)];simp only[sA];congr 1;omega
def sW {p:I gH}{n:Nat}(h:n+sO p<=4000000000000000000):p.foldl (λ(v2:Int) (F:gH)=>AO (v2+(F.Data.length:Int))) (n:Int)=((n+sO p:Nat):Int):=by
 induction p generalizing n with
 | nil=>rfl
 | cons s t H=>simp only[sO] at h;rw[Xbh,AG (by omega),show (n:Int)+(s.Data.length:Int)=((n+s.Data.length:Nat):Int) by omega,H (by omega)];simp only[sO];congr 1;omega
def kR {a:gE}(h:gE.wM a):DD a=some (decide (a.cW.length+a.oB.length+a.iX.length+sA a.Path+sO a.iX<=2000)):=by
 obtain⟨_,hp,_,_,_,_,M,P,J,_⟩:=h;have Q:=hp.2.1;have U:=M.2.1;have V:=P.2.1;have Y:=J.2.1;have Z:=uB (p:=a.Path) λs F=>(hp.2.2 s F).2.1.2.1;have h6:=tu (p:=a.iX) λs F=>(J.2.2 s F).2.2.1.2.1;unfold DD;rw[AG (x:=(a.cW.length:Int)+(a.oB.length:Int)) (by omega),AG (by omega),AC];rw[show (a.cW.length:Int)+(a.oB.length:Int)+(a.iX.length:Int)=((a.cW.length+a.oB.length+a.iX.length:Nat):Int) by omega];rw[mD (g:=λ(v2:Int) (H:oF)=>AO (v2+(AO (1+(H.o3.length:Int))))),te (by omega)];show AB _ _=_;rw[AC];rw[mD (g:=λ(v2:Int) (H:gH)=>AO (v2+(H.Data.length:Int))),sW (by omega)];dsimp only;congr 1;by_cases K:a.cW.length+a.oB.length+a.iX.length+sA a.Path+sO a.iX<=2000
 ·rw[Wz K,Wz (by omega)]
 rw[Xa5 K,Xa5 (by omega)]
def W3 {a:gE}(h:gE.wM a)(F:DD a=some true):xH a:=by rw[kR h] at F;have F:a.cW.length+a.oB.length+a.iX.length+sA a.Path+sO a.iX<=2000:=Xen (X25 F);have:=qt a.Path;exact⟨by omega,by omega,by omega,by omega,by omega,λu H=>by have:=rL H;omega⟩
def Rz (a:gE):C:=(DD a).getD false
def OL (a:gE):DD a=some (Rz a):=by obtain⟨b,h⟩:=cG a;unfold Rz;rw[h];rfl
def XQ {b:ls}(h:ls.wM b) :∃v,GQ b=some v/\(v=true->yH b/\b.lf.Set.size<=Xb3):=by
 unfold GQ
 rw[AC,fR (bad:=λ_ x=>!Rz x.oA.gE) (st:=λ_ _=>()) (r:=some false) (λnext i x s F=>by
  cases s
  rw[OL,AA]),AC]
 cases H:Qv (λ_ (x:gD)=>!Rz x.oA.gE) b.gD 0
 ·refine⟨decide ((b.gD.length:Int)<=40)&&decide ((b.lf.oT.length:Int)<=40),?_,λJ=>?_⟩
  ·rw[Wm (by simp)];cases decide ((b.gD.length:Int)<=40)<;>rfl
  simp only[X27,Wd] at J;rw[MV] at H;refine⟨⟨by omega,by omega,λx F=>?_⟩,h.1.2.1.1⟩;obtain⟨j,K,e⟩:=List.mem_iff_getElem.1 F;have:=H j x (by rw[X15 K,e]);have:Rz x.oA.gE=true:=by simpa using this
  exact W3 (h.2.2.1.2.2 x F).1.2.2.1 (by rw[OL,this])
 exact⟨false,by rw[Wr rfl],λe=>by cases e⟩
end Go.AX.Q25
end
