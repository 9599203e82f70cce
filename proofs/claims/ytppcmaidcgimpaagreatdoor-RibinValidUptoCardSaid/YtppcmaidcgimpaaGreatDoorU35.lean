/-
  Texts of one proof, packed.
-/
import Derived.Test.YtppcmaidcgimpaaGreatDoorU18
import Derived.Test.YtppcmaidcgimpaaGreatDoorU28
import Derived.Test.YtppcmaidcgimpaaGreatDoorU29
import Derived.Test.YtppcmaidcgimpaaGreatDoorU30
import Derived.Test.YtppcmaidcgimpaaGreatDoorU31
import Derived.Test.YtppcmaidcgimpaaGreatDoorU33
import Derived.Test.YtppcmaidcgimpaaGreatDoorU34
set_option linter.all false
set_option maxRecDepth 100000
set_option maxHeartbeats 4000000
open List renaming length_map→X10,length_append→X11,mem_singleton→X14,getElem?_eq_getElem→X15,getElem?_eq_some_iff→X16,length_drop→X17,length_take→X18,mem_cons_of_mem→X19,length_replicate→X20,length_set→X21,mem_append→X23
open Option.some renaming inj→X25
open Bool renaming and_eq_true→X27
open Option renaming bind→Wb
open Int renaming toNat→Wo
open List renaming map→Xa1,replicate→Xav,take→Xbx,drop→Xc2
open Go renaming maxLen→Xb3
open Go.Proofs.Tryz renaming prog→Xa9
section
namespace Go.AX.Q25
open Go Go.AX Go.Proofs
variable {wl:Prop}
instance Pg {F:gE}{H:gE}:CK (DN F H) 24 [ed F,ed H] [] ed oN:=Wf 0 Tryz.f24 λh=>by
 refine⟨rfl,?_⟩;unfold DN at h;(conv=>whnf);refine Ap h (λv1=>⟨X::X::yr 2 0::yr 3 0::dd 73 (yb v1::dd 124 ([])),iQ F H⟩) ?_ ?_
 ·intro _ h;exact Wg .z h
 rintro v1 h;refine vX ?_;refine CN h ?_ ?_<;>intro h
 ·exact fin h
 refine⟨F.Path.length,X10 _,?_⟩;refine Ap h (λ_=>⟨X::X::yr 2 0::yr 3 0::dd 198 ([]),iQ F H⟩) ?_ ?_
 ·intro _ h;exact Wg (.y 202 202 (.f 79 2 oF.fv (λZ _=>⟨[(2,yr 2 0),(3,yr 3 0),(79,AV.d (D.l 2 oF.fv F.Path)),(80,yi (F.Path.length:Int)),(81,yi (Z:Int))],[(2,yB (gE.av F)),(3,yB (gE.av H))]⟩) (λ_ Z x4=>.g (.k (λv6=>⟨[(112,yb v6)],[]⟩))))) h
 rintro _ h;refine⟨F.cW.length,X10 _,?_⟩;refine Ap h (λ_=>⟨X::X::yr 2 0::yr 3 0::dd 198 ([]),iQ F H⟩) ?_ ?_
 ·intro _ h;exact Wg (.y 202 202 (.f0 115 2 qv.fv (λi7 _=>⟨[(2,yr 2 0),(3,yr 3 0),(115,AV.d (D.l 2 qv.fv F.cW)),(116,yi (F.cW.length:Int)),(117,yi (i7:Int))],[(2,yB (gE.av F)),(3,yB (gE.av H))]⟩))) h
 rintro _ h;refine⟨F.oB.length,X10 _,?_⟩;refine Ap h (λ_=>⟨X::X::yr 2 0::yr 3 0::dd 198 ([]),iQ F H⟩) ?_ ?_
 ·intro _ h;exact Wg (.y 202 202 (.f0 133 3 oB.fv (λU _=>⟨[(2,yr 2 0),(3,yr 3 0),(133,AV.d (D.l 3 oB.fv F.oB)),(134,yi (F.oB.length:Int)),(135,yi (U:Int))],[(2,yB (gE.av F)),(3,yB (gE.av H))]⟩))) h
 rintro _ h;refine⟨F.iX.length,X10 _,?_⟩;refine Ap h (λ_=>⟨dd 202 ([]),nn 202 ([])⟩) ?_ ?_
 ·intro _ h;revert h;refine Bi 151 3 gH.fv rfl (λM _=>⟨X::X::yr 2 0::yr 3 0::dd 147 (AV.d (D.l 3 gH.fv F.iX)::yi (F.iX.length:Int)::yi (M:Int)::dd 48 ([])),iQ F H⟩) ?_ ?_ ?_
  ·exact wk
  ·rintro _ V h;exact Wg (.e .z) h
  rintro _ M J _ V K P a6 h a7;refine vX ?_;refine Ea (IC K) ?_;refine vX ?_;refine Ap h (λQ=>⟨X::X::yr 2 0::yr 3 0::dd 147 (AV.d (D.l 3 gH.fv F.iX)::yi (F.iX.length:Int)::yi (M:Int)::dd 46 (yb Q::X::[])),iQ F H⟩) ?_ ?_
  ·intro _ h;refine .inl (dO ?_);refine⟨D6 (f:=gH.fv) K,gH.fv J,P,rfl,?_⟩;(conv=>whnf);refine QD h (λ_=>rfl) λ_ h=>?_;refine CN h ?_ ?_<;>intro h
   ·exact Wg .z h
   refine⟨D6 (f:=gH.fv) K,gH.fv J,P,rfl,?_⟩;(conv=>whnf);refine QD h (λ_=>rfl) λ_ h=>?_;refine CN h ?_ ?_<;>intro h
   ·exact Wg .z h
   refine⟨D6 (f:=gH.fv) K,gH.fv J,P,rfl,?_⟩;refine⟨J.Data,rfl,?_⟩;(conv=>whnf);refine QD h (λ_=>rfl) λY h=>?_;refine⟨Y.Data,rfl,?_⟩;exact Wg .z h
  rintro Q h;exact Wg .z h
 rintro _ h;exact fin h
instance Dw {F:oA}{H:oA}:CK (Bd F H) 25 [ed F,ed H] [] ed oN:=Wf 0 Tryz.f25 λh=>by unfold Bd at h;exact Wg (.y 24 24 (.k (λv1=>⟨[(4,yb v1)],[]⟩))) h
instance {F:lf} {H:lf}:CK (GM F H) 64 [ed F,ed H] [] ed oN:=Wf 0 Tryz.f64 λh=>by unfold GM at h;exact Wg (.y 59 59 (.d (λv1=>⟨[(2,yr 2 0),(3,yr 3 0),(40,yb v1)],[(2,yB (lf.av F)),(3,yB (lf.av H))]⟩) λv1=>.b .z (.a (.f0 42 3 Addr.fv (λJ _=>⟨[(40,X),(42,AV.d (D.l 3 Addr.fv F.oT)),(43,yi (F.oT.length:Int)),(44,yi (J:Int))],[]⟩)) (λ_=>⟨[(2,X),(3,X),(40,X)],[(2,N),(3,N)]⟩)))) h
instance Kr {F:ls}{H:ls}:CK (HA F H) 17 [ed F,ed H] [] ed oN:=Wf 0 Tryz.f17 λh=>by unfold HA at h;exact Wg (.y 86 86 (.d (λv1=>⟨[(2,yr 2 0),(3,yr 3 0),(34,yb v1)],[(2,yB (ls.av F)),(3,yB (ls.av H))]⟩) λv1=>.b .z (.a (.f 36 18 gD.fv (λJ _=>⟨[(34,X),(36,AV.d (D.l 18 gD.fv F.gD)),(37,yi (F.gD.length:Int)),(38,yi (J:Int))],[]⟩) (λ_ J M=>.g (.k (λK=>⟨[(84,yb K)],[]⟩)))) (λ_=>⟨[(2,X),(3,X),(34,X)],[(2,N),(3,N)]⟩)))) h
def xw {H:ls}{J:tT}{a2:I Int}{a3:Int}{a4:Int}{a5:Int}{r:C}(h:FN H J a2 a3 a4 a5=some r):Ao (Wl True) Xa9 3 [AV.d (ls.fv H),AV.d (tT.fv J),AV.d (D.l 1 D.i a2),AV.d (D.i a3),AV.d (D.i a4),AV.d (D.i a5)] [] (.d (D.b r)) []:=by
 refine oK Tryz.f3 ⟨rfl,?_⟩;unfold FN at h;(conv=>whnf);refine Ap h (λv1=>⟨X::X::y2 a2::yi a3::yi a4::yi a5::yr 6 0::yr 7 0::dd 36 (yb v1::dd 64 ([])),nn 6 (yB (ls.av H)::yB (tT.av J)::nn 101 ([]))⟩) ?_ ?_
 ·intro _ h;refine Ah h (λ_=>NB.ok) λ_ h=>?_;refine Jx h λh=>?_;refine Ah h (λ_=>WX.ok) λ_ h=>?_;refine Jx h λh=>?_;refine⟨J.fT.length,X10 _,?_⟩;refine Jx h λh=>?_;refine⟨J.gS.length,X10 _,?_⟩;exact vu h
 rintro v1 h;refine vX ?_;refine CN h ?_ ?_<;>intro h
 ·refine Ah h (λ_=>C5) λ_ h=>?_;exact fin h
 refine NC [47] h (λ_=>KQ.ok) λ_ h=>?_;refine Ah h (λ_=>Gy.ok) ?_;rintro⟨v2,F,_⟩ h;refine .inl (dO ?_);refine Db h (λ_=>NA.ok) (λ_=>rfl) λK h=>?_;refine⟨([F,H,K]:I ls).length,JZ,?_⟩;refine cO ?_;refine Ap h (λ_=>⟨dd 109 ([]),nn 109 ([])⟩) ?_ ?_
 ·intro _ h;revert h;refine Ny 60 27 8 .no ls.fv rfl (λV v6=>⟨qx (([F,H,K]:I ls).length:Int) (V:Int) ([F,H,K]:I ls),qS ([F,H,K]:I ls) J v2 F v6⟩) ?_ ?_ ?_
  ·exact wk
  ·rintro v6 K7 h;refine vX ?_;exact vu h
  rintro _ V x8 v6 K7 b5 c5 e5 h p9;refine vX ?_;refine Ea (IC b5) ?_;refine Ap h (λY=>⟨qx (([F,H,K]:I ls).length:Int) (V:Int) ([F,H,K]:I ls),qS ([F,H,K]:I ls) J v2 F Y⟩) ?_ ?_
  ·intro _ h;refine⟨rfl,D6 (f:=ls.fv) b5,?_⟩;refine⟨rfl,ls.fv x8,c5,?_⟩;refine .inl (dO ?_);refine Db h (λ_=>Gk.ok) (λ_=>rfl) ?_;rintro⟨M,_⟩ h;refine Db h (λ_=>Gk.ok) (λ_=>rfl) ?_;rintro⟨P,Q⟩ h;refine⟨([M,J,P]:I tT).length,JZ,?_⟩;refine cO ?_;refine Ap h (λ_=>⟨qx (([F,H,K]:I ls).length:Int) (V:Int) ([F,H,K]:I ls),qS ([F,H,K]:I ls) J v2 F Q⟩) ?_ ?_
   ·intro _ h;revert h;refine Ny 77 39 13 .no tT.fv rfl (λU _=>⟨dd 7 (yr 7 0::dd 5 (yr 47 0::yr 14 0::yr 15 0::X::yr 17 0::dd 42 (yO 60 ls.fv ([F,H,K]:I ls)::yi (([F,H,K]:I ls).length:Int)::yi (V:Int)::dd 14 (yO 77 tT.fv ([M,J,P]:I tT)::yi (([M,J,P]:I tT).length:Int)::yi (U:Int)::dd 29 ([]))))),uC ([F,H,K]:I ls) ([M,J,P]:I tT) J v2 F x8 Q⟩) ?_ ?_ ?_
    ·exact wk
    ·rintro _ a7 h;refine vX ?_;exact vu h
    rintro _ U a8 _ a7 Z aa ab h ae;refine vX ?_;refine Ea (IC Z) ?_;refine vX ?_;refine⟨rfl,D6 (f:=tT.fv) Z,?_⟩;refine⟨rfl,tT.fv a8,aa,?_⟩;refine Ah h (λ_=>Ei) ?_;rintro⟨_,_⟩ h;refine Ah h (λ_=>VP.ok) ?_;rintro⟨_,_⟩ h;refine Ap h (λa6=>⟨dd 7 (yr 7 0::dd 5 (yr 47 0::yr 14 0::yr 15 0::X::yr 17 0::dd 42 (yO 60 ls.fv ([F,H,K]:I ls)::yi (([F,H,K]:I ls).length:Int)::yi (V:Int)::dd 14 (yO 77 tT.fv ([M,J,P]:I tT)::yi (([M,J,P]:I tT).length:Int)::yi (U:Int)::dd 25 (yb a6::X::X::X::[]))))),uC ([F,H,K]:I ls) ([M,J,P]:I tT) J v2 F x8 Q⟩) ?_ ?_
    ·intro _ h;refine Jx h λh=>?_;refine Ah h (λ_=>Kr.ok) λ_ h=>?_;exact vu h
    rintro a6 h;refine vX ?_;refine CN h ?_ ?_<;>intro h
    ·exact fin h
    refine⟨_,ab,?_⟩;exact ae _ _ wk h
   rintro _ h;exact vu h
  rintro Y h;refine⟨_,e5,?_⟩;exact p9 _ _ wk h
 rintro _ h;refine Ah h (λ_=>C5) λ_ h=>?_;exact fin h
instance RO {K:ls}{M:ls}:CK (Fb K M) 20 [ed K,ed M] [] ed oN:=Wf 0 Tryz.f20 λh=>by unfold Fb at h;exact Wg (.y 114 114 (.a (.w (u3 λv2 P Q=>⟨[(2,yr 2 0),(3,yr 3 0),(5,yO 5 fI.fv Q),(6,yi v2),(7,yi P)],[(2,yB (ls.av K)),(3,yB (ls.av M)),(5,yR 67 4 fI.fv Q)]⟩) (u3 λv2 P Q=>.d (λV=>⟨[(19,yb V)],[]⟩) λV=>.b (.g (.g (.d (λY=>⟨[(19,X),(34,yb Y)],[]⟩) λY=>.a (.b .z (.d (λF=>⟨[(34,X),(77,yb F)],[]⟩) λF=>.k (u2 λU H=>⟨[(5,yO 5 fI.fv H),(6,yi U),(7,yi (AO (P+1))),(77,X)],[(5,yR 67 4 fI.fv H)]⟩))) (u3 λZ v9 J=>⟨[(5,yO 5 fI.fv J),(6,yi Z),(7,yi v9),(34,X)],[(5,yR 67 4 fI.fv J)]⟩)))) .z)) (λv1=>⟨[(5,yO 5 fI.fv v1)],[(5,yR 67 4 fI.fv v1)]⟩))) h
instance Ja {F:ls}{H:fI}:CK (EE F H) 21 [ed F,ed H] [] e2 oN:=Wf 0 Tryz.f21 λh=>by unfold EE at h;exact Wg (.b .z (.n [24] .z)) h
instance RJ {F:ls}{H:fI}:CK (IY F H) 22 [ed F,ed H] [] e2 oN:=Wf 0 Tryz.f22 λh=>by unfold IY at h;exact Wg (.y 23 23 (.a (.f0 9 18 gD.fv (λJ _=>⟨[(3,yr 3 0),(4,yr 4 0),(9,AV.d (D.l 18 gD.fv F.gD)),(10,yi (F.gD.length:Int)),(11,yi (J:Int))],[(3,yB (fI.av H)),(4,yB gD.zv)]⟩)) (λ_=>⟨[(4,yr 4 0)],[(4,yB gD.zv)]⟩))) h
end Go.AX.Q25
end
section
namespace Go.AX.Q25
open Go Go.AX Go.AX.xP
def zH:gD:=⟨⟨⟨⟨false,0,0⟩,0⟩,0,⟨0,[],⟨false,0,0⟩,0,0,0,[],[],[]⟩⟩,0,false⟩
def Nd:oA:=⟨⟨⟨false,0,0⟩,0⟩,0,⟨0,[],⟨false,0,0⟩,0,0,0,[],[],[]⟩⟩
def IS:I gD->fI->gD×C
 | [],_=>(zH,false)
 | x::t,p=>if fI.wa x.oA.fI p=true then (x,true) else IS t p
def Rx (b:ls)(p:fI):IY b p=some (IS b.gD p):=by
 unfold IY;rw[AC];have go :∀(l:I gD) (i:Nat),AI (σ:=Unit) (λ_=>(λ_:Unit=>some (zH,false)) ()) (λF (H:gD) i4 _=>if (fI.wa H.oA.fI p) then some (H,true) else F ()) l i ()=some (IS l p):=by
  intro l;induction l with
  | nil=>intro i;rfl
  | cons x t J=>
   intro i;rw[Cb];unfold IS;cases K:fI.wa x.oA.fI p
   ·rw[Wm (by simp),Wm (by simp)];exact J (i+1)
   rw[Wr rfl,Wr rfl]
 exact go b.gD 0
def XU {H F:I gD}{x:gD}{p:fI}(h:At kH BU p H F)(e:kH x=p):IS (H++x::F) p=(x,true):=by
 have J:=h.1;clear h;induction H with
 | nil=>show IS (x::F) p=_;unfold IS;rw[Wr (show fI.wa x.oA.fI p=true from (fI.vR _ _).2 e)]
 | cons y t K=>show IS (y::(t++x::F)) p=_;unfold IS;rw[Wm (λM:fI.wa y.oA.fI p=true=>BQ.ne (J y (by simp)) ((fI.vR _ _).1 M))];exact K λz P=>J z (X19 _ P)
def K2 {l:I gD}{p:fI}(h :∀y∈l,kH y≠p):IS l p=(zH,false):=by
 induction l with
 | nil=>rfl
 | cons y t F=>unfold IS;rw[Wm (λH:fI.wa y.oA.fI p=true=>h y (by simp) ((fI.vR _ _).1 H))];exact F λz J=>h z (X19 _ J)
def Xq {b:ls}(M:DM b)(Q:wI kH BU b.gD)(p:fI):EE b p=some (IS b.gD p):=by
 unfold EE;have K:=M.h;rcases split BQ Q p with ⟨H,x,P,J,e,F⟩|⟨H,P,J,F⟩
 ·rw[J] at K⊢;rw[Ru F e (by omega),AA,XU F e];dsimp only;have U:yG x.oA.gE:=M.a x (by rw[J];simp);have hp:part (H++x::P) (H.length:Int) (((H.length+1:Nat)):Int)=some [x]:=by rw[Ls (by omega) (by simp)];simp
  rw[Wm (by simp),AG (by simp at K;omega),show ((H.length:Int)+1)=((H.length+1:Nat):Int) from rfl,hp,AA,L2 (by simp) (by simpa using U),AA];rfl
 rw[J] at K⊢;rw[U2 F (by omega),AA];dsimp only;rw[Wr (by rfl),K2]
 ·rfl
 intro y V;rcases X23.1 V with h|h
 ·exact BQ.ne (F.1 y h)
 exact BQ.ne' (F.2 y h)
def qZ {b:ls}(F:DM b)(p:fI):Ok (EE b p) λ_=>True:=by
 unfold EE;have Q:=F.h;refine .bind (pN b.gD p (by omega)) ?_;rintro⟨i,f⟩ ⟨K,M,H⟩;dsimp only at K M H⊢;refine .ite (λ_=>.ret trivial) λP=>?_;have U:=H (by simpa using P);obtain⟨n,rfl⟩ :∃n:Nat,i=(n:Int):=⟨i.toNat,by omega⟩;rw[AG (by omega),show ((n:Int)+1)=((n+1:Nat):Int) from rfl,Ls (by omega) (by omega),AA];have J:n<b.gD.length:=by omega
 have e:(b.gD.drop n).take (n+1-n)=[b.gD[n]]:=by rw[Xbp J,Nat.add_sub_cancel_left];rfl
 rw[e,L2 (by simp) (by simpa using F.a _ (Xae J)),AA];exact .ret trivial
def ol (g:gD×C):oA×C:=if (g.2&&(g.1.vj==0))=true then (g.1.oA,true) else (Nd,false)
def qi {b:ls}{p:fI}{g:gD×C}(h:EE b p=some g):Fa b p=some (ol g):=by
 unfold Fa ol;obtain⟨x,f⟩:=g;rw[h,AA];dsimp only;rw[AC];cases f
 ·rfl
 cases F:x.vj==0
 ·have:(x.vj !=0)=true:=by simp only[bne,F];rfl
  rw[this];rfl
 have:(x.vj !=0)=false:=by simp only[bne,F];rfl
 rw[this];rfl
def im (b:ls)(p:fI):GL b p=some (ol (IS b.gD p)):=by
 unfold GL ol;rw[Rx,AA];cases h:IS b.gD p with
 | mk x f=>
  dsimp only;rw[AC];cases f
  ·rfl
  cases F:x.vj==0<;>rfl
def qM {p:lf}(h:p.oT.length<=1000000):Ji p=some ⟨p,false,[],0⟩:=by unfold Ji;rw[RL h,AA]
def iS {p:lf}(h:p.oT.length<=1000000):FV p=some ⟨p,false,[],0⟩:=by unfold FV;rw[AD (by decide) (by simp;omega),AA]
def qo (a0:ls)(V:I Int)(a2 a3 a4:Int)(a5:fI)(h0:ls.wM a0)(h1:V.length<=Xb3/\V.length<=1048576/\∀a∈V,wv a)(_:wv a2)(_:wv a3)(_:wv a4)(_:fI.wM a5):GV a0 V a2 a3 a4 a5=some true:=by
 refine ok_eq ?_;unfold GV;obtain⟨v,hv,Z⟩:=XQ h0;rw[hv,AA];refine .ite (λ_=>by rw[G1,AA];exact .ret rfl) λa6=>?_;obtain⟨a7,ab⟩:=Z (by simpa using a6);unfold Gp;rw[AA];refine .bind (XR (YL h1.1)) ?_;rintro⟨f,b,d⟩ ⟨hf,hb,F⟩;dsimp only at hf hb F⊢;have H:=hb.v.zA;refine .bind (Xb H hb.sz) λsp a8=>?_;refine .join (λ_=>True) (λk8 aa=>?_) λ_ _=>?_
 ·refine .z7 (λ_ d=>Dk d) F (λ_ _=>aa _ trivial) λnext x i d hi hx F hn=>?_;have J:yH x:=by
   simp only[Xa3,Xbs,Xel] at hx;rcases hx with rfl|rfl|rfl
   ·exact a7
   ·exact H
   exact a8.1
  refine .join (λd=>Dk d) (λae M=>?_) λd F=>hn _ F;rw[OM J,AA,Jz J,AA];refine .ite (λh=>by simp at h) λ_=>?_;refine .bind (C0 F) ?_;rintro⟨p,d⟩ ⟨_,F⟩;dsimp only at F⊢;refine .bind (C0 F) ?_;rintro⟨p2,d⟩ ⟨_,F⟩;dsimp only at F⊢;refine .join (λ_=>True) (λaf P=>?_) λ_ _=>M _ F;refine .for_ (λ_=>P _ trivial) λnext q i s hi Y hn=>?_;obtain⟨g,hg,_⟩:=qZ J.zh q;have Q:C9 x=true->g=IS x.gD q:=λh=>by have:=Xq J.zh (VR.of h).wI q;rw[hg] at this;exact X25 this
  rw[hg,AA,Rx,AA];rw[qi hg,AA,im,AA];refine .join (λq=>q=false) (λag K=>?_) λq Y=>.ite (λh=>by rw[Y] at h;cases h) λ_=>hn _;rw[AA];refine .ite (λh=>?_) λ_=>K _ rfl;rw[Q h];refine .ite (λh=>by simp at h) λ_=>.ite (λh=>by simp at h) λ_=>.ite (λh=>by simp at h) λ_=>?_;rw[Ef,AA];refine .ite (λh=>by cases h) λ_=>.ite (λh=>by simp at h) λ_=>?_;rw[Ef,AA];exact K _ rfl
 refine .join (λq=>q=true) (λah U=>?_) λq Y=>.ret Y;rw[qM H.n,AA,iS H.n,AA,PH,AA];refine .ite (λ_=>?_) λh=>absurd rfl h;rw[G1,AA];exact U _ rfl
end Go.AX.Q25
end
section
namespace Go.AX.Q25
open Go Go.AX Go.Proofs
variable {wl:Prop}
def xJ {a0:I Int}{r:C}(h:GU a0=some r):Ao (Wl True) Xa9 4 [AV.d (D.l 1 D.i a0)] [] (.d (D.b r)) []:=by
 refine oK Tryz.f4 ⟨rfl,?_⟩;unfold GU at h;(conv=>whnf);refine NC [23] h (λ_=>KQ.ok) λ_ h=>?_;refine Ah h (λ_=>Gy.ok) ?_;rintro⟨v1,v2,_⟩ h;refine Ah h (λ_=>Gk.ok) ?_;rintro⟨H,_⟩ h;refine Ah h (λ_=>Ei) ?_;rintro⟨V,_⟩ h;refine vX ?_;refine CN h ?_ ?_<;>intro h
 ·refine Ap h (λv5=>⟨X::X::yb v5::dd 194 ([]),nn 197 ([])⟩) ?_ ?_
  ·intro _ h;refine CN h ?_ ?_<;>intro h
   ·refine CN h ?_ ?_<;>intro h
    ·refine Ah h (λ_=>C5) λ_ h=>?_;exact vu h
    refine G9 h λh=>?_;refine Ah h (λ_=>C5) λ_ h=>?_;exact vu h
   refine G9 h λh=>?_;refine Ah h (λ_=>C5) λ_ h=>?_;exact vu h
  rintro v5 h;exact fin h
 refine Ah h (λ_=>Ei) ?_;rintro⟨_,_⟩ h;refine Ap h (λv6=>⟨dd 4 (yr 4 0::yr 5 0::yr 6 0::yr 7 0::dd 73 (yb v6::dd 115 ([]))),nu v1 v2 H V⟩) ?_ ?_
 ·intro _ h;refine Jx h λh=>?_;refine Ah h (λ_=>Kr.ok) λ_ h=>?_;refine Jx h λh=>?_;refine Ah h (λ_=>J8.ok) λ_ h=>?_;refine Jx h λh=>?_;refine Ah h (λ_=>U7.ok) λ_ h=>?_;exact vu h
 rintro v6 h;refine vX ?_;refine CN h ?_ ?_<;>intro h
 ·exact fin h
 refine Ah h (λ_=>RO.ok) λF h=>?_;refine⟨F.length,X10 _,?_⟩;refine Ap h (λ_=>⟨dd 197 ([]),nn 197 ([])⟩) ?_ ?_
 ·intro _ h;revert h;refine Bi 84 4 fI.fv rfl (λY _=>⟨dd 4 (yr 4 0::yr 5 0::yr 6 0::yr 7 0::dd 76 (y8 F::yi (F.length:Int)::yi (Y:Int)::dd 110 ([]))),nu v1 v2 H V⟩) ?_ ?_ ?_
  ·exact wk
  ·rintro _ K9 h;refine vX ?_;refine M8 Tv ?_;exact vu h
  rintro _ Y U _ K9 b8 c8 e8 h aj;refine vX ?_;refine Ea (IC b8) ?_;refine Ap h (λ_=>⟨dd 4 (yr 4 0::yr 5 0::yr 6 0::yr 7 0::dd 76 (y8 F::yi (F.length:Int)::yi (Y:Int)::dd 110 ([]))),nu v1 v2 H V⟩) ?_ ?_
  ·intro _ h;refine⟨D6 (f:=fI.fv) b8,fI.fv U,c8,rfl,?_⟩;refine Ah h (λ_=>Ja.ok) ?_;rintro⟨J,K⟩ h;refine Ah h (λ_=>RJ.ok) ?_;rintro⟨M,P⟩ h;refine⟨H.fT.length,X10 _,?_⟩;refine Ap h (λQ=>⟨dd 4 (yr 4 0::yr 5 0::yr 6 0::yr 7 0::X::X::X::yr 11 0::yr 12 0::yb K::yr 14 0::yb P::yb Q::yb false::dd 66 (y8 F::yi (F.length:Int)::yi (Y:Int)::dd 110 ([]))),Fs v1 v2 H V U J M⟩) ?_ ?_
   ·intro _ h;revert h;refine Bi 103 4 fI.fv rfl (λa1 a6=>⟨Mg K P a6 false (F.length:Int) (Y:Int) (H.fT.length:Int) (a1:Int) F H.fT,Fs v1 v2 H V U J M⟩) ?_ ?_ ?_
    ·exact wk
    ·rintro a6 ak h;refine vX ?_;refine M8 Tv ?_;exact vu h
    rintro _ a1 al a6 ak aa an ao h ap;refine vX ?_;refine Ea (IC aa) ?_;refine vX ?_;refine⟨D6 (f:=fI.fv) aa,fI.fv al,an,rfl,?_⟩;refine Ap h (λab=>⟨Mg K P ab false (F.length:Int) (Y:Int) (H.fT.length:Int) (a1:Int) F H.fT,Fs v1 v2 H V U J M⟩) ?_ ?_
    ·intro _ h;exact zZ h
    rintro ab h;refine⟨_,ao,?_⟩;exact ap _ _ wk h
   rintro Q h;refine⟨H.gS.length,X10 _,?_⟩;refine Ap h (λZ=>⟨dd 4 (yr 4 0::yr 5 0::yr 6 0::yr 7 0::dd 4 (yr 12 0::yb K::yr 14 0::yb P::yb Q::yb Z::dd 66 (y8 F::yi (F.length:Int)::yi (Y:Int)::dd 110 ([])))),rb v1 v2 H V J M⟩) ?_ ?_
   ·intro _ h;revert h;refine Bi 117 4 fI.fv rfl (λa7 a8=>⟨M0 K P Q a8 (F.length:Int) (Y:Int) (H.gS.length:Int) (a7:Int) F H.gS,Fs v1 v2 H V U J M⟩) ?_ ?_ ?_
    ·exact wk
    ·rintro a8 aq h;refine vX ?_;refine M8 Tv ?_;exact vu h
    rintro _ a7 ar a8 aq ae au ax h ay;refine vX ?_;refine Ea (IC ae) ?_;refine vX ?_;refine⟨D6 (f:=fI.fv) ae,fI.fv ar,au,rfl,?_⟩;refine Ap h (λaf=>⟨M0 K P Q af (F.length:Int) (Y:Int) (H.gS.length:Int) (a7:Int) F H.gS,Fs v1 v2 H V U J M⟩) ?_ ?_
    ·intro _ h;exact zZ h
    rintro af h;refine⟨_,ax,?_⟩;exact ay _ _ wk h
   rintro Z h;refine vX ?_;refine Ap h (λag=>⟨dd 4 (yr 4 0::yr 5 0::yr 6 0::yr 7 0::dd 4 (yr 12 0::yb K::yr 14 0::yb P::yb Q::yb Z::dd 66 (y8 F::yi (F.length:Int)::yi (Y:Int)::dd 43 (yb ag::dd 66 ([]))))),rb v1 v2 H V J M⟩) ?_ ?_
   ·intro _ h;refine .inl (dO ?_);refine CN h ?_ ?_<;>intro h
    ·refine CN h ?_ ?_<;>intro h
     ·refine cO ?_;exact vu h
     refine CN h ?_ ?_<;>intro h
     ·refine cO ?_;exact vu h
     refine Db h (λ_=>NW.ok) (λ_=>rfl) λ_ h=>?_;refine CN h ?_ ?_<;>intro h
     ·refine cO ?_;exact vu h
     refine Db h (λ_=>Pg.ok) (λ_=>rfl) λ_ h=>?_;refine cO ?_;exact vu h
    refine cO ?_;exact vu h
   rintro ag h;refine vX ?_;refine CN h ?_ ?_<;>intro h
   ·exact fin h
   refine Ap h (λah=>⟨dd 4 (yr 4 0::yr 5 0::yr 6 0::yr 7 0::dd 4 (yr 12 0::yb K::yr 14 0::yb P::yb Q::yb Z::dd 66 (y8 F::yi (F.length:Int)::yi (Y:Int)::dd 73 (yb ah::dd 36 ([]))))),rb v1 v2 H V J M⟩) ?_ ?_
   ·intro _ h;refine G9 h λh=>?_;exact zZ h
   rintro ah h;refine vX ?_;refine CN h ?_ ?_<;>intro h
   ·exact fin h
   refine Ap h (λai=>⟨dd 4 (yr 4 0::yr 5 0::yr 6 0::yr 7 0::dd 76 (y8 F::yi (F.length:Int)::yi (Y:Int)::dd 82 (yb ai::dd 27 ([])))),nu v1 v2 H V⟩) ?_ ?_
   ·intro _ h;refine G9 h λh=>?_;refine G9 h λh=>?_;refine Jx h λh=>?_;refine Jx h λh=>?_;refine Ah h (λ_=>Dw.ok) λ_ h=>?_;exact vu h
   rintro ai h;refine vX ?_;refine G9 h λh=>?_;exact fin h
  rintro _ h;refine⟨_,e8,?_⟩;exact aj _ _ wk h
 rintro _ h;exact fin h
instance P6 {F:ls}{H:fI}:CK (Fa F H) 28 [ed F,ed H] [] e2 oN:=Wf 0 Tryz.f28 λh=>by unfold Fa at h;exact Wg (.v λv1=>.v λ_=>.y 24 24 (.k (λv2=>⟨[(4,yr 4 0),(6,yr 6 0),(20,yb v2)],[(4,yB oA.zv),(6,yB (gD.av v1))]⟩))) h
instance RA {F:ls}{H:fI}:CK (GL F H) 29 [ed F,ed H] [] e2 oN:=Wf 0 Tryz.f29 λh=>by unfold GL at h;exact Wg (.v λv1=>.v λ_=>.y 23 23 (.k (λv2=>⟨[(4,yr 4 0),(6,yr 6 0),(19,yb v2)],[(4,yB oA.zv),(6,yB (gD.av v1))]⟩))) h
def xM {F:ls}{a1:I Int}{a2:Int}{a3:Int}{a4:Int}{J:fI}{r:C}(h:GV F a1 a2 a3 a4 J=some r):Ao (Wl True) Xa9 5 [AV.d (ls.fv F),AV.d (D.l 1 D.i a1),AV.d (D.i a2),AV.d (D.i a3),AV.d (D.i a4),AV.d (fI.fv J)] [] (.d (D.b r)) []:=by
 refine oK Tryz.f5 ⟨rfl,?_⟩;unfold GV at h;(conv=>whnf);refine Ah h (λ_=>NB.ok) λ_ h=>?_;refine vX ?_;refine CN h ?_ ?_<;>intro h
 ·refine Ah h (λ_=>C5) λ_ h=>?_;exact fin h
 refine NC [33] h (λ_=>KQ.ok) λ_ h=>?_;refine Ah h (λ_=>Gy.ok) ?_;rintro⟨_,v1,_⟩ h;refine .inl (dO ?_);refine Db h (λ_=>NA.ok) (λ_=>rfl) λv2 h=>?_;refine⟨([F,v1,v2]:I ls).length,JZ,?_⟩;refine cO ?_;refine Ap h (λ_=>⟨dd 15 (yr 15 0::dd 128 ([])),nn 15 (yB (ls.av v1)::nn 128 ([]))⟩) ?_ ?_
 ·intro _ h;revert h;refine Ny 46 27 8 .no ls.fv rfl (λQ Y=>⟨rD (([F,v1,v2]:I ls).length:Int) (Q:Int) ([F,v1,v2]:I ls),qe ([F,v1,v2]:I ls) J v1 Y⟩) ?_ ?_ ?_
  ·exact wk
  ·rintro Y K5 h;refine vX ?_;exact vu h
  rintro _ Q Z Y K5 b3 c3 e3 h p7;refine vX ?_;refine Ea (IC b3) ?_;refine Ap h (λv8=>⟨rD (([F,v1,v2]:I ls).length:Int) (Q:Int) ([F,v1,v2]:I ls),qe ([F,v1,v2]:I ls) J v1 v8⟩) ?_ ?_
  ·intro _ h;refine⟨rfl,D6 (f:=ls.fv) b3,?_⟩;refine⟨rfl,ls.fv Z,c3,?_⟩;refine .inl (dO ?_);refine Db h (λ_=>Nz.ok) (λ_=>rfl) λ_ h=>?_;refine Db h (λ_=>J8.ok) (λ_=>rfl) λ_ h=>?_;refine cO ?_;refine vX ?_;refine CN h ?_ ?_<;>intro h
   ·exact fin h
   refine .inl (dO ?_);refine Db h (λ_=>JQ.ok) (λ_=>rfl) ?_;rintro⟨K,_⟩ h;refine Db h (λ_=>JQ.ok) (λ_=>rfl) ?_;rintro⟨H,M⟩ h;refine⟨([J,K,H]:I fI).length,JZ,?_⟩;refine cO ?_;refine Ap h (λ_=>⟨rD (([F,v1,v2]:I ls).length:Int) (Q:Int) ([F,v1,v2]:I ls),qe ([F,v1,v2]:I ls) J v1 M⟩) ?_ ?_
   ·intro _ h;revert h;refine Ny 62 67 4 .no fI.fv rfl (λP _=>⟨dd 11 (yr 11 0::X::yr 33 0::X::yr 15 0::X::yr 17 0::dd 28 (yO 46 ls.fv ([F,v1,v2]:I ls)::yi (([F,v1,v2]:I ls).length:Int)::yi (Q:Int)::dd 13 (yO 62 fI.fv ([J,K,H]:I fI)::yi (([J,K,H]:I fI).length:Int)::yi (P:Int)::dd 79 ([])))),tI ([F,v1,v2]:I ls) ([J,K,H]:I fI) J v1 Z M⟩) ?_ ?_ ?_
    ·exact wk
    ·rintro _ a6 h;refine vX ?_;exact vu h
    rintro _ P yL _ a6 zb a7 a8 h aa;refine vX ?_;refine Ea (IC zb) ?_;refine vX ?_;refine⟨rfl,D6 (f:=fI.fv) zb,?_⟩;refine⟨rfl,fI.fv yL,a7,?_⟩;refine Ah h (λ_=>Ja.ok) ?_;rintro⟨_,_⟩ h;refine Ah h (λ_=>RJ.ok) ?_;rintro⟨_,_⟩ h;refine Ah h (λ_=>P6.ok) ?_;rintro⟨_,_⟩ h;refine Ah h (λ_=>RA.ok) ?_;rintro⟨_,_⟩ h;refine Ap h (λU=>⟨dd 11 (yr 11 0::X::yr 33 0::X::yr 15 0::X::yr 17 0::dd 28 (yO 46 ls.fv ([F,v1,v2]:I ls)::yi (([F,v1,v2]:I ls).length:Int)::yi (Q:Int)::dd 13 (yO 62 fI.fv ([J,K,H]:I fI)::yi (([J,K,H]:I fI).length:Int)::yi (P:Int)::dd 66 (yb U::dd 12 ([]))))),tI ([F,v1,v2]:I ls) ([J,K,H]:I fI) J v1 Z M⟩) ?_ ?_
    ·intro _ h;refine Ah h (λ_=>J8.ok) λ_ h=>?_;refine G9 h λh=>?_;refine Jx h λh=>?_;refine Jx h λh=>?_;refine Jx h λh=>?_;refine Ah h (λ_=>Dw.ok) λ_ h=>?_;refine Jx h λh=>?_;refine Jx h λh=>?_;refine Ah h (λ_=>Dw.ok) λ_ h=>?_;exact vu h
    rintro U h;refine vX ?_;refine CN h ?_ ?_<;>intro h
    ·exact fin h
    refine⟨_,a8,?_⟩;exact aa _ _ wk h
   rintro _ h;exact vu h
  rintro v8 h;refine⟨_,e3,?_⟩;exact p7 _ _ wk h
 rintro _ h;refine Ap h (λV=>⟨dd 12 (yb V::dd 131 ([])),nn 144 ([])⟩) ?_ ?_
 ·intro _ h;refine .inl (dO ?_);refine Db h (λ_=>QM.ok) (λ_=>rfl) λ_ h=>?_;refine Db h (λ_=>X2.ok) (λ_=>rfl) λ_ h=>?_;refine Db h (λ_=>Kr.ok) (λ_=>rfl) λ_ h=>?_;refine CN h ?_ ?_<;>intro h
  ·refine Db h (λ_=>C5) (λ_=>rfl) λ_ h=>?_;refine cO ?_;exact vu h
  refine cO ?_;exact vu h
 rintro V h;exact fin h
instance WY {H:ls}{J:Int}{K:Int}:CK (J4 H J K) 33 [ed H,ed J,ed K] [] e2 oN:=Wf 0 Tryz.f33 λh=>by unfold J4 at h;exact Wg (.y 58 58 (.d (λv1=>⟨[(1,yi J),(2,yi K),(3,yr 3 0),(6,yr 6 0),(28,yb v1)],[(3,yB (ls.av H)),(6,yB ls.zv)]⟩) λv1=>.b .z (.b .z (.n [35] (.v λ(v2:ls)=>.c (.b (.x 35 57) .z) (λF=>⟨[(3,X),(8,yr 8 0),(28,X)],[(3,N),(8,yB [AV.d (D.i v2.lf.tS),AV.d (D.s v2.lf.Set),AV.d (D.i v2.lf.tb),AV.d (D.i v2.lf.tv),AV.d (D.l 3 Addr.fv v2.lf.oT),yb false,yO 35 gD.fv F,AV.d (D.i v2.oX)]),(35,yR 71 18 gD.fv F)]⟩) λF=>.a (.w0 (u2 λQ M=>⟨[(42,yi (F.length:Int)),(43,yi Q)],[(8,yB [AV.d (D.i v2.lf.tS),AV.d (D.s v2.lf.Set),AV.d (D.i v2.lf.tb),AV.d (D.i v2.lf.tv),AV.d (D.l 3 Addr.fv v2.lf.oT),yb false,yO 35 gD.fv M,AV.d (D.i v2.oX)]),(35,yR 71 18 gD.fv M)]⟩)) (λP=>⟨[],[(8,yB [AV.d (D.i v2.lf.tS),AV.d (D.s v2.lf.Set),AV.d (D.i v2.lf.tb),AV.d (D.i v2.lf.tv),AV.d (D.l 3 Addr.fv v2.lf.oT),yb false,yO 35 gD.fv P,AV.d (D.i v2.oX)]),(35,yR 71 18 gD.fv P)]⟩)))))) h
instance {H:gD} {F:Int}:CK (EX H F) 81 [ed H,.ref 0 0] [.box [.d (D.i F)]] (λr=>.d (D.b r.1)) (λr=>[.box [.d (D.i r.2)]]):=Wf 0 Tryz.f81 λh=>by unfold EX at h;exact Wg (.y 28 29 (.k (λv1=>⟨[(3,yb v1)],[(0,CA F)]⟩))) h
instance DC {F:I gD}{H:Int}:CK (BG F H) 159 [AV.own 0 (Xa1 gD.fv F).length,AV.fn 81 [.ref 1 0]] [.row 71 18 (Xa1 gD.fv F) .no,.box [.d (D.i H)]] (λr=>.d (D.i r.1)) (λr=>[.row 71 18 (Xa1 gD.fv F) .no,.box [.d (D.i r.2)]]):=Wf 0 Tryz.f159 λh=>by unfold BG at h;exact Wg (.y 19 21 (.a (.o0 0 71 18 gD.fv (λJ K=>⟨[(0,yO 0 gD.fv F),(1,AV.fn 81 [yr 1 0]),(6,yO 0 gD.fv F),(7,yi (F.length:Int)),(8,yi (J:Int))],[(0,yR 71 18 gD.fv F),(1,CA K)]⟩)) (λv1=>⟨[],[(0,yR 71 18 gD.fv F),(1,CA v1)]⟩))) h
end Go.AX.Q25
end
section
namespace Go.AX.Q25
open Go Go.AX Go.AX.xP
section
variable {α σ:Type}
def rO (f:α->σ->O (C×σ))(J:I α)(c:σ):O (Int×σ):=
 AB (τ:=σ) (λK=>AI (σ:=σ) (λv2=>K v2) (λF (M:α) P v2=>Wb (f M v2) λ(v6,H)=>if v6 then some ((P:Int),H) else F H) J 0 c) λQ=>some ((-1),Q)
def tL (f:α->σ->O (C×σ))(z:α)(M:I α)(c:σ):O (I α×σ):=
 Wb (rO f M c) λ(v1,v2)=>
 if (v1==(-1)) then
  some (M,v2)
 else
  AB (τ:=Int×(I α)×σ) (λk3=>BD (σ:=Int×Int×(I α)×σ) (λH (v5,v6,J,Z)=>if (decide (v6<(J.length:Int))) then Wb (mu J v6) λv9=>Wb (f v9 Z) λ(v10,v11)=>AB (τ:=Int×(I α)) (λK=>if (!v10) then Wb (mu J v5) λa1=>Wb (wj J v5 v9) λP=>K ((AO (v5+1)),P) else K (v5,J) ) λ(Q,U)=>H (Q,(AO (v6+1)),U,v11) else k3 (v5,J,Z) ) tE (v1,(AO (v1+1)),M,v2)
  ) λ(v17,F,V)=>
  Wb (wQ (0<=v17/\v17<=(F.length:Int)/\(F.length:Int)<=(F.length:Int))) λ_=>
  Wb (part (Xbx (Wo v17) F++Xav (Wo (F.length:Int)-Wo v17) z++Xc2 ((Wo v17)+(Wo (F.length:Int)-Wo v17)) F) 0 v17) λY=>
  some (Y,V)
def JD {l:I α}{k:Nat}{y:α}(F:l[k]?=some y):l.take (k+1)=l.take k++[y]:=by rw[Xbz,F];rfl
def oj {f:α->σ->O (C×σ)}{q:α->C}{z:α}{c:σ}(hf :∀x,f x c=some (!q x,c)){l:I α}(hl:l.length<=1000000):tL f z l c=some (l.filter q,c):=by
 refine ok_eq ?_;unfold tL;have hi:Ok (rO f l c) λr=>r.2=c/\((r.1=-1/\∀x∈l,q x=true) \/∃k:Nat,r.1=(k:Int)/\k<l.length/\(∀x∈l.take k,q x=true)/\∀x,l[k]?=some x->q x=false):=by
  unfold rO;refine .join (λv=>v=c/\∀x∈l,q x=true) (λk hk=>?_) λv F=>.ret ⟨F.1,.inl ⟨rfl,F.2⟩⟩;refine .xL (λi v=>v=c/\∀x∈l.take i,q x=true) ⟨rfl,by simp⟩ (λv F=>hk v ⟨F.1,by simpa using F.2⟩) λnext x i v hx F hn=>?_;obtain⟨rfl,F⟩:=F;rw[hf,AA];dsimp only;refine .ite (λh=>.ret ⟨rfl,.inr ⟨i,rfl,(X16.1 hx).1,F,λy H=>?_⟩⟩) λh=>hn _ ⟨rfl,λy H=>?_⟩
  ·rw[hx] at H;cases H;simpa using h
  rw[JD hx,X23] at H;rcases H with H|H
  ·exact F y H
  rw[X14] at H;rw[H];simpa using h
 refine .bind hi ?_;rintro⟨v1,v2⟩ ⟨h0,h⟩;dsimp only at h0 h⊢;subst h0;rcases h with ⟨rfl,h⟩|⟨k,rfl,hk,h1,h2⟩
 ·rw[Wr (by simp)];exact .ret (by rw[Xd1.2 h])
 rw[Wm (by simp)];have gk:l[k]?=some l[k]:=X15 hk;have qk:q l[k]=false:=h2 _ gk;refine .join (λp:Int×I α×σ=>0<=p.1/\p.1<=l.length/\p.2.1.length=l.length/\p.2.1.take p.1.toNat=l.filter q/\p.2.2=v2) (λk3 a1=>?_) ?_
 ·refine .wA (λp:Int×Int×I α×σ=>0<=p.1/\p.1<=p.2.1/\p.2.1<=l.length/\p.2.2.1.length=l.length/\p.2.2.2=v2/\(∀j:Nat,p.2.1<=j->p.2.2.1[j]?=l[j]?)/\p.2.2.1.take p.1.toNat=(l.take p.2.1.toNat).filter q)
   (λp=>(l.length-p.2.1).toNat) ⟨Xc4 k,by dsimp only;rw[AG (by omega)];omega,by dsimp only;rw[AG (by omega)];omega,rfl,rfl,λ_ _=>rfl,?_⟩ (BW (by dsimp only;rw[AG (by omega)];omega)) ?_
  ·dsimp only;rw[AG (by omega),show ((k:Int)+1).toNat=k+1 by omega,JD gk,Xaa,Xbt,Xd1.2 h1,Xdc (by simp[qk])];simp
  rintro next ⟨i,j,a,s'⟩ ⟨q1,q2,q3,q4,q5,q6,q7⟩ a6
  dsimp only at q1 q2 q3 q4 q5 q6 q7⊢;subst q5;refine .ite (λJ=>?_) λJ=>?_;rotate_left
  ·simp only[Wd] at J;refine a1 (i,a,s') ⟨q1,by dsimp only;omega,q4,?_,rfl⟩;dsimp only;rw[q7,show j.toNat=l.length by omega,Xcj]
  simp only[Wd] at J;obtain⟨m,rfl⟩ :∃m:Nat,j=(m:Int):=⟨j.toNat,by omega⟩;have gm:l[m]?=some l[m]:=X15 (by omega);have ga:mu a (m:Int)=some l[m]:=IU (by rw[q6 m (by omega)];exact gm);rw[ga,AA,hf,AA];dsimp only;refine .join (λp:Int×I α=>0<=p.1/\p.1<=(m:Int)+1/\p.2.length=l.length/\(∀j:Nat,(m:Int)+1<=j->p.2[j]?=l[j]?)/\p.2.take p.1.toNat=(l.take (m+1)).filter q) (λaa K=>?_) ?_
  ·refine .ite (λhd=>?_) λhd=>K (i,a) ⟨q1,by dsimp only;omega,q4,λj J=>q6 j (by omega),?_⟩
   ·have a7:i.toNat<a.length:=by omega
    refine .bind (Ok.mu (by omega)) λ_ _=>.bind (Ok.wj (by omega)) λa' M=>K _ ?_;rw[AG (by omega)];refine⟨by dsimp only;omega,by dsimp only;omega,M.2.trans q4,λj J=>?_,?_⟩
    ·dsimp only;rw[M.1,Xde (by omega)];exact q6 j (by omega)
    dsimp only;have:q l[m]=true:=by simpa using hd
    rw[show (i+1).toNat=i.toNat+1 by omega,M.1,LL a7,JD gm,Xbt,q7,Xaa,List.filter_cons_of_pos this];rfl
   dsimp only;have:q l[m]=false:=by simpa using hd
   rw[JD gm,Xbt,q7,Xaa,Xdc (by simp[this])];simp
  rintro⟨i',a'⟩ ⟨V,Y,Z,P,Q⟩;dsimp only at V Y Z P Q⊢;refine a6 _ ⟨V,?_,?_,Z,rfl,?_,?_⟩ ?_
  ·dsimp only;rw[AG (by omega)];exact Y
  ·dsimp only;rw[AG (by omega)];omega
  ·intro j J;dsimp only at J⊢;rw[AG (by omega)] at J;exact P j J
  ·dsimp only;rw[AG (by omega),show ((m:Int)+1).toNat=m+1 by omega];exact Q
  dsimp only;rw[AG (by omega)];omega
 rintro⟨i,a,s'⟩ ⟨V,Y,Z,P,Q⟩;dsimp only at V Y Z P Q⊢;subst Q;obtain⟨n,rfl⟩ :∃n:Nat,i=(n:Int):=⟨i.toNat,by omega⟩;rw[nK ⟨by omega,by omega,by omega⟩];rw[Xaa] at P⊢;have U:n<=(Xbx n a++Xav (Wo (a.length:Int)-n) z++Xc2 (n+(Wo (a.length:Int)-n)) a).length:=by simp;omega
 have hp:=Ls (l:=Xbx n a++Xav (Wo (a.length:Int)-n) z++Xc2 (n+(Wo (a.length:Int)-n)) a) (a:=0) (b:=n) (by omega) U;have a8:part (Xbx n a++Xav (Wo (a.length:Int)-n) z++Xc2 (n+(Wo (a.length:Int)-n)) a) 0 (n:Int)=some (Xbx n a):=by refine hp.trans ?_;rw[List.drop_zero,Nat.sub_zero,Xak,List.take_append_of_le_length (by simp;omega),List.take_take,Nat.min_self]
 rw[a8,AA,P];exact .ret rfl
end
def gV (x:gD)(w:Int):EX x w=some (!JR w x,w):=by unfold EX JR;rw[AC];cases x.vq<;>cases (w==0)<;>cases (w==1)<;>cases x.oA.fI.Addr.V6<;>rfl
def B3 {b:ls}(h:DM b)(w:Int):I6 b w=some (KB b w):=by unfold I6;rw[KN h,AA];have:A0 b.gD w=some (b.gD.filter (JR w),w):=oj (f:=EX) (z:=zH) (c:=w) (λx=>gV x w) h.h;rw[this,AA];show Wb (CB _) _=_;rw[MO,AA];rfl
end Go.AX.Q25
end
section
namespace Go.AX.Q25
open Go Go.AX Go.AX.xP
def QU (l:I fI):Prop:=l.Pairwise λa b=>BU a b<0
def GN (b:ls):I fI:=b.gD.map kH
def VR.keys {b:ls}(h:VR b):QU (GN b):=by unfold QU GN;rw[List.pairwise_map];exact h.wI
structure MG (la lb:List fI)(i j:Nat)(out:List fI):Prop where
 wI:QU out
 mem :∀x,x∈out↔x∈la.take i\/x∈lb.take j
 Lg :∀x∈out,∀y∈la.drop i,BU x y<0
 KS :∀x∈out,∀y∈lb.drop j,BU x y<0
def drop_cons {l:I fI}{i:Nat}{p:fI}(h:l[i]?=some p):l.drop i=p::l.drop (i+1):=by obtain⟨F,H⟩:=X16.1 h;rw[Xbp F,H]
def P8 {l:I fI}(H:QU l){i:Nat}{p:fI}(h:l[i]?=some p) :∀y∈l.drop (i+1),BU p y<0:=by have F:QU (l.drop i):=Xea (List.drop_sublist i l) H;rw[drop_cons h] at F;exact (Xb4.1 F).1
def MG.push {la H:I fI}{i j K M:Nat}{out:I fI}{p:fI}(h:MG la H i j out)(hp:p∈la.drop i\/p∈H.drop j)(P :∀x,(x∈la.take K\/x∈H.take M)↔(x∈la.take i\/x∈H.take j)\/x=p) (Q :∀y∈la.drop K,y∈la.drop i) (U :∀y∈H.drop M,y∈H.drop j) (V :∀y∈la.drop K,BU p y<0) (Y :∀y∈H.drop M,BU p y<0):MG la H K M (out++[p]) where
 wI:=by
  refine Xbm.2 ⟨h.wI,by simp,λx F y J=>?_⟩;rw[X14.1 J];rcases hp with hp|hp
  ·exact h.Lg x F p hp
  exact h.KS x F p hp
 mem x:=by rw[X23,X14,h.mem,P]
 Lg x F y J:=by
  rcases X23.1 F with F|F
  ·exact h.Lg x F y (Q y J)
  rw[X14.1 F];exact V y J
 KS x F y J:=by
  rcases X23.1 F with F|F
  ·exact h.KS x F y (U y J)
  rw[X14.1 F];exact Y y J
def JX {l:I fI}{i:Nat}{p:fI}(h:l[i]?=some p)(x:fI):x∈l.take (i+1)↔x∈l.take i\/x=p:=by rw[JD h,X23,X14]
def uO {A B C:Prop}:(A\/C)\/B↔(A\/B)\/C:=or_right_comm
def uv {A B C:Prop}:A\/(B\/C)↔(A\/B)\/C:=or_assoc.symm
def vK {A B C:Prop}:(A\/C)\/(B\/C)↔(A\/B)\/C:=by
 constructor
 ·rintro ((h|h)|(h|h))
  ·exact .inl (.inl h)
  ·exact .inr h
  ·exact .inl (.inr h)
  exact .inr h
 rintro ((h|h)|h)
 ·exact .inl (.inl h)
 ·exact .inr (.inl h)
 exact .inl (.inr h)
def Ux {l:I fI}{i:Nat}{p:fI}(h:l[i]?=some p):p∈l.drop i:=by rw[drop_cons h];exact Xcd
def OZ {l:I fI}{i:Nat}{p:fI}(h:l[i]?=some p)(y:fI)(F:y∈l.drop (i+1)):y∈l.drop i:=by rw[drop_cons h];exact X19 _ F
def MG.a {la H:I fI}{i j:Nat}{out:I fI}{p:fI}(J:QU la)(h:MG la H i j out)(F:la[i]?=some p)(K :∀y∈H.drop j,BU p y<0):MG la H (i+1) j (out++[p]):=
 h.push (.inl (Ux F)) (λx=>by rw[JX F];exact uO) (OZ F) (λy M=>M) (P8 J F) K
def MG.b {la F:I fI}{i j:Nat}{out:I fI}{p:fI}(J:QU F)(h:MG la F i j out)(H:F[j]?=some p)(K :∀y∈la.drop i,BU p y<0):MG la F i (j+1) (out++[p]):=
 h.push (.inr (Ux H)) (λx=>by rw[JX H];exact uv) (λy M=>M) (OZ H) K (P8 J H)
def MG.c {la F:I fI}{i j:Nat}{out:I fI}{p:fI}(K:QU la)(M:QU F)(h:MG la F i j out)(H:la[i]?=some p)(J:F[j]?=some p):MG la F (i+1) (j+1) (out++[p]):=
 h.push (.inl (Ux H)) (λx=>by rw[JX H,JX J];exact vK) (OZ H) (OZ J) (P8 K H) (P8 M J)
def lD {l:I fI}(J:QU l){j:Nat}{p q:fI}(H:l[j]?=some q)(h:BU p q<0) :∀y∈l.drop j,BU p y<0:=by
 intro y F;rw[drop_cons H] at F;rcases Xa3.1 F with e|F
 ·rw[e];exact h
 exact BQ.trans h (P8 J H y F)
def FA {b:ls}{i:Nat}(h:i<b.gD.length):mu b.gD (i:Int)=some b.gD[i]/\(GN b)[i]?=some b.gD[i].oA.fI:=by refine⟨BY h,?_⟩;unfold GN;rw[Xd3,X15 h];rfl
def Zx {a b:ls}(ha:QU (GN a))(hb:QU (GN b))(la:a.gD.length<=1000000)(lb:b.gD.length<=1000000):Ok (Fb a b) λc=>QU c/\∀x,x∈c↔x∈GN a\/x∈GN b:=by
 unfold Fb;have ka:(GN a).length=a.gD.length:=by unfold GN;simp
 have kb:(GN b).length=b.gD.length:=by unfold GN;simp
 refine .join (λc=>QU c/\∀x,x∈c↔x∈GN a\/x∈GN b) (λk1 a6=>?_) λc hc=>.ret hc;refine .wA (λq:Int×Int×I fI=>0<=q.1/\q.1<=a.gD.length/\0<=q.2.1/\q.2.1<=b.gD.length/\q.2.2.length<=q.1.toNat+q.2.1.toNat/\MG (GN a) (GN b) q.1.toNat q.2.1.toNat q.2.2) (λq=>(a.gD.length-q.1).toNat+(b.gD.length-q.2.1).toNat)
  ⟨by simp,by simp,by simp,by simp,by simp,⟨List.Pairwise.nil,by simp,by simp,by simp⟩⟩ (BW (by dsimp only;omega)) ?_
 rintro next ⟨i,j,out⟩ ⟨i1,i2,j1,j2,hl,Q⟩ ih
 dsimp only at i1 i2 j1 j2 hl Q ih⊢;obtain⟨i,rfl⟩ :∃n:Nat,i=(n:Int):=⟨i.toNat,by omega⟩;obtain⟨j,rfl⟩ :∃n:Nat,j=(n:Int):=⟨j.toNat,by omega⟩;rw[Xaa,Xaa] at hl Q;refine .join (λv=>(v=true->i<a.gD.length\/j<b.gD.length)/\(v=false->i=a.gD.length/\j=b.gD.length)) (λk6 V=>.ite (λh=>V _ ⟨λ_=>.inl (by have q:(i:Int)<a.gD.length:=(by simpa using h);omega),λe=>by cases e⟩) λh=>V _ ⟨λe=>.inr (by have q:(j:Int)<b.gD.length:=(by simpa using e);omega),λe=>?_⟩) ?_
 ·have h1:¬ (i:Int)<a.gD.length:=by simpa using h
  have h2:¬ (j:Int)<b.gD.length:=by simpa using e
  omega
 intro v hv;refine .ite (λh=>?_) λh=>?_;rotate_left
 ·obtain⟨e1,e2⟩:=hv.2 (by simpa using h);refine a6 _ ⟨Q.wI,λx=>?_⟩;have:=Q.mem x;rw[e1,e2,<- ka,<- kb,Xcj,Xcj] at this;exact this
 have a8:=hv.1 h;refine .join (λv=>(v=true->∃p,i<a.gD.length/\(GN a)[i]?=some p/\∀y∈(GN b).drop j,BU p y<0)/\(v=false->j<b.gD.length/\(∀h1:i<a.gD.length,∀h2:j<b.gD.length,¬ BU a.gD[i].oA.fI b.gD[j].oA.fI<0))) (λk8 U=>?_) λw hw=>?_
 ·refine .ite (λh=>?_) λh=>?_
  ·have H:j=b.gD.length:=by have q:(j:Int)=b.gD.length:=(by simpa using h);omega
   have F:i<a.gD.length:=by omega
   exact U _ ⟨λ_=>⟨_,F,(FA F).2,λy Y=>(by rw[List.drop_of_length_le (by omega)] at Y;cases Y)⟩,λe=>by cases e⟩
  have H:j<b.gD.length:=by have q:¬ (j:Int)=b.gD.length:=(by simpa using h);omega
  refine .ite (λh=>?_) λh=>?_
  ·have F:i<a.gD.length:=by have q:(i:Int)<a.gD.length:=(by simpa using h);omega
   rw[(FA F).1,AA,(FA H).1,AA,I2,AA];refine U _ ⟨λe=>⟨_,F,(FA F).2,lD hb (FA H).2 (Xen e)⟩,λe=>⟨H,λ_ _=>of_decide_eq_false e⟩⟩
  have F:¬ i<a.gD.length:=by have q:¬ (i:Int)<a.gD.length:=(by simpa using h);omega
  exact U _ ⟨λe=>(by cases e),λ_=>⟨H,λh1=>absurd h1 F⟩⟩
 refine .join (λq:Int×Int×I fI=>0<=q.1/\q.1<=a.gD.length/\0<=q.2.1/\q.2.1<=b.gD.length/\q.2.2.length<=q.1.toNat+q.2.1.toNat/\MG (GN a) (GN b) q.1.toNat q.2.1.toNat q.2.2/\(a.gD.length-q.1).toNat+(b.gD.length-q.2.1).toNat<(a.gD.length-(i:Int)).toNat+(b.gD.length-(j:Int)).toNat) (λaa K=>?_) λq J=>ih _ ⟨J.1,J.2.1,J.2.2.1,J.2.2.2.1,J.2.2.2.2.1,J.2.2.2.2.2.1⟩ J.2.2.2.2.2.2;refine .ite (λh=>?_) λh=>?_
 ·obtain⟨p,F,hp,a7⟩:=hw.1 h;have e:=(FA F).2;rw[hp] at e;have e:=X25 e;rw[(FA F).1,AA];refine .bind (.gN (by decide) (by simp;omega)) λo Z=>K _ ?_;rw[AG (by omega)];dsimp only;rw[show ((i:Int)+1).toNat=i+1 by omega,Xaa,Z,<- e];exact⟨by omega,by omega,by omega,by omega,by simp;omega,Q.a ha hp a7,by omega⟩
 obtain⟨H,hn⟩:=hw.2 (by simpa using h);refine .join (λv=>(v=true->∀y∈(GN a).drop i,BU b.gD[j].oA.fI y<0)/\(v=false->∃F:i<a.gD.length,a.gD[i].oA.fI=b.gD[j].oA.fI)) (λab M=>?_) λw2 a1=>?_
 ·refine .ite (λh=>?_) λh=>?_
  ·have F:i=a.gD.length:=by have q:(i:Int)=a.gD.length:=(by simpa using h);omega
   exact M _ ⟨λ_ y Y=>(by rw[List.drop_of_length_le (by omega)] at Y;cases Y),λe=>by cases e⟩
  have F:i<a.gD.length:=by have q:¬ (i:Int)=a.gD.length:=(by simpa using h);omega
  rw[(FA F).1,AA,(FA H).1,AA,I2,AA];refine M _ ⟨λe=>lD ha (FA F).2 (BQ.zk.2 (Xen e)),λe=>⟨F,BQ.eq.1 ?_⟩⟩;have h1:=hn F H;have h2:=of_decide_eq_false e;omega
 refine .join (λq:Int×I fI=>0<=q.1/\q.1<=a.gD.length/\(i:Int)<=q.1/\q.2.length<=q.1.toNat+(j+1)/\MG (GN a) (GN b) q.1.toNat (j+1) q.2) (λae P=>?_) λq J=>K _ ?_
 ·refine .ite (λh=>?_) λh=>?_
  ·rw[(FA H).1,AA];refine .bind (.gN (by decide) (by simp;omega)) λo Z=>P _ ?_;dsimp only;rw[Xaa,Z];exact⟨by omega,by omega,by omega,by simp;omega,Q.b hb (FA H).2 (a1.1 h)⟩
  obtain⟨F,e⟩:=a1.2 (by simpa using h);rw[(FA F).1,AA];refine .bind (.gN (by decide) (by simp;omega)) λo Z=>P _ ?_;rw[AG (by omega)];dsimp only;rw[show ((i:Int)+1).toNat=i+1 by omega,Z];exact⟨by omega,by omega,by omega,by simp;omega,Q.c ha hb (FA F).2 (by rw[(FA H).2,e])⟩
 obtain⟨q1,q2,q3,q4,q5⟩:=J;rw[AG (by omega)];dsimp only;rw[show ((j:Int)+1).toNat=j+1 by omega];exact⟨q1,q2,by omega,by omega,q4,q5,by omega⟩
def cS (x y:oF):C:=(x.Set==y.Set)&&decide (x.o3=y.o3)
def Ok.val {m:O C}{p:Prop}[Decidable p](h:Ok m λv=>v=true↔p):m=some (decide p):=by
 obtain⟨v,H,F⟩:=h;rw[H];congr 1;by_cases hp:p
 ·rw[Wz hp];exact F.2 hp
 rw[Xa5 hp];cases v
 ·rfl
 exact absurd (F.1 rfl) hp
def iJ {o:kI}(h:Rl o):WW o=true:=by
 obtain⟨H,J,K,P⟩:=h;unfold WW;simp only[X27,Wd];refine⟨(Jj _).2 H.Ca,⟨?_,?_⟩,K,by omega⟩
 ·rcases H.2 with ⟨M,F⟩|⟨M,F⟩<;>rcases J with ⟨q1,q2⟩|⟨q1,q2⟩
  ·omega
  ·rw[F] at q2;cases q2
  ·rw[F] at q2;cases q2
  omega
 rcases J with ⟨q1,q2⟩|⟨q1,q2⟩<;>rw[q1,q2]<;>decide
def MF.Mt {f:vV}(h:MF f):Rf f=true:=by
 have J:f.wF.all CU=true:=by rw[h.DH];decide +kernel
 have K:f.vt.all CU=true:=by rw[Xa0];exact λp hp=>(Jj _).2 (h.Mf.2 p hp).Ca
 have M:f.vh.all CF=true:=by rw[h.Hs];decide
 have F:f.wm.all Bv=true:=by rw[Xa0];intro x P;have:=h.free.2 x P;unfold Bv;rw[Wz (by omega),Wz (by omega)];rfl
 have H:f.tF.all WW=true:=by rw[Xa0];exact λo Q=>iJ (h.DE.2 o Q)
 obtain⟨U,V,Y,Z,m5,m6⟩:=h.Lf;unfold Rf;rw[J,K,M,F,H,h.Mv,h.own,U,V,Y,Z,m5,m6,h.DH,h.Hs];have a1:decide ((f.vt.length:Int)>64)=false:=Xa5 (by have:=h.Mf.1;omega);have a2:decide ((f.wm.length:Int)>64)=false:=Xa5 (by have:=h.free.1;omega);have a3:decide ((f.tF.length:Int)>512)=false:=Xa5 (by have:=h.DE.1;omega);have a4:decide (1<=f.xl)=true:=Wz (by have:=h.Hb;omega);have a5:decide (f.xl<=60)=true:=Wz (by have:=h.Hb;omega);rw[a1,a2,a3,a4,a5];decide
end Go.AX.Q25
end
