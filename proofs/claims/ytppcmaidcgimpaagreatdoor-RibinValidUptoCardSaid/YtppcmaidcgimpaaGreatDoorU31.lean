/-
  Texts of one proof, packed.
-/
import Derived.Test.YtppcmaidcgimpaaGreatDoorU18
import Derived.Test.YtppcmaidcgimpaaGreatDoorU28
import Derived.Test.YtppcmaidcgimpaaGreatDoorU29
import Derived.Test.YtppcmaidcgimpaaGreatDoorU30
set_option linter.all false
set_option maxRecDepth 100000
set_option maxHeartbeats 4000000
open List renaming length_map→X10,length_append→X11,length_drop→X17,length_take→X18,length_replicate→X20,length_set→X21
open Int renaming toNat→Wo
open List renaming map→Xa1,replicate→Xav,take→Xbx,drop→Xc2
open Go.Proofs.Tryz renaming prog→Xa9
section
namespace Go.AX.Q25
open Go Go.AX Go.Proofs
variable {wl:Prop}
instance {F:I kI}:CK (I1 F) 335 [ed F] [] ed oN:=Wf 0 Tryz.f335 λh=>by refine⟨rfl,?_⟩;unfold I1 at h;(conv=>whnf);refine NC [5] h (λ_=>GW.ok) λv1 h=>?_;obtain⟨v2,H,h⟩:=AY h;have J:=OX H;refine⟨_,_,some [],ZI (f:=kI.fv) (enters_of Tryz.func353 (by kernel_rfl) rfl) (λh=>Vb.ok h) H,?_⟩;obtain⟨P,K,h⟩:=AY h;have M:(Xa1 kI.fv v2).length=(Xa1 kI.fv v1).length:=(by first|rfl|(simp only[X10,X21];omega)|(simp only[Ke,X10,X21,X11,X18,X17,X20];omega)|(simp only[X10] at *;omega));refine⟨_,_,some [9],(M▸FX.ok K),?_⟩;exact Wg .z h
instance {F:kI} {H:I Int}:CK (Jh F H) 338 [ed F,.ref 0 0] [.box [.d ((D.l 1 D.i) H)]] (λr=>.d (D.b r.1)) (λr=>[.box [.d ((D.l 1 D.i) r.2)]]):=Wf 0 Tryz.f338 λh=>by unfold Jh at h;exact Wg .z h
instance DT {F:I kI}{H:I Int}:CK (Ag F H) 168 [AV.own 0 (Xa1 kI.fv F).length,AV.fn 338 [.ref 1 0]] [.row 140 6 (Xa1 kI.fv F) .no,.box [.d ((D.l 1 D.i) H)]] (λr=>.d (D.i r.1)) (λr=>[.row 140 6 (Xa1 kI.fv F) .no,.box [.d ((D.l 1 D.i) r.2)]]):=Wf 0 Tryz.f168 λh=>by unfold Ag at h;exact Wg (.y 19 21 (.a (.o0 0 140 6 kI.fv (λJ K=>⟨[(0,yO 0 kI.fv F),(1,AV.fn 338 [yr 1 0]),(6,yO 0 kI.fv F),(7,yi (F.length:Int)),(8,yi (J:Int))],[(0,yR 140 6 kI.fv F),(1,GC K)]⟩)) (λv1=>⟨[],[(0,yR 140 6 kI.fv F),(1,GC v1)]⟩))) h
instance {M:I kI} {F:I Int}:CK (Ak M F) 336 [AV.own 0 (Xa1 kI.fv M).length,AV.fn 338 [.ref 1 0]] [.row 140 6 (Xa1 kI.fv M) .no,.box [.d ((D.l 1 D.i) F)]] (λr=>AV.own 2 (Xa1 kI.fv r.1).length) (λr=>[.gone,.box [.d ((D.l 1 D.i) r.2)],.row 140 6 (Xa1 kI.fv r.1) .no]):=Wf 0 Tryz.f336 λh=>by
 refine⟨rfl,?_⟩;unfold Ak at h;(conv=>whnf);refine Ah h (λ_=>DT.ok) ?_;rintro⟨_,_⟩ h;refine vX ?_;refine CN h ?_ ?_<;>intro h
 ·exact Wg (.r .z) h
 refine⟨_,rfl,?_⟩;refine Ap h (λ(v1,v2,V)=>⟨yO 0 kI.fv v2::dd 4 (yi v1::dd 36 ([])),yR 140 6 kI.fv v2::GC V::nn 42 ([])⟩) ?_ ?_
 ·intro _ h;exact Wg (.y 42 44 (.w (u4 λY Z P v7=>⟨[(0,yO 0 kI.fv P),(1,AV.fn 338 [yr 1 0]),(5,yi Y),(6,yi Z)],[(0,yR 140 6 kI.fv P),(1,GC v7)]⟩) (u4 λY Z P v7=>.b (.v λv9=>.v λ_=>.v λQ=>.k (u2 λU H=>⟨[(0,yO 0 kI.fv H),(5,yi U)],[(0,yR 140 6 kI.fv H),(1,GC Q)]⟩)) .z))) h
 rintro⟨v1,v2,V⟩ h;(conv=>whnf);refine .inr (.inl ?_);obtain⟨_,J,h⟩:=AY h;have a1:=G0 J;refine⟨Oc (f:=kI.fv) J,rfl,(Wo v1),(Wo (v2.length:Int)-Wo v1),rfl,(by rw[X10]),?_⟩;refine⟨JZ,kI.fv (⟨(⟨(⟨false,(0:j),(0:j)⟩:Addr),0⟩:fI),0,0⟩:kI),rfl,Xa1 kI.fv (Xbx (Wo v1) v2++Xav (Wo (v2.length:Int)-Wo v1) (⟨(⟨(⟨false,(0:j),(0:j)⟩:Addr),0⟩:fI),0,0⟩:kI)++Xc2 ((Wo v1)+(Wo (v2.length:Int)-Wo v1)) v2),YY,?_⟩;(conv=>whnf);refine .inr (.inr ?_);obtain⟨a6,K,h⟩:=AY h;refine⟨cJ (f:=kI.fv) K,JZ,_,Sj (f:=kI.fv) K,?_⟩;exact Wg (.l (.r .z)) h
instance dl {F:we}{H:I Int}:CK (MZ F H) 308 [ed F,ed H] [] ed oN:=Wf 0 Tryz.f308 λh=>by unfold MZ at h;exact Wg (.n [7] (.n [9] .z)) h
def Sv {F:we}{K:Int}{M:T}{H:fI}{J:Int}{r:Int}(h:Dl F K M H J=some r):Ao (Wl True) Xa9 268 [AV.d (we.fv F),AV.d (D.i K),AV.d (D.s M),AV.d (fI.fv H),AV.d (D.i J)] [] (.d (D.i r)) []:=by
 refine oK Tryz.f268 ⟨rfl,?_⟩;unfold Dl at h;(conv=>whnf);refine Ah h (λ_=>Qs.ok) λ_ h=>?_;refine vX ?_;refine CN h ?_ ?_<;>intro h
 ·exact fin h
 refine Ap h (λv1=>⟨dd 4 (yi J::yr 5 0::X::X::yr 8 0::X::X::yO 19 D.i v1::dd 33 ([])),nn 5 (yB (we.av F)::N::N::yB (fI.av H)::nn 10 (yR 3 1 D.i v1::nn 25 ([])))⟩) ?_ ?_
 ·intro _ h;refine G9 h λh=>?_;refine Ah h (λ_=>WF) ?_;rintro⟨_,_,_⟩ h;refine vX ?_;refine CN h ?_ ?_<;>intro h
  ·exact fin h
  refine Ev (f:=D.i) h rfl λ_ h=>?_;exact vu h
 rintro v1 h;refine⟨rfl,?_⟩;refine ZE h (λ_=>F4.ok) λ_ h=>?_;refine vX ?_;refine CN h ?_ ?_<;>intro h
 ·exact fin h
 refine .inl (dO ?_);refine⟨rfl,?_⟩;refine Db h (λ_=>dl.ok) (λ_=>rfl) λ_ h=>?_;refine Db h (λ_=>Vy.ok) (λ_=>rfl) λ_ h=>?_;refine cO ?_;exact fin h
def QS {F:vZ}{r:C×vZ}(h:Ed F=some r):Ao (Wl True) Xa9 266 [.ref 0 0] [.box (vZ.av F)] (.d (D.b r.1)) [.box (vZ.av r.2)]:=by
 refine oK Tryz.f266 ⟨rfl,?_⟩;unfold Ed at h;(conv=>whnf);refine Ap h (λv1=>⟨yr 0 0::X::X::yr 4 0::dd 35 ([]),yB (vZ.av F)::N::N::N::yB [AV.d (D.l 3 Set.fv F.f.we.ph),zd v1]::nn 35 ([])⟩) ?_ ?_
 ·intro _ h;refine G9 h λh=>?_;refine Ah h (λ_=>TZ.ok) λ_ h=>?_;exact vu h
 rintro v1 h;refine .inl (dO ?_);refine Db h (λ_=>Sv) (λ_=>rfl) λ_ h=>?_;refine cO ?_;exact fin h
instance {K:I kI} {M:fI} {P:Int}:CK (Hq K M P) 270 [ed K,ed M,ed P] [] e2 oN:=Wf 0 Tryz.f270 λh=>by unfold Hq at h;exact Wg (.y 47 47 (.a (.f 12 6 kI.fv (λY=>u2 λZ Q=>⟨[(2,yi P),(4,yr 4 0),(8,yO 8 kI.fv Q),(9,yi Z),(12,zd K),(13,yi (K.length:Int)),(14,yi (Y:Int))],[(4,yB (fI.av M)),(8,yR 140 6 kI.fv Q)]⟩) (u2 λZ Q Y x7=>.a (.b .z (.v λF=>.d (λH=>⟨[(8,yO 8 kI.fv F),(41,yb H)],[(8,yR 140 6 kI.fv F)]⟩) λH=>.a (.b .z (.k (λU=>⟨[(9,yi U),(41,X)],[]⟩))) (λV=>⟨[(9,yi V),(41,X)],[]⟩))) (u2 λv9 J=>⟨[(8,yO 8 kI.fv J),(9,yi v9)],[(8,yR 140 6 kI.fv J)]⟩))) (u2 λv1 v2=>⟨[(8,yO 8 kI.fv v2),(9,yi v1)],[(8,yR 140 6 kI.fv v2)]⟩))) h
instance PX {F:vZ}:CK (ED F) 269 [.ref 0 0] [.box (vZ.av F)] (λr=>.d (D.b r.1)) (λr=>[.box (vZ.av r.2)]):=Wf 0 Tryz.f269 λh=>by unfold ED at h;exact Wg (.y 33 34 (.k (λv1=>⟨[(0,yr 0 0),(3,zd v1)],[(0,yB (vZ.av F))]⟩))) h
instance Ti:CK (Jc) 181 [] [] ed oN:=Wf 0 Tryz.f181 λh=>by unfold Jc at h;exact Wg .z h
def QA {J:vV}{a1:lf}{H:oA}{a3:Int}{r:(I Int)}(h:Fz J a1 H a3=some r):Ao (Wl True) Xa9 109 [AV.d (vV.fv J),AV.d (lf.fv a1),AV.d (oA.fv H),AV.d (D.i a3)] [] (.d (D.l 1 D.i r)) []:=by
 refine oK Tryz.f109 ⟨rfl,?_⟩;unfold Fz at h;(conv=>whnf);refine Ah h (λ_=>Sz.ok) λ_ h=>?_;refine vX ?_;refine CN h ?_ ?_<;>intro h
 ·(conv=>whnf);refine .inl ?_;(conv=>whnf);refine .inl ?_;refine⟨rfl,?_⟩;exact fin h
 refine .inl (dO ?_);refine Db h (λ_=>V2.ok) (λ_=>rfl) λv1 h=>?_;refine Db h (λ_=>Vm.ok) (λ_=>rfl) λv2 h=>?_;refine cO ?_;refine Ah h (λ_=>RZ.ok) ?_;rintro⟨_,_⟩ h;refine Ap h (λv3=>⟨X::X::X::yi a3::dd 5 (yr 30 0::dd 56 ([])),nn 30 (yB [AV.d (D.i J.yM),AV.d (D.l 4 fI.fv J.wF),AV.d (D.i J.xu),AV.d (D.i J.tb),AV.d (D.i J.xr),AV.d (D.i J.tv),AV.d (D.i J.wW),AV.d (D.i J.wY),AV.d (D.l 4 fI.fv J.vt),AV.d (D.l 2 wz.fv J.vh),AV.d (D.l 1 D.i J.wm),AV.d (D.i J.xl),AV.d (D.l 3 Set.fv J.we.ph),AV.d (D.l 6 kI.fv J.we.pk),AV.d (D.l 6 kI.fv J.tF),AV.d (D.i a1.tS),AV.d (D.s a1.Set),AV.d (D.i a1.tb),AV.d (D.i a1.tv),AV.d (D.l 3 Addr.fv a1.oT),AV.d (D.b H.fI.Addr.V6),AV.d (D.u64 H.fI.Addr.Hi),AV.d (D.u64 H.fI.Addr.Lo),AV.d (D.i H.fI.vg),AV.d (D.i H.vY),AV.d (D.i H.gE.gO),AV.d (D.l 2 oF.fv H.gE.Path),AV.d (D.b H.gE.Next.V6),AV.d (D.u64 H.gE.Next.Hi),AV.d (D.u64 H.gE.Next.Lo),AV.d (D.i H.gE.wo),AV.d (D.i H.gE.th),AV.d (D.i H.gE.vS),AV.d (D.l 2 qv.fv H.gE.cW),AV.d (D.l 3 oB.fv H.gE.oB),AV.d (D.l 3 gH.fv H.gE.iX),y2 v1,yi v3,yb v2]::nn 35 ([]))⟩) ?_ ?_
 ·intro _ h;exact zZ h
 rintro v3 h;refine Ah h (λ_=>Ti.ok) λv4 h=>?_;refine⟨v4.length,X10 _,?_⟩;refine Ap h (λv5=>⟨dd 12 (yO 12 D.i v5::dd 53 ([])),nn 12 (yR 3 1 D.i v5::nn 53 ([]))⟩) ?_ ?_
 ·intro _ h;revert h;refine Bi 43 2 xN.fv rfl (λi6 (v7,v8)=>⟨X::X::X::yi a3::dd 5 (yr 30 0::X::X::yO 12 D.i v8::dd 30 (Kj v4::yi (v4.length:Int)::yi (i6:Int)::dd 20 ([]))),nn 12 (yR 3 1 D.i v8::nn 17 (yB (vZ.av v7)::nn 35 ([])))⟩) ?_ ?_ ?_
  ·exact wk
  ·rintro⟨v7,v8⟩ K9 h;refine vX ?_;refine M8 Tv ?_;exact vu h
  rintro _ i6 F ⟨v7,v8⟩ K9 b6 c6 e6 h ah;refine vX ?_;refine Ea (IC b6) ?_;refine vX ?_;refine⟨D6 (f:=xN.fv) b6,xN.fv F,c6,rfl,?_⟩;refine Ap h (λ(ag,ae)=>⟨X::X::X::yi a3::dd 5 (yr 30 0::X::X::yO 12 D.i v8::X::yr 14 0::dd 28 (Kj v4::yi (v4.length:Int)::yi (i6:Int)::dd 12 (yb ag::dd 7 ([])))),nn 12 (yR 3 1 D.i v8::N::yB (xN.av F)::nn 15 (yB (vZ.av ae)::nn 35 ([])))⟩) ?_ ?_
  ·intro _ h;refine⟨v8.length,JZ,?_⟩;refine G9 h λh=>?_;(conv=>whnf);by_cases K:(F.vw==245)=true
   ·replace h:=Lu K h;revert h;obtain⟨b0,ai⟩:=F;have K:ai=245:=eq_of_beq K;subst K;intro h;refine Ah h (λ_=>P4.ok) ?_;rintro⟨_,_⟩ h;exact vu h
   replace h:=LC K h;by_cases M:(F.vw==247)=true
   ·replace h:=Lu M h;revert h;obtain⟨ba,aj⟩:=F;have M:aj=247:=eq_of_beq M;subst M;intro h;refine Ah h (λ_=>Qg.ok) ?_;rintro⟨_,_⟩ h;exact vu h
   replace h:=LC M h;by_cases P:(F.vw==249)=true
   ·replace h:=Lu P h;revert h;obtain⟨bb,ak⟩:=F;have P:ak=249:=eq_of_beq P;subst P;intro h;refine Ah h (λ_=>Q0.ok) ?_;rintro⟨_,_⟩ h;exact vu h
   replace h:=LC P h;by_cases Q:(F.vw==251)=true
   ·replace h:=Lu Q h;revert h;obtain⟨bc,al⟩:=F;have Q:al=251:=eq_of_beq Q;subst Q;intro h;refine Ah h (λ_=>P2.ok) ?_;rintro⟨_,_⟩ h;exact vu h
   replace h:=LC Q h;by_cases U:(F.vw==253)=true
   ·replace h:=Lu U h;revert h;obtain⟨bd,an⟩:=F;have U:an=253:=eq_of_beq U;subst U;intro h;refine Ah h (λ_=>QL.ok) ?_;rintro⟨_,_⟩ h;exact vu h
   replace h:=LC U h;by_cases V:(F.vw==256)=true
   ·replace h:=Lu V h;revert h;obtain⟨be,ao⟩:=F;have V:ao=256:=eq_of_beq V;subst V;intro h;refine Ah h (λ_=>LX.ok) ?_;rintro⟨_,_⟩ h;exact vu h
   replace h:=LC V h;by_cases Y:(F.vw==257)=true
   ·replace h:=Lu Y h;revert h;obtain⟨bf,ap⟩:=F;have Y:ap=257:=eq_of_beq Y;subst Y;intro h;refine Ah h (λ_=>NZ.ok) ?_;rintro⟨_,_⟩ h;exact vu h
   replace h:=LC Y h;by_cases Z:(F.vw==258)=true
   ·replace h:=Lu Z h;revert h;obtain⟨bg,aq⟩:=F;have Z:aq=258:=eq_of_beq Z;subst Z;intro h;refine Ah h (λ_=>P9.ok) ?_;rintro⟨_,_⟩ h;exact vu h
   replace h:=LC Z h;by_cases a6:(F.vw==260)=true
   ·replace h:=Lu a6 h;revert h;obtain⟨bh,ar⟩:=F;have a6:ar=260:=eq_of_beq a6;subst a6;intro h;refine Ah h (λ_=>QQ.ok) ?_;rintro⟨_,_⟩ h;exact vu h
   replace h:=LC a6 h;by_cases a7:(F.vw==263)=true
   ·replace h:=Lu a7 h;revert h;obtain⟨bi,au⟩:=F;have a7:au=263:=eq_of_beq a7;subst a7;intro h;refine Ah h (λ_=>QY.ok) ?_;rintro⟨_,_⟩ h;exact vu h
   replace h:=LC a7 h;by_cases a8:(F.vw==265)=true
   ·replace h:=Lu a8 h;revert h;obtain⟨bj,ax⟩:=F;have a8:ax=265:=eq_of_beq a8;subst a8;intro h;refine Ah h (λ_=>ME.ok) ?_;rintro⟨_,_⟩ h;exact vu h
   replace h:=LC a8 h;by_cases aa:(F.vw==266)=true
   ·replace h:=Lu aa h;revert h;obtain⟨bk,ay⟩:=F;have aa:ay=266:=eq_of_beq aa;subst aa;intro h;refine Ah h (λ_=>QS) ?_;rintro⟨_,_⟩ h;exact vu h
   replace h:=LC aa h;by_cases ab:(F.vw==269)=true
   ·replace h:=Lu ab h;revert h;obtain⟨bl,az⟩:=F;have ab:az=269:=eq_of_beq ab;subst ab;intro h;refine Ah h (λ_=>PX.ok) ?_;rintro⟨_,_⟩ h;exact vu h
   replace h:=LC ab h;exact nomatch h
  rintro⟨ag,ae⟩ h;refine Ap h (λaf=>⟨X::X::X::yi a3::dd 5 (yr 30 0::X::X::yO 12 D.i af::dd 30 (Kj v4::yi (v4.length:Int)::yi (i6:Int)::dd 20 ([]))),nn 12 (yR 3 1 D.i af::nn 17 (yB (vZ.av ae)::nn 35 ([])))⟩) ?_ ?_
  ·intro _ h;refine G9 h λh=>?_;refine⟨rfl,?_⟩;refine Ev (f:=D.i) h rfl λ_ h=>?_;exact vu h
  rintro af h;refine⟨_,e6,?_⟩;exact ah _ _ wk h
 rintro v5 h;(conv=>whnf);refine .inl ?_;(conv=>whnf);refine .inl ?_;refine⟨rfl,?_⟩;exact fin h
def Tz {F:vV}{H:lf}{J:oA}{r:Int}(h:Hm F H J=some r):Ao (Wl True) Xa9 54 [AV.d (vV.fv F),AV.d (lf.fv H),AV.d (oA.fv J)] [] (.d (D.i r)) []:=by
 refine oK Tryz.f54 ⟨rfl,?_⟩;unfold Hm at h;(conv=>whnf);refine Ah h (λ_=>QA) λv1 h=>?_;refine⟨v1.length,X10 _,?_⟩;refine vX ?_;refine CN h ?_ ?_<;>intro h
 ·(conv=>whnf);refine QD h (λ_=>rfl) λ_ h=>?_;exact fin h
 exact fin h
instance Rn {F:ls}:CK (CB F) 57 [ed F] [] ed oN:=Wf 0 Tryz.f57 λh=>by unfold CB at h;exact Wg (.y 9 9 (.k (λv1=>⟨[(1,yr 1 0),(2,yr 2 0)],[(1,yB [AV.d (D.i F.lf.tS),AV.d (D.s F.lf.Set),AV.d (D.i F.lf.tb),AV.d (D.i F.lf.tv),AV.d (D.l 3 Addr.fv F.lf.oT),AV.d (D.b F.Up),AV.d (D.l 18 gD.fv F.gD),yi v1]),(2,yB ls.zv)]⟩))) h
end Go.AX.Q25
end
