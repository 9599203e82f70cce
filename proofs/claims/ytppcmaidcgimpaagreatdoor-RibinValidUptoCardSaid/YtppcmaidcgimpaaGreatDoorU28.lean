/-
  Texts of one proof, packed.
-/
import Derived.Test.YtppcmaidcgimpaaGreatDoorU15
import Derived.Test.YtppcmaidcgimpaaGreatDoorU16
import Derived.Test.YtppcmaidcgimpaaGreatDoorU18
import Derived.Test.YtppcmaidcgimpaaGreatDoorU27
import Derived.Test.YtppcmaidcgimpaaGreatDoorU8
import Derived.Shelf.SlSortCmp.NoneTotal
set_option linter.all false
set_option maxRecDepth 100000
set_option maxHeartbeats 4000000
open List renaming length_map→X10,length_append→X11,getElem?_eq_getElem→X15,length_drop→X17,length_take→X18,length_replicate→X20,length_set→X21
open Option.some renaming injEq→X24,inj→X25
open Prod.mk renaming injEq→X26
open Nat renaming mul_le_mul_right→X31,add_mul→X32
open List renaming map→Xa1,range→Xbv
open Go renaming maxLen→Xb3,undef→Xck,Program→Xcv
open Array renaming range→Xeb
open Go.Shelf renaming Ren→Xe9
section
namespace Go.AX.Q25
open Go Go.AX Go.AX.xP
def o9 {l:I gD}{i:Int}{x y:gD}(h:y∈l.set i.toNat x):y=x\/y∈l:=List.mem_or_eq_of_mem_set h |>.symm
def Xb {b:ls}(U:yH b)(hs:b.lf.Set.size<=Xb3){w a y:Int}:Ok (GR b w a y) λr=>yH r/\r.lf.Set.size<=Xb3:=by
 unfold GR;rw[J2 U.zh,AA];have hl:=U.h;refine .bind (E4 (by omega)) λv2 ae=>?_;have aa :∀{l:I gD},(l.length=b.gD.length/\∀x∈l,xH x.oA.gE)->∀{p:Int} {m:Int} {u:C} {t:Int},yH ⟨{ b.lf with tS:=p,tb:=m },u,l,t⟩/\b.lf.Set.size<=Xb3:=
  λh=>⟨⟨by dsimp only;omega,U.n,h.2⟩,hs⟩
 have J:b.gD.length=b.gD.length/\∀x∈b.gD,xH x.oA.gE:=⟨rfl,U.a⟩;refine .join (λq:Int×Int×C×Int×(I gD)=>q.2.2.2.2.length=b.gD.length/\∀x∈q.2.2.2.2,xH x.oA.gE) (λk hk=>?_) λq F=>.ret (aa F);refine .ite (λ_=>.bind (E4 (by omega)) λv4 _=>hk _ J) λ_=>?_;refine .join (λq:Int×Int×C×(I gD)=>q.2.2.2.length=b.gD.length/\∀x∈q.2.2.2,xH x.oA.gE) (λk5 V=>?_) λq F=>hk _ F;refine .ite (λ_=>V _ J) λ_=>?_;refine .join (λq:Int×Int×(I gD)=>q.2.2.length=b.gD.length/\∀x∈q.2.2,xH x.oA.gE) (λk6 Y=>?_) λq F=>V _ F;refine .ite (λ_=>.bind (E4 (by omega)) λv7 _=>Y _ J) λ_=>?_;refine .join (λq:Int×(I gD)=>q.2.length=b.gD.length/\∀x∈q.2,xH x.oA.gE) (λk8 Z=>?_) λq F=>Y _ F;refine .ite (λ_=>Z _ J) λ_=>?_;refine .ite (λ_=>.ret ⟨U,hs⟩) λab=>?_;have a1:1<=(b.gD.length:Int):=by
  have:¬ (b.gD.length:Int)=0:=by simpa using ab
  omega
 refine .bind (E4 ⟨a1,by omega⟩) λv9 af=>.bind (.mu (by omega)) λa6 a7=>.bind (E4 (by omega)) λag _=>?_;have hx:=U.a a6 a7.1
 have H :∀{z:gD},z.oA.gE=a6.oA.gE->Ok (wj b.gD v9 z) λl=>l.length=b.gD.length/\∀x∈l,xH x.oA.gE:=λ{z} e=>(Ok.wj (by omega)).imp λl h=>⟨h.2,λx a8=>by
  rw[h.1] at a8;rcases o9 a8 with e'|h'
  ·rw[e',e];exact hx
  exact U.a x h'⟩
 refine .join (λl:I gD=>l.length=b.gD.length/\∀x∈l,xH x.oA.gE) (λah K=>?_) λq F=>Z _ F;refine .ite (λ_=>.bind (H rfl) λl h=>K _ h) λ_=>?_;refine .join (λl:I gD=>l.length=b.gD.length/\∀x∈l,xH x.oA.gE) (λai M=>?_) λq F=>K _ F;refine .ite (λ_=>.bind (E4 (by omega)) λaj _=>.bind (H rfl) λl h=>M _ h) λ_=>?_;refine .join (λl:I gD=>l.length=b.gD.length/\∀x∈l,xH x.oA.gE) (λak P=>?_) λq F=>M _ F;refine .ite (λ_=>.bind (H rfl) λl h=>P _ h) λ_=>?_;refine .join (λl:I gD=>l.length=b.gD.length/\∀x∈l,xH x.oA.gE) (λal Q=>?_) λq F=>P _ F;exact .ite (λ_=>.bind (E4 (by omega)) λan _=>.bind (H rfl) λl h=>Q _ h) λ_=>Q _ J
def ok_eq {ρ:Type}{m:O ρ}{r:ρ}(h:Ok m λx=>x=r):m=some r:=by obtain⟨x,F,H⟩:=h;rw[F,H]
def mV (Z:ls)(J:tT)(a2:I Int)(a3 a4 a5:Int)(h0:ls.wM Z)(h1:tT.wM J)(h2:a2.length<=Xb3/\a2.length<=1048576/\∀a∈a2,wv a)(_:wv a3)(_:wv a4)(_:wv a5):FN Z J a2 a3 a4 a5=some true:=by
 refine ok_eq ?_;unfold FN;obtain⟨v,hv,a6⟩:=XQ h0;refine .join (λq=>q=false->(yH Z/\Z.lf.Set.size<=Xb3)/\yU J) (λk hk=>?_) λq hq=>?_
 ·rw[hv,AA];refine .ite (λ_=>hk _ λe=>by cases e) λa7=>?_;rw[OL,AA];refine .ite (λ_=>hk _ λe=>by cases e) λa8=>.ite (λ_=>hk _ λe=>by cases e) λaa=>hk _ λab=>?_;have e1:v=true:=by simpa using a7
  have e2:Rz J.gE=true:=by simpa using a8
  have e3:J.fT.length<=60:=by
   have:¬ (J.fT.length:Int)>60:=by simpa using aa
   omega
  have e4:J.gS.length<=60:=by
   have:¬ (J.gS.length:Int)>60:=by simpa using ab
   omega
  exact⟨a6 e1,W3 h1.2.1 (by rw[OL,e2]),by omega,by omega⟩
 refine .ite (λ_=>by rw[G1,AA];exact .ret rfl) λae=>?_;obtain⟨⟨af,ag⟩,ah⟩:=hq (by simpa using ae);unfold Gp;rw[AA];refine .bind (XR (YL h2.1)) ?_;rintro⟨f,b,d⟩ ⟨hf,hb,F⟩;dsimp only at hf hb F⊢;have K:=hb.v.zA;refine .bind (Xb K hb.sz) λsp ai=>?_;refine .join (λ_=>True) (λaj M=>?_) λ_ _=>by rw[G1,AA];exact .ret rfl
 refine .z7 (λ_ d=>Dk d) F (λ_ _=>M _ trivial) λnext x i d hi hx F hn=>?_;have H:yH x/\x.lf.Set.size<=Xb3:=by
  simp only[Xa3,Xbs,Xel] at hx;rcases hx with rfl|rfl|rfl
  ·exact⟨K,hb.sz⟩
  ·exact⟨af,ag⟩
  exact ai
 refine .join (λd=>Dk d) (λak P=>?_) λd F=>hn _ F;refine .bind (Rw F) ?_;rintro⟨u,d⟩ ⟨⟨hu,_,_⟩,F⟩;dsimp only at hu F⊢;refine .bind (Rw F) ?_;rintro⟨u2,d⟩ ⟨⟨Q,_,_⟩,F⟩;dsimp only at Q F⊢;refine .join (λ_=>True) (λal U=>?_) λ_ _=>P _ F;refine .for_ (λ_=>U _ trivial) λnext y i s hi hy hn=>?_;have V:yU y:=by
  simp only[Xa3,Xbs,Xel] at hy;rcases hy with rfl|rfl|rfl
  ·exact hu
  ·exact ah
  exact Q
 rw[Qp hf.CD H.1 H.2 V,AA,NT hf.CD H.1 H.2 V,AA];refine .join (λq=>q=false) (λan Y=>.ite (λh=>absurd h (by simp)) λ_=>?_) λq hq=>.ite (λh=>by rw[hq] at h;cases h) λ_=>hn _;rw[PH,AA];exact Y _ rfl
end Go.AX.Q25
end
section
namespace Go.AX.Q25
open Go Go.AX Go.Proofs
variable {wl:Prop}
instance WX {F:gE}:CK (DD F) 9 [ed F] [] ed oN:=Wf 0 Tryz.f9 λh=>by unfold DD at h;exact Wg (.y 48 48 (.c (.f0 20 2 oF.fv (λH J=>⟨[(1,yr 1 0),(3,yi J),(20,AV.d (D.l 2 oF.fv F.Path)),(21,yi (F.Path.length:Int)),(22,yi (H:Int))],[(1,yB (gE.av F))]⟩)) (λv1=>⟨[(1,yr 1 0),(3,yi v1)],[(1,yB (gE.av F))]⟩) λv1=>.a (.f0 34 3 gH.fv (λK M=>⟨[(1,X),(3,yi M),(34,AV.d (D.l 3 gH.fv F.iX)),(35,yi (F.iX.length:Int)),(36,yi (K:Int))],[(1,N)]⟩)) (λP=>⟨[(1,X),(3,yi P)],[(1,N)]⟩))) h
instance NB {F:ls}:CK (GQ F) 8 [ed F] [] ed oN:=Wf 0 Tryz.f8 λh=>by unfold GQ at h;exact Wg (.y 29 29 (.c (.f0 6 18 gD.fv (λH _=>⟨[(1,yr 1 0),(6,AV.d (D.l 18 gD.fv F.gD)),(7,yi (F.gD.length:Int)),(8,yi (H:Int))],[(1,yB (ls.av F))]⟩)) (λ_=>⟨[(1,yr 1 0)],[(1,yB (ls.av F))]⟩) λ_=>.k (λJ=>⟨[(1,X),(2,yb J)],[(1,N)]⟩))) h
instance WT {F:ls}:CK (G2 F) 56 [ed F] [] ed oN:=Wf 0 Tryz.f56 λh=>by
 refine⟨rfl,?_⟩;unfold G2 at h;refine⟨F.gD.length,X10 _,?_⟩;refine Ap h (λv1=>⟨X::yr 1 0::X::yr 3 0::dd 43 ([]),N::yB (ls.av F)::N::yB (ye.av v1)::nn 43 ([])⟩) ?_ ?_
 ·intro _ h;revert h;refine Bi 7 18 gD.fv rfl (λH J=>⟨X::yr 1 0::X::yr 3 0::X::X::X::AV.d (D.l 18 gD.fv F.gD)::yi (F.gD.length:Int)::yi (H:Int)::dd 37 ([]),N::yB (ls.av F)::N::yB (ye.av J)::nn 43 ([])⟩) ?_ ?_ ?_
  ·exact wk
  ·rintro J P h;exact Wg (.e .z) h
  rintro _ H Q J P b2 c2 e2 h U;refine vX ?_;refine Ea (IC b2) ?_;refine vX ?_;refine⟨D6 (f:=gD.fv) b2,gD.fv Q,c2,rfl,?_⟩;refine Ap h (λK=>⟨X::yr 1 0::X::yr 3 0::X::X::X::AV.d (D.l 18 gD.fv F.gD)::yi (F.gD.length:Int)::yi (H:Int)::dd 37 ([]),N::yB (ls.av F)::N::yB (ye.av K)::nn 43 ([])⟩) ?_ ?_
  ·intro _ h;refine CN h ?_ ?_<;>intro h
   ·(conv=>whnf);refine .inl ⟨by decide,?_⟩;refine⟨_,rfl,?_⟩;(conv=>whnf);refine .inl ⟨by decide,?_⟩;exact vu h
   (conv=>whnf);refine .inl ⟨by decide,?_⟩;refine⟨_,rfl,?_⟩;(conv=>whnf);refine .inl ⟨by decide,?_⟩;exact vu h
  rintro K h;exact Wg .z h
 rintro v1 h;refine Ap h (λM=>⟨X::X::yb M::dd 44 ([]),nn 47 ([])⟩) ?_ ?_
 ·intro _ h;(conv=>whnf);refine .inl ⟨by decide,?_⟩;refine G9 h λh=>?_;(conv=>whnf);refine .inl ⟨by decide,?_⟩;exact Wg .z h
 rintro M h;exact fin h
instance {F:Int} {H:Int} {J:Int}:CK (BK F H J) 89 [ed F,ed H,ed J] [] ed oN:=Wf 0 Tryz.f89 λh=>by unfold BK at h;exact Wg (.y 15 15 (.k (λv1=>⟨[(6,yb v1)],[]⟩))) h
instance WC {F:Addr}:CK (Ff F) 144 [ed F] [] ed oN:=Wf 0 Tryz.f144 λh=>by unfold Ff at h;exact Wg (.y 15 15 (.k (λv1=>⟨[(2,yb v1)],[]⟩))) h
instance {F:Addr}:CK (D7 F) 143 [ed F] [] ed oN:=Wf 0 Tryz.f143 λh=>by unfold D7 at h;exact Wg .z h
instance {F:I Addr}:CK (Aq F) 205 [ed F,AV.fn 143 []] [] ed oN:=Wf 0 Tryz.f205 λh=>by unfold Aq at h;exact Wg (.y 19 19 (.a (.f0 6 3 Addr.fv (λH _=>⟨[(0,y0 F),(1,AV.fn 143 []),(6,y0 F),(7,yi (F.length:Int)),(8,yi (H:Int))],[]⟩)) (λ_=>⟨[],[]⟩))) h
instance {F:I Addr}:CK (Aa F) 142 [ed F,AV.fn 143 []] [] ed oN:=Wf 0 Tryz.f142 λh=>by unfold Aa at h;exact Wg .z h
instance {F:lf}:CK (Cd F) 73 [ed F] [] ed oN:=Wf 0 Tryz.f73 λh=>by unfold Cd at h;exact Wg (.y 28 28 (.k (λv1=>⟨[(2,yb v1)],[]⟩))) h
instance {F:gD}:CK (Gs F) 146 [ed F] [] ed oN:=Wf 0 Tryz.f146 λh=>by unfold Gs at h;exact Wg .z h
instance {F:I gD}:CK (A2 F) 159 [ed F,AV.fn 146 []] [] ed oN:=Wf 0 Tryz.f159 λh=>by unfold A2 at h;exact Wg (.y 19 19 (.a (.f0 6 18 gD.fv (λH _=>⟨[(0,y1 F),(1,AV.fn 146 []),(6,y1 F),(7,yi (F.length:Int)),(8,yi (H:Int))],[]⟩)) (λ_=>⟨[],[]⟩))) h
instance {F:I gD}:CK (Ax F) 145 [ed F,AV.fn 146 []] [] ed oN:=Wf 0 Tryz.f145 λh=>by unfold Ax at h;exact Wg .z h
instance {F:I gD}:CK (HN F) 74 [ed F] [] ed oN:=Wf 0 Tryz.f74 λh=>by unfold HN at h;exact Wg .z h
instance {F:Addr}:CK (BZ F) 147 [ed F] [] ed oN:=Wf 0 Tryz.f147 λh=>by unfold BZ at h;exact Wg .z h
instance {F:Int}:CK (Gg F) 206 [ed F] [] e2 oN:=Wf 0 Tryz.f206 λh=>by unfold Gg at h;exact Wg .z h
instance {F:Addr} {H:Int}:CK (EQ F H) 148 [ed F,ed H] [] ed oN:=Wf 0 Tryz.f148 λh=>by unfold EQ at h;exact Wg .z h
instance {F:fI}:CK (Bw F) 75 [ed F] [] ed oN:=Wf 0 Tryz.f75 λh=>by unfold Bw at h;exact Wg (.y 29 29 (.k (λv1=>⟨[(2,yb v1)],[]⟩))) h
instance {F:I Int}:CK (FB F) 149 [ed F] [] ed oN:=Wf 0 Tryz.f149 λh=>by unfold FB at h;exact Wg (.y 18 18 (.a (.f0 6 1 D.i (λH _=>⟨[(3,yi 0),(6,y2 F),(7,yi (F.length:Int)),(8,yi (H:Int))],[]⟩)) (λ_=>⟨[(3,yi 0)],[]⟩))) h
instance {F:Int}:CK (cmp_isNaN_int F) 209 [ed F] [] ed oN:=Wf 0 Tryz.f209 λh=>by unfold cmp_isNaN_int at h;exact Wg .z h
instance {F:Int} {H:Int}:CK (rv F H) 151 [ed F,ed H] [] ed oN:=Wf 0 Tryz.f151 λh=>by unfold rv at h;exact Wg .z h
instance {F:Addr}:CK (HU F) 207 [ed F] [] ed oN:=Wf 0 Tryz.f207 λh=>by unfold HU at h;exact Wg .z h
instance {F:j}:CK (Ey F) 277 [ed F] [] ed oN:=Wf 0 Tryz.f277 λh=>by unfold Ey at h;exact Wg .z h
instance {F:j} {H:j}:CK (Cc F H) 208 [ed F,ed H] [] ed oN:=Wf 0 Tryz.f208 λh=>by unfold Cc at h;exact Wg .z h
instance {F:Addr} {H:Addr}:CK (NL F H) 150 [ed F,ed H] [] ed oN:=Wf 0 Tryz.f150 λh=>by unfold NL at h;exact Wg .z h
instance {F:fI} {H:fI}:CK (Ft F H) 76 [ed F,ed H] [] ed oN:=Wf 0 Tryz.f76 λh=>by unfold Ft at h;exact Wg .z h
instance {F:Int} {H:Int} {J:Int}:CK (Bg F H J) 152 [ed F,ed H,ed J] [] ed oN:=Wf 0 Tryz.f152 λh=>by unfold Bg at h;exact Wg (.y 15 15 (.k (λv1=>⟨[(6,yb v1)],[]⟩))) h
instance {F:Int}:CK (CO F) 154 [ed F] [] ed oN:=Wf 0 Tryz.f154 λh=>by unfold CO at h;exact Wg (.y 9 9 (.k (λv1=>⟨[(2,yb v1)],[]⟩))) h
instance {F:I oF}:CK (FG F) 153 [ed F] [] ed oN:=Wf 0 Tryz.f153 λh=>by unfold FG at h;exact Wg (.y 75 75 (.a (.f 8 2 oF.fv (λM J=>⟨[(0,y3 F),(3,yi J),(8,y3 F),(9,yi (F.length:Int)),(10,yi (M:Int))],[]⟩) (λJ M H=>.a (.d (λP=>⟨[(5,yr 5 0),(36,yb P)],[(5,yB (oF.av H))]⟩) λP=>.b .z (.a (.f 38 1 D.i (λQ _=>⟨[(36,X),(38,AV.d (D.l 1 D.i H.o3)),(39,yi (H.o3.length:Int)),(40,yi (Q:Int))],[]⟩) (λ_ Q U=>.g (.k (λK=>⟨[(65,yb K)],[]⟩)))) (λ_=>⟨[(36,X)],[]⟩))) (λ_=>⟨[(3,yi (AO (J+(H.o3.length:Int))))],[]⟩))) (λv1=>⟨[(3,yi v1)],[]⟩))) h
instance {F:I Int}:CK (Dy F) 311 [ed F] [] ed oN:=Wf 0 Tryz.f311 λh=>by
 refine⟨rfl,?_⟩;unfold Dy at h;refine⟨F.length,X10 _,?_⟩;refine vX ?_;refine CN h ?_ ?_<;>intro h
 ·exact nomatch h
 exact Wg (.y 25 25 (.a (.w0 (u2 λv2 H=>⟨[(0,y2 F),(3,yi v2),(4,yi H)],[]⟩)) (λv1=>⟨[(3,yi v1)],[]⟩))) h
instance {F:I Int}:CK (D2 F) 312 [ed F] [] ed oN:=Wf 0 Tryz.f312 λh=>by
 refine⟨rfl,?_⟩;unfold D2 at h;refine⟨F.length,X10 _,?_⟩;refine vX ?_;refine CN h ?_ ?_<;>intro h
 ·exact nomatch h
 exact Wg (.y 25 25 (.a (.w0 (u2 λv2 H=>⟨[(0,y2 F),(3,yi v2),(4,yi H)],[]⟩)) (λv1=>⟨[(3,yi v1)],[]⟩))) h
instance {F:Int} {H:I Int}:CK (Do F H) 278 [ed F,ed H] [] ed oN:=Wf 0 Tryz.f278 λh=>by unfold Do at h;exact Wg (.y 14 14 (.k (λv1=>⟨[(4,yb v1)],[]⟩))) h
instance {F:qv}:CK (GB F) 211 [ed F] [] ed oN:=Wf 0 Tryz.f211 λh=>by unfold GB at h;exact Wg (.m .z) h
instance {F:qv} {H:qv}:CK (Hv F H) 212 [ed F,ed H] [] ed oN:=Wf 0 Tryz.f212 λh=>by unfold Hv at h;exact Wg .z h
instance {F:I qv}:CK (Ae F) 210 [ed F,AV.fn 211 [],AV.fn 212 []] [] ed oN:=Wf 0 Tryz.f210 λh=>by unfold Ae at h;exact Wg (.y 39 39 (.a (.f 9 2 qv.fv (λH _=>⟨[(0,y4 F),(1,AV.fn 211 []),(2,AV.fn 212 []),(9,y4 F),(10,yi (F.length:Int)),(11,yi (H:Int))],[]⟩) (λ_ H K=>.g (.k (λJ=>⟨[(34,yb J)],[]⟩)))) (λ_=>⟨[(0,y4 F)],[]⟩))) h
instance {F:I qv}:CK (EI F) 155 [ed F] [] ed oN:=Wf 0 Tryz.f155 λh=>by unfold EI at h;exact Wg .z h
instance {F:oB}:CK (DU F) 214 [ed F] [] ed oN:=Wf 0 Tryz.f214 λh=>by unfold DU at h;exact Wg (.m .z) h
instance {F:oB} {H:oB}:CK (FI F H) 215 [ed F,ed H] [] ed oN:=Wf 0 Tryz.f215 λh=>by unfold FI at h;exact Wg .z h
end Go.AX.Q25
end
section
namespace Go.AX
open Go.Proofs Go.Sort Go.Shelf Go.RowKit
def oW {F:Array A}{v u:A}(J:F.size=2)(h:F.getD 0 Xck=v)(H:F.getD 1 Xck=u):F=#[v,u]:=by
 match F,J with
 | ⟨[a,b]⟩,_=>simp at h H;rw[h,H]
def JK {α:Type}[Inhabited α](enc:α->I A)(k:Nat)(w:B)(F off n:Nat)(d:Array α)(os:Array Obj)(K:F<w.heap.size) : (∀b,b<w.heap.size->b≠F->(sortWorldK enc k w F off n d os).heap[b]?=w.heap[b]?)/\w.heap.size<=(sortWorldK enc k w F off n d os).heap.size/\ (∀H e fr,w.heap[F]?=some (.cells H e fr)->(sortWorldK enc k w F off n d os).heap[F]?=some (.cells (putCells id off (flatK enc k d) H) e fr))/\ (sortWorldK enc k w F off n d os).os=w.os/\(sortWorldK enc k w F off n d os).output=w.output/\(sortWorldK enc k w F off n d os).tape=w.tape/\w.drawn<=(sortWorldK enc k w F off n d os).drawn:=by
 have J:(sortWorldK enc k w F off n d os).heap=(w.heap.modify F (onCells (putCells id off (flatK enc k d))))++os:=rfl;refine⟨λb M P=>?_,?_,λH e fr h=>?_,rfl,rfl,rfl,Nat.le_add_right _ _⟩
 ·rw[J,Xco (by simpa using M),Array.getElem?_modify,Wm (Ne.symm P)]
 ·rw[J];simp
 rw[J,Xco (by simpa using K),Array.getElem?_modify,Wr rfl,h];rfl
def pA {W w':B}(hp :∀b,b<W.heap.size->w'.heap[b]?=W.heap[b]?)(sz:W.heap.size<=w'.heap.size)(os:w'.os=W.os)(out:w'.output=W.output)(tape:w'.tape=W.tape)(dr:W.drawn<=w'.drawn) : ∃q J,w'=grow (W.drewN q) J:=by
 refine⟨w'.drawn-W.drawn,w'.heap.extract W.heap.size w'.heap.size,?_⟩;obtain⟨H,V,M,Y,u1⟩:=w';obtain⟨F,Z,P,o2,u2⟩:=W;simp only at hp sz os out tape dr;subst os out tape;have K:H=F++H.extract F.size H.size:=by
  apply Array.ext_getElem?;intro i;by_cases Q:i<F.size
  ·rw[Xco Q];exact hp i Q
  rw[Array.getElem?_append_right (by omega),Array.getElem?_extract];by_cases U:i<H.size
  ·rw[Wr (by omega),show F.size+(i-F.size)=i by omega]
  rw[Wm (by omega),Array.getElem?_eq_none (by omega)]
 have hd:M=P+(M-P):=by omega
 unfold grow World.drewN;simp only;congr 1
def Y4 {wl:WL}{P:Xcv}{ρ:Xe9}{X:Type}{f:X->D}{cmp:X->X->O Int}{g k e:Nat}(L:SlLaysF0.n6 P ρ)(hf:bW P (ρ.f 6))(aE :∀w,(isAgg (ρ.t 24)).run P w=.ok true w)(zE :∀w,(Go.sizeOf (ρ.t 24)).run P w=.ok k w) (eg :∀args w,(callFunc g args).run P w=.ok (.enter g args) w) (ax :∀x,(f x).isAgg=true) (ay :∀{a b r},cmp a b=some r->Ao wl.low P g [.d (f a),.d (f b)] [] (.i r) []) {l r:I X} (h:Gv cmp l=some r):Ao wl P (ρ.f 6) [.own 0 (Xa1 f l).length,.fn g []] [.row e k (Xa1 f l) .no] (.wx []) [.row e k (Xa1 f r) .no]:=by
 refine⟨hf,λw S φ gb hg ak hs hr hn m=>?_⟩;have r0:=(hr 0 (by simp)).1;have r1:=(hr 1 (by simp)).1;simp only[Xaz,List.getElem_cons_succ] at r0 r1;have hv:=oW hs rfl rfl;generalize ak.getD 0 Xck=v0 at r0 hv;generalize ak.getD 1 Xck=v1 at r1 hv;cases r1 with|fn _ _ bj _ bk _ _=>
 obtain rfl:bj=#[]:=Array.eq_empty_of_size_eq_zero (by simpa using bk);cases r0 with|own _ _ _ kk c a0 bl a7 h1 hb=>
 have ao:vi [OB.row e k (Xa1 f l) .no] 0=some (.row e k (Xa1 f l) .no):=rfl;obtain⟨_,a8⟩:=h1 _ _ _ _ ao;have a8:=a8 rfl;have az:=m.obj 0 _ ao;obtain⟨g0,g1,g2,g3⟩:=az;have bm :∀r',vi [OB.row e k (Xa1 f r') .no]=vd (vi [OB.row e k (Xa1 f l) .no]) 0 (some (.row e k (Xa1 f r') .no)):=by
  intro r';funext q;match q with
  | 0=>simp[vi]
  | q+1=>simp[vi,vd]
 by_cases hl:0<l.length;rotate_left
 ·
  have bn:l=[]:=Xar (by omega);subst bn;obtain⟨hp,_⟩:=M3 h;obtain rfl:r=[]:=hp.eq_nil;obtain⟨p,F,bo⟩ :∃p F,v0=.slice p 0 F:=by rw[bl,a7];exact⟨_,_,rfl⟩
  rw[hv,bo];refine (AnyF.slices_SortFunc_none L p F _ w).mono λe' w' ⟨he,hw⟩=>⟨_,he,S,φ,hw▸m,hw▸.refl _ _ _ _,.wx [] #[] (λ_=>Xck) rfl (λi H=>by simp at H) (λi H=>by simp at H),λq hq=>by simp[AV.refs,AV.refs.refsL] at hq⟩
 rcases g3 with ⟨_,al⟩|⟨b,F,vs,f0,f1,f2,f3,f4,f5,f6,f7,f8⟩
 ·simp at al;subst al;simp at hl
 obtain⟨b0,ba⟩:=XM h hl;have ae:Xj cmp l=true:=by
  unfold Gv at h;split at h
  ·assumption
  simp at h
 obtain⟨an,bi,_⟩:=Rj ae hl;have bb:v0=.slice (some ⟨b,F.2,none⟩) l.length F.1:=by
  rcases a8 with ⟨Y,_⟩|⟨K,c3,Y,ap⟩
  ·rw[f1] at Y;simp at Y
  rw[f1] at Y;simp only[X24,X26] at Y;obtain⟨rfl,rfl⟩:=Y;rw[ap];simp
 have af:=(m.ow 0 b F (by simp[vi]) f1).1;let Z:Nat->Nat:=λi=>min i (l.length-1);have ag :∀i,Z i<l.length:=λi=>by simp only[Z];omega
 let J:Nat->I A:=λi=>(Xbv k).map λj=>f0 (Z i) j;have aq :∀x,(J x).length=k:=λx=>by simp[J]
 have M :∀i (H:i<l.length),(f l[i]).cells.length=k:=λi H=>by have:=g1 i (by simpa using H);simpa using this
 have a1 :∀i (H:i<l.length) j (Q:j<k),∃hj':j<(f l[i]).cells.length,vm S w ((f l[i]).cells[j]'hj') (f0 i j)/\((f l[i]).cells[j]'hj').isAgg=false:=by
  intro i H j Q;have hj':j<(f l[i]).cells.length:=by rw[M i H];exact Q
  refine⟨hj',?_,?_⟩
  ·have:=f7 i (by simpa using H) j (by simpa using hj');simpa using this
  have:=g2 i (by simpa using H) j (by simpa using hj');simpa using this
 have bc :∀x,∀v∈J x,v.oneCell'=true:=by intro x v hv;obtain⟨j,Q,rfl⟩:=Xaf.1 hv;obtain⟨hj',h2,h3⟩:=a1 (Z x) (ag x) j (by simpa using Q);exact h2.one h3
 have aa :∀(d:Array Nat) t,t<d.size*k->(flatK J k d)[t]! = f0 (Z d[t/k]!) (t%k):=by intro d t ht;have a7:0<k:=g0;rw[get_flatK _ _ _ _ ht];have:=Nat.mod_lt t a7;simp[J,this]
 have hH:HoldsK J k w b F.2 (Xeb l.length):=by
  intro t ht;have bp:t<l.length*k:=by simpa using ht
  have a7:0<k:=g0;have hq:t/k<l.length:=Nat.div_lt_of_lt_mul (by rwa [Xct]);rw[aa _ t (by simpa using bp)];have h1:(Xeb l.length)[t/k]! = t/k:=by simp[hq]
  have h2:Z (t/k)=t/k:=by simp only[Z];omega
  have h3:=f6 (t/k) (t%k) (by simpa using hq) (Nat.mod_lt t a7);have h4:t/k*k+t%k=t:=by rw[Xct];exact Nat.div_add_mod t k
  rw[h4] at h3;rw[h1,h2];refine⟨?_,?_⟩
  ·simp only[World.cell?,f2,id];exact h3
  simp[World.frozen?,f2]
 have ar :∀(n:Nat) (d:Array Nat) (os:Array Obj),RG S w S (sortWorldK J k w b F.2 n d os):=by intro n d os K o hS;obtain⟨h1,_⟩:=JK J k w b F.2 n d os af;have bq:K≠b:=λhe=>f8.1 o (by simp) (he▸hS);exact⟨hS,C3 (h1 K (m.bS K o hS) bq) o⟩
 have ab :∀{W:B},RG S w S W->∀i (H:i<l.length),vm S W (f l[i]) (.agg ((Xbv k).map λj=>f0 i j).toArray):=by
  intro W hK i H;have ha:=ax l[i];cases U:f l[i] with
  | agg cs=>
   have ah:cs.length=k:=by have:=M i H;rw[U] at this;exact this
   refine .agg cs _ (λj=>f0 i j) (by simp[ah]) (λj Q=>by simp[ah▸Q]) (λj Q=>?_) λj Q=>?_
   ·obtain⟨hj',_,h3⟩:=a1 i H j (ah▸Q);simp only[U,D.cells] at h3;exact h3
   obtain⟨hj',h2,_⟩:=a1 i H j (ah▸Q);simp only[U,D.cells] at h2;exact h2.mono hK
  | val v=>rw[U] at ha;simp[D.isAgg] at ha
  | nil sz=>rw[U] at ha;simp[D.isAgg] at ha
  | wE sz es=>rw[U] at ha;simp[D.isAgg] at ha
 have br :∀x,∃(H:Z x<l.length),J x=(Xbv k).map λj=>f0 (Z x) j:=λx=>⟨ag x,rfl⟩;have au:CmpLays P g #[] J k (zT cmp l) b F.2 (Xeb l.length).size w:=by
  intro q os dk c4 x y;obtain⟨w1,w2,w3,w4,w5,w6,w7⟩:=JK J k w b F.2 q dk os af;have hK:=ar q dk os;generalize hW:sortWorldK J k w b F.2 q dk os=W at *;have hx:=ag x;have hy:=ag y;obtain⟨c1,_⟩:=SU ae;obtain⟨rr,bd⟩:=c1 l[Z x] (Xae hx) l[Z y] (Xae hy);have bu:zT cmp l x y=rr:=by have e1:Bx l x=some l[Z x]:=X15 hx;have e2:Bx l y=some l[Z y]:=X15 hy;unfold zT;rw[e1,e2];simp[bd]
  have ai :∀r,vi [] r=none:=λr=>by simp[vi]
  have bw:xp wl.low gb (KG (λ_:Nat=>(none:O (Nat×Rp))) ([]:I OB).length) S W:=by
   have e :∀K,gb K->W.heap[K]?=w.heap[K]?:=λK V=>w1 K (hg.lt K V) λhe=>hg.pb K V ⟨0,F,by simp,he▸f1⟩;refine⟨wl.ext _ _ _ e hg.gf,λK V=>Xbd (hg.lt K V) w2,?_,λK o V hc=>hg.st K o V ?_⟩
   ·rintro K V ⟨r,c,h1,_⟩;simp at h1
   rw[<- C3 (e K V) o];exact hc
  refine ((ay bd).2 W S (λ_=>none) gb bw (#[.agg (J x).toArray,.agg (J y).toArray]++#[]) (by simp) (λi H=>?_) (λ_ _=>rfl) ⟨λr o ho=>by rw[ai] at ho;simp at ho,λr _ _ _ _ hr=>absurd (ai r) hr,λr o ho=>by rw[ai] at ho;simp at ho,λ_ _ h=>h,λ_ _ _=>rfl,λK o hS=>Xbd (m.bS K o hS) w2,λ_ _ h _ _=>h,λ_ _ _=>rfl,Xam _,λr _ _ hr=>absurd (ai r) hr,⟨rfl,rfl,rfl,.inr (Xam _)⟩⟩).mono λe' w' he=>?_
  ·refine⟨?_,?_⟩
   ·match i,H with
    | 0,_=>exact .d _ _ (ab hK (Z x) hx)
    | 1,_=>exact .d _ _ (ab hK (Z y) hy)
   match i,H with
   | 0,_=>exact BM _ _
   | 1,_=>exact BM _ _
  obtain⟨v,rfl,S',φ',mm,_,ap,_⟩:=he;refine⟨by rw[ap.int,bu],?_⟩;have bx :∀K,¬ KG (λ_:Nat=>(none:O (Nat×Rp))) ([]:I OB).length K:=by rintro K ⟨r,c,h1,_⟩;simp at h1
  refine pA (λK V=>mm.fr K V (bx K)) mm.sz mm.os.1 mm.os.2.1 mm.os.2.2.1 ?_;rcases mm.os.2.2.2 with h|h
  ·exact h.elim
  exact h
 have hc:=AnyQ.slices_SortFunc_eq L k aE zE J aq bc (zT cmp l) (eI ae hl) g #[] b F.2 F.1 (Xeb l.length) w eg au hH af (by
  have:=(SU ae).2.2.2.2
  simp;omega)
 rw[hv,bb];have be:(Xeb l.length).size=l.length:=by simp
 rw[be] at hc;refine hc.mono λe' w' ⟨he,n,os,hw⟩=>?_;have hd:pdq (ltOf (zT cmp l)) (Xeb l.length) 0 l.length (Lib.bitLen l.length) true true=IZ cmp l:=rfl;rw[hd] at hw;obtain⟨w1,w2,w3,w4,w5,w6,w7⟩:=JK J k w b F.2 n (IZ cmp l) os af;rw[<- hw] at w1 w2 w3 w4 w5 w6 w7;have bf:=w3 _ _ _ f2;have aj :∀i (H:i<r.length),∃(hp:(IZ cmp l)[i]!<l.length),r[i]=l[(IZ cmp l)[i]!]:=by intro i H;obtain⟨p1,p2⟩:=ba i (by omega);rw[X15 H,X15 p1] at p2;exact⟨p1,X25 p2⟩
 obtain⟨m2,k2⟩:=m.zj (es':=Xa1 f r) (cur':=putCells id F.2 (flatK J k (IZ cmp l)) vs) (w':=w') ao f1 f2 (by simp[b0])
  (λi H=>by
   have a6:i<r.length:=by simpa using H
   obtain⟨hp,he⟩:=aj i a6;simp only[Xb2,he]
   exact M _ hp)
  (λi H j Q=>by
   have a6:i<r.length:=by simpa using H
   obtain⟨hp,he⟩:=aj i a6;simp only[Xb2,he] at Q⊢;obtain⟨hj',_,h3⟩:=a1 _ hp j (by rw[M _ hp] at Q;exact Q)
   exact h3)
  bf (by simp[putCells]) (λK h1 h2=>w1 K h1 h2) w2 ⟨w4,w5,w6,w7⟩ (λi j=>f0 (IZ cmp l)[i]! j)
  (λi j H Q=>by
   have a6:i<r.length:=by simpa using H
   obtain⟨hp,he⟩:=aj i a6;have bz:i<l.length:=by omega
   have c0:i*k+j<l.length*k:=by have:=X31 k (show i+1<=l.length from bz);rw[X32,Nat.one_mul] at this;omega
   have bg:F.2+(i*k+j)<vs.size:=by
    have h3:l.length<=F.1:=by simpa using f3
    have:=X31 k h3;omega
   have e1:(i*k+j)/k=i:=by rw[Xct,Nat.mul_add_div g0,Nat.div_eq_of_lt Q,Xd4]
   have e2:(i*k+j)%k=j:=by rw[Xct,Nat.mul_add_mod,Xb9 Q]
   have U:=aa (IZ cmp l) (i*k+j) (by rw[an];exact c0);rw[e1,e2] at U;have bh:Z (IZ cmp l)[i]! = (IZ cmp l)[i]!:=by simp only[Z];omega
   rw[bh] at U;simp only[putCells,Array.getElem?_mapIdx,Array.getElem?_eq_getElem bg,Xbf];rw[Wr ⟨by omega,by rw[size_flatK,an];omega⟩,show F.2+(i*k+j)-F.2=i*k+j by omega,U]
   rfl)
  (λi H j Q=>by
   have a6:i<r.length:=by simpa using H
   obtain⟨hp,he⟩:=aj i a6;simp only[Xb2,he] at Q⊢;obtain⟨hj',h2,_⟩:=a1 _ hp j (by rw[M _ hp] at Q;exact Q)
   exact h2)
 rw[<- bm r] at m2 k2;exact⟨_,he,S,φ,m2,k2,.wx [] #[] (λ_=>Xck) rfl (λi H=>by simp at H) (λi H=>by simp at H),λq hq=>by simp[AV.refs,AV.refs.refsL] at hq⟩
end Go.AX
end
