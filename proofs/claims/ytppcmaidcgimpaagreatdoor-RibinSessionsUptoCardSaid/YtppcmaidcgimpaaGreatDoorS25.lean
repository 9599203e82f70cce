/-
  Texts of one proof, packed.
-/
import Derived.Test.YtppcmaidcgimpaaGreatDoorS24
import Derived.KernelRfl
set_option linter.all false
set_option maxRecDepth 100000
set_option maxHeartbeats 4000000
open List renaming length_map→X6,length_append→X10,length_cons→X11,length_nil→X12,mem_singleton→X13,getElem?_eq_getElem→X14,getElem?_eq_some_iff→X15,length_drop→X16,length_take→X17,mem_cons_of_mem→X18,length_replicate→X19,length_set→X20,mem_append→X22
open Option.some renaming inj→X24
open Bool renaming and_eq_true→X26
open Option renaming bind→Xg
open Int renaming toNat→Xi
open List renaming replicate→Xal,take→Xbg,drop→Xbh
open Go renaming maxLen→Xb6
open ByteArray renaming empty→Xa4
section
namespace Go.AX.Q25
open Go Go.AX Go.AX.sE
def ia {p:Prop}[Decidable p]{ρ:Type}(h:p){K:Unit->O ρ}:(Xg (rv p) λx=>K x)=K ():=by unfold rv;rw[Xl h,AA]
def Xr {ρ:Type}{F M:I fT}{p:fI}(ha:At kH BY p F M)(hl:(F++M).length<=1000000)(K:Int->O ρ) : AB (τ:=Int) (λQ=>A3 (σ:=Int) (λH J=>AB (τ:=C) (λP=>if (decide (J<((F++M).length:Int))) then Xg (iB (F++M) J) λU=>Xg (DL U.o3.fI p) λV=>P (cond true (decide (V<0)) false) else P false) λY=>if Y then H (AQ (J+1)) else Q J) qb 0) K=K (F.length:Int):=by
 rw[AC];have a1:(F++M).length=F.length+M.length:=by simp
 refine EL (λv:Int=>0<=v/\v<=F.length) (λv=>(F.length-v).toNat) (λ_=>K (F.length:Int)) ?_ qb 0 ⟨by omega,by omega⟩ (CB (by omega));intro next v hv ih
 obtain⟨v,rfl⟩ :∃n:Nat,v=(n:Int):=⟨v.toNat,by omega⟩;rw[AC];by_cases h:v<F.length
 ·rw[Xl (by simp;omega),BS (by omega),AA,G0,AA];have:(F++M)[v]'(by omega)=F[v]:=Xa9 h;have Z:=ha.1 _ (Wu h);rw[this,show decide (BY F[v].o3.fI p<0)=true from Xn Z];show (if true=true then _ else _)=_;rw[Xl rfl,AM (by omega)];exact ih _ ⟨by omega,by omega⟩ (by omega)
 have e:v=F.length:=by omega
 subst e;cases M with
 | nil=>rw[Xk (by simp)];show (if false=true then _ else _)=_;rw[Xk (by simp)]
 | cons y t=>rw[Xl (by simp;omega),Ji,AA,G0,AA];have Z:=ha.2 y (by simp);rw[show decide (BY y.o3.fI p<0)=false from Wd (by have:0<BY y.o3.fI p:=Z;omega)];show (if false=true then _ else _)=_;rw[Xk (by simp)]
def lI {ρ:Type}{l:I fT}{h:fT}{p:fI}(hp:kH h=p)(hs:rN kH BY l)(hl:l.length<=100000)(K:I fT->O ρ) : (Xg (Dp l p) λF=>AB (τ:=Int) (λZ=>A3 (σ:=Int) (λP Q=>AB (τ:=C) (λV=>if (decide (Q<(F.length:Int))) then Xg (iB F Q) λa1=>Xg (DL a1.o3.fI p) λa6=>V (cond true (decide (a6<0)) false) else V false ) λa7=>if a7 then P (AQ (Q+1)) else Z Q ) qb 0 ) λH=>Xg (rv (0<=H/\H<=(F.length:Int)/\(F.length:Int)<=(F.length:Int))) λ_=>Xg (gH (α:=fT) 208 [] (Xbg (Xi (F.length:Int)-Xi H) (Xbh (Xi H) F))) λ_=>Xg (rv (H<=H/\H<=(F.length:Int))) λ_=>Xg (part F 0 H) λa8=>Xg (gH (α:=fT) 208 a8 ([h]:I fT)) λaa=>Xg (gH (α:=fT) 208 aa (Xbg (Xi (F.length:Int)-Xi H) (Xbh (Xi H) F))) λab=>K ab)=K (LY l h):=by
 subst hp;rw[SX (by omega),AA];obtain⟨J,M,hw,hi,U,ae⟩ :∃J M,G7 l (kH h)=J++M/\LY l h=J++h::M/\At kH BY (kH h) J M/\(J++M).length<=100000:=by
  rcases split DI hs (kH h) with ⟨J,x,M,rfl,e,U⟩|⟨J,M,rfl,U⟩
  ·exact⟨J,M,X9 U e,PK U e,U,by simp at hl⊢;omega⟩
  exact⟨J,M,bP U,NX U,U,hl⟩
 rw[hw,hi,Xr U (by omega)];have Y:(J++M).length=J.length+M.length:=by simp
 have ht:Xbg (Xi ((J++M).length:Int)-Xi (J.length:Int)) (Xbh (Xi (J.length:Int)) (J++M))=M:=by rw[Xa3,Xa3,List.drop_left,Y,Nat.add_sub_cancel_left,Xcj]
 have hp:part (J++M) 0 (J.length:Int)=some J:=by have:=LX (l:=J++M) (a:=0) (b:=J.length) (by omega) (by omega);simpa using this
 rw[ia ⟨by omega,by omega,by omega⟩,ht,AI (by decide) (by simp;omega),AA,ia ⟨by omega,by omega⟩,hp,AA,AI (by decide) (by simp;omega),AA,AI (by decide) (by simp;omega),AA];simp
def uv (f:qI)(b:iA)(u:qC)(p:fI):fT:=⟨⟨p,b.kI.ql,u.gE⟩,uB f b.kI ⟨p,b.kI.ql,u.gE⟩,false⟩
def uV (b:iA)(u:qC):I fT:=u.mu.foldl G7 b.fT
def fV (f:qI)(b:iA)(u:qC):I fT:=u.gO.foldl (λl p=>LY l (uv f b u p)) (uV b u)
def Nv (b:iA):iA:={ b with oT:=cond (ss b.fT) b.oT 0 }
def zR:iA:=⟨⟨0,Xa4,0,0,[]⟩,false,[],0⟩
def E2 (f:qI)(b:iA)(u:qC):iA:={ b with fT:=fV f b u }
def Rn (f:qI)(b:iA)(u:qC):iA×Int:=
 if (eI f&&(DJ b&&Jo u))=true then
  if b.Up=true then
   if (TE (E2 f b u)&&(Ri (E2 f b u)&&decide (((E2 f b u).fT.length:Int)<=256)))=true then (Nv (E2 f b u),0) else (zR,34)
  else (zR,31)
 else (zR,1)
def Wy {b:iA}{u:qC}(H:rN kH BY b.fT):rN kH BY (uV b u)/\(uV b u).length<=b.fT.length/\∀x∈uV b u,x∈b.fT:=by
 unfold uV;have go :∀(t:I fI) (l:I fT),rN kH BY l->rN kH BY (t.foldl G7 l)/\(t.foldl G7 l).length<=l.length/\∀x∈t.foldl G7 l,x∈l:=by
  intro t;induction t with
  | nil=>intro l h;exact⟨h,Xa2 _,λx F=>F⟩
  | cons p t J=>intro l h;obtain⟨K,M,P⟩:=J (G7 l p) (bV h);exact⟨K,Xak M (UX l p),λx F=>aP (P x F)⟩
 exact go _ _ H
def WS {l0:I fT}(g:fI->fT)(F:rN kH BY l0)(t:I fI):rN kH BY (t.foldl (λl p=>LY l (g p)) l0)/\(t.foldl (λl p=>LY l (g p)) l0).length<=l0.length+t.length/\∀x∈t.foldl (λl p=>LY l (g p)) l0,x∈l0 \/∃p∈t,x=g p:=by
 induction t generalizing l0 with
 | nil=>exact⟨F,Xa2 _,λx H=>.inl H⟩
 | cons p t J=>
  obtain⟨K,Q,M⟩:=J (l0:=LY l0 (g p)) (Wv F);have:=Tu (h:=g p) F;refine⟨K,by simp only[Xbb,X11];omega,λx H=>?_⟩;rcases M x H with h|⟨q,P,e⟩
  ·rcases eV h with e|h
   ·exact .inr ⟨p,by simp,e⟩
   exact .inl h
  exact .inr ⟨q,by simp[P],e⟩
end Go.AX.Q25
end
section
namespace Go.AX.Q25
open Go Go.AX Go.AX.sE
structure vz (u:qC):Prop where
 a:tf u.gE
 w:u.mu.length<=1000
 n:u.gO.length<=1000
def X4 {u:qC}(h:Jo u=true):u.mu.length<=256/\u.gO.length<=256:=by unfold Jo at h;simp only[X26,Xh] at h;exact⟨h.1,h.2.1⟩
def vO {α σ ρ:Type}{l:List α}{st:σ->α->σ}{I:σ->Prop}{body:(σ->O ρ)->α->Nat->σ->O ρ}{K:σ->O ρ} (H :∀next i x s,x∈l->I s->body next x i s=next (st s x)) (J :∀s x,x∈l->I s->I (st s x)) :∀(i:Nat) (s:σ),I s->AH K body l i s=K (l.foldl st s):=by
 induction l with
 | nil=>intro i s _;rfl
 | cons x t P=>intro i s M;rw[BX,H _ _ _ _ (by simp) M];exact P (λnext i y s F=>H next i y s (X18 _ F)) (λs y F=>J s y (X18 _ F)) (i+1) _ (J s x (by simp) M)
def xl (l:I fT):n0 l+n1 l=l.length:=by
 induction l with
 | nil=>rfl
 | cons x t F=>
  cases h:x.o3.fI.Addr.V6
  ·rw[(L2 h).1,(L2 h).2,X11];omega
  rw[(PC h).1,(PC h).2,X11];omega
variable {f:qI} {b:iA} {u:qC}
def Pj (Y:wa f)(Z:tF b)(hp:b.kI.Set.size<=Xb6)(M:vz u):Fq f b u=some (Rn f b u):=by
 unfold Fq Rn;rw[AC,Rl Y.s,AA];cases h1:eI f
 ·rw[Xl (by rfl)];rfl
 rw[Xk (by simp),NC Z,AA];cases h2:DJ b
 ·rw[Xl (by rfl)];rfl
 rw[Xk (by simp),WE M.a M.w M.n lc,AA];cases h3:Jo u
 ·rfl
 show (if (false=true) then _ else _)=_;rw[Xk (by simp),Xca,Xca,Xl rfl];cases h4:b.Up
 ·rw[Xl (by rfl),Xk (by simp)];rfl
 rw[Xk (by simp),Xl rfl,Jp Z.uc,AA,AC];have V:=VR.of h2;have hl:=V.len;have a1:=X4 h3;rw[vO (st:=G7) (I:=λl=>l.length<=256) (λnext i x s _ F=>by rw[SX (by omega),AA]) (λs x _ F=>Xak (UX s x) F) 0 b.fT hl];show AB _ _=_;rw[AC];obtain⟨P,a6,a7⟩:=Wy (u:=u) V.rN;have hh:=WS (uv f b u) P u.gO;have sa:=M.a.wb;have H:=λ(K:List fT->O (iA×Int)) (body:(List fT->O (iA×Int))->fI->Nat->List fT->O (iA×Int)) (J :∀next x j s n,x∈u.gO->rN kH BY s/\s.length+(n+1)<=1000->body next x j s=next (LY s (uv f b u x)))=>
  W0 (K:=K) (body:=body) (λl p=>LY l (uv f b u p)) (λn l=>rN kH BY l/\l.length+n<=1000) (λn s x F=>⟨Wv F.1,by have:=Tu (h:=uv f b u x) F.1;omega⟩) u.gO 0 (uV b u) J ⟨P,by omega⟩
 refine (H _ _ λnext x j s n _ F=>?_).trans ?_;rotate_left
 ·show Xg (Eh (E2 f b u)) _=_;have ho:(E2 f b u).fT.length<=512:=by show (fV f b u).length<=512;unfold fV;omega
  have hn:=xl (E2 f b u).fT;rw[XU (by omega),AA];dsimp only;rw[AC,AM (by omega)];have e1:decide ((n0 (E2 f b u).fT:Int)>b.kI.qh)=!TE (E2 f b u):=H3;have e2:decide ((n1 (E2 f b u).fT:Int)>b.kI.qg)=!Ri (E2 f b u):=H3;have e3:decide ((n0 (E2 f b u).fT:Int)+(n1 (E2 f b u).fT:Int)>256)=!decide (((E2 f b u).fT.length:Int)<=256):=by rw[H3,show (n0 (E2 f b u).fT:Int)+(n1 (E2 f b u).fT:Int)=((E2 f b u).fT.length:Int) by omega]
  rw[e1,e2,e3];have Q:(Xg (Br (E2 f b u)) λU=>some (U,(0:Int)))=some (Nv (E2 f b u),0):=by rw[Lt,AA];rfl
  cases h5:TE (E2 f b u)<;>cases h6:Ri (E2 f b u)<;>cases h7:decide (((E2 f b u).fT.length:Int)<=256);all_goals first
   | rfl
   | exact Q
 rw[AC,Yy sa,AA,XA Y hp M.a,AA];exact lI (h:=uv f b u x) rfl F.1 (by omega) next
end Go.AX.Q25
end
section
namespace Go.AX.Q25
open Go Go.AX Go.AX.sE
def Gg {α ρ:Type}{l:I α}{body:(Unit->O ρ)->α->Nat->Unit->O ρ}{K:Unit->O ρ}(F :∀next i x,l[i]?=some x->body next x i ()=next ()):AH K body l 0 ()=K ():=by
 rw[W8 (bad:=λ_ _=>false) (st:=λ_ _=>()) (r:=none) (λnext i x s H=>by cases s;exact F next i x H)];have :∀(l:I α) (i:Nat),MH (λ_ _=>false) l i=false:=by
  intro l;induction l with
  | nil=>intro i;rfl
  | cons x t J=>intro i;unfold MH;rw[J];rfl
 rw[this,Xk (by simp)]
def Addr.sq (a:Addr):Addr.qK a a=true:=(Addr.qm a a).2 rfl
def Ep {α:Type}{l:I α}{i:Nat}{x:α}(h:l[i]?=some x):iB l (i:Int)=some x:=by obtain⟨F,H⟩:=X15.1 h;rw[BS F,H]
def S7 (a:gE):CP a a=some true:=by
 unfold CP;simp only[Xdn,Xcy,Xd5,Addr.sq,Bool.not_true,Xdf,AC]
 rw[Gg (l:=a.Path) λnext i x F=>by
  rw[Ep F,AA,AA,P4]
  simp]
 rw[Gg (l:=a.cW) λnext i x F=>by
  rw[Ep F,AA,show oF.qK x x=true by unfold oF.qK;simp];rfl]
 rw[Gg (l:=a.ls) λnext i x F=>by
  rw[Ep F,AA,show ls.qK x x=true by unfold ls.qK;simp];rfl]
 rw[Gg (l:=a.gS) λnext i x F=>by
  rw[Ep F]
  simp]
def Ql (r:o3):BB r r=some true:=by unfold BB;rw[(fI.qm _ _).2 rfl,S7];simp[AC]
def Tf (p:kI):En p p=some true:=by
 unfold En;simp only[Xdn,Xcy,Xd5,Xds,Bool.not_true,Xdf,AC]
 rw[Gg (l:=p.oE) λnext i x F=>by
  rw[Ep F,AA,Addr.sq];rfl]
def M4 (b:iA):FO b b=some true:=by
 unfold FO;simp only[Xdn,Xcy,Xd5,Xds,Bool.not_true,Xdf,AC,Tf,AA]
 rw[Gg (l:=b.fT) λnext i x F=>by
  rw[Ep F]
  simp[Ql]]
def UL {d:px}{n:Int}(F:Dk d):Ok (Cd d n) λr=>(vz r.1/\(∀p∈r.1.mu,Ds p)/\∀p∈r.1.gO,Ds p)/\Dk r.2:=by
 unfold Cd;rw[XF,AA];refine .bind (AP F (by omega)) ?_;rintro⟨a,d⟩ ⟨a1,a2,F⟩;dsimp only at a1 a2 F⊢;refine .join (λq:px×I fI=>Dk q.1/\q.2.length<=10/\∀p∈q.2,Ds p) (λk Z=>?_) ?_
 ·refine .rB (λq:Int×px×I fI=>0<=q.1/\q.1+q.2.2.length<=3/\Dk q.2.1/\∀p∈q.2.2,Ds p) (λq=>q.1.toNat) ⟨a1,by dsimp only[X12];omega,F,by simp⟩ (CB (by dsimp only;omega)) ?_;rintro next ⟨i,d,l⟩ ⟨i1,i2,F,J⟩ K
  dsimp only at i1 i2 F J K⊢;refine .join (λq:C×px=>(q.1=true->0<i)/\Dk q.2) (λk2 H=>.ite (λh=>?_) λh=>H _ ⟨λe=>(by cases e),F⟩) ?_
  ·refine .bind (AP F (by omega)) ?_;rintro⟨b,d⟩ ⟨b1,b2,F⟩;exact H _ ⟨λ_=>by simpa using h,F⟩
  rintro⟨b,d⟩ ⟨hb,F⟩;dsimp only at hb F⊢;refine .ite (λh=>?_) λh=>Z _ ⟨F,by dsimp only;omega,J⟩;have hi:=hb h;refine .bind (Hu F) ?_;rintro⟨p,d⟩ ⟨hp,F⟩;dsimp only at hp F⊢;refine .bind (.gH (by decide) (by simp;omega)) λw M=>K _ ⟨?_,?_,F,?_⟩ ?_
  ·dsimp only;rw[AM (by omega)];omega
  ·dsimp only;rw[AM (by omega),M];simp;omega
  ·intro q P;rw[M] at P;rcases X22.1 P with h|h
   ·exact J q h
   rw[X13.1 h];exact hp
  dsimp only;rw[AM (by omega)];omega
 rintro⟨d,wd⟩ ⟨F,w1,w2⟩;dsimp only at F w1 w2⊢;refine .bind (AP F (by omega)) ?_;rintro⟨b,d⟩ ⟨b1,b2,F⟩;dsimp only at F⊢;refine .join (λq:px×Int×(I oA)×C×j×j×Int×Int×Int×(I oF)×(I ls)×(I gF)×(I fI)=>Dk q.1/\tf ⟨q.2.1,q.2.2.1,⟨q.2.2.2.1,q.2.2.2.2.1,q.2.2.2.2.2.1⟩,q.2.2.2.2.2.2.1,q.2.2.2.2.2.2.2.1,q.2.2.2.2.2.2.2.2.1,q.2.2.2.2.2.2.2.2.2.1,q.2.2.2.2.2.2.2.2.2.2.1,q.2.2.2.2.2.2.2.2.2.2.2.1⟩/\q.2.2.2.2.2.2.2.2.2.2.2.2.length<=10/\∀p∈q.2.2.2.2.2.2.2.2.2.2.2.2,Ds p) (λk Z=>?_) ?_
 ·refine .ite (λh=>?_) λh=>Z _ ⟨F,⟨by simp,by simp[rZ],by simp,by simp,by simp,by simp⟩,by simp,by simp⟩;refine .bind (iZ F) ?_;rintro⟨r,d⟩ ⟨⟨Q,U⟩,F⟩;dsimp only at Q U F⊢;refine .bind (AP F (by omega)) ?_;rintro⟨c,d⟩ ⟨c1,c2,F⟩;dsimp only at c1 c2 F⊢;refine .join (λq:px×I fI=>Dk q.1/\q.2.length<=10/\∀p∈q.2,Ds p) (λk2 H=>?_) ?_
  ·refine .rB (λq:Int×px×I fI=>0<=q.1/\q.1+q.2.2.length<=4/\Dk q.2.1/\∀p∈q.2.2,Ds p) (λq=>q.1.toNat) ⟨c1,by simp;omega,F,by simpa using Q⟩ (CB (by dsimp only;omega)) ?_;rintro next ⟨i,d,l⟩ ⟨i1,i2,F,J⟩ K
   dsimp only at i1 i2 F J K⊢;refine .ite (λh=>?_) λh=>H _ ⟨F,by dsimp only;omega,J⟩;have hi:0<i:=by simpa using h
   refine .bind (Hu F) ?_;rintro⟨p,d⟩ ⟨hp,F⟩;dsimp only at hp F⊢;refine .join (λl':I fI=>l'.length<=l.length+1/\∀p∈l',Ds p) (λk3 V=>.ite (λh=>?_) λh=>V _ ⟨by omega,J⟩) λl' Y=>K _ ⟨?_,?_,F,Y.2⟩ ?_
   ·refine .bind (.gH (by decide) (by simp;omega)) λw M=>V _ ⟨by rw[M];simp,λq P=>?_⟩;rw[M] at P;rcases X22.1 P with h|h
    ·exact J q h
    rw[X13.1 h];exact hp
   ·dsimp only;rw[AM (by omega)];omega
   ·dsimp only;rw[AM (by omega)];have:=Y.1;omega
   dsimp only;rw[AM (by omega)];omega
  rintro⟨d,an⟩ ⟨F,n1,n2⟩;exact Z _ ⟨F,U.wg,n1,n2⟩
 rintro⟨d,o,pa,nv,nh,nl,me,pr,ot,co,la,un,an⟩ ⟨F,hs,n1,n2⟩;exact .ret ⟨⟨⟨hs,by dsimp only;omega,by dsimp only at n1⊢;omega⟩,w2,n2⟩,F⟩
def Qf:G1=some true:=by kernel_rfl
def Lq (p:kI):JH p=(Dh p.ql&&((decide (0<=p.qh)&&decide (p.qh<=256))&&((decide (0<=p.qg)&&decide (p.qg<=256))&&(decide ((p.oE.length:Int)<=8)&&p.oE.all Addr.ok)))):=by unfold JH;rw[Jz];rfl
def VR.wH {b:iA}(h:VR b):tF b:=by have hp:=h.peer;rw[Lq] at hp;simp only[X26,Xh] at hp;refine⟨by have:=h.len;omega,by omega,λx F=>?_⟩;have:=(h.ok x F).2;unfold uE at this;simp only[X26] at this;exact (tl.of this.1).wg
def YW {d:px}{n:Int}(F:Dk d)(h:101<=n/\n<=105):Ok (Ec d n) λr=>(r.1.ql=n/\r.1.Set.size<=4/\JH r.1=true)/\Dk r.2:=by
 unfold Ec;refine .bind (AP F (by omega)) ?_;rintro⟨a,d⟩ ⟨K,M,F⟩;dsimp only at K M F⊢;refine .bind (.iB (by simp;omega)) λnm H=>.bind (AP F (by omega)) ?_;rintro⟨b,d⟩ ⟨b1,b2,F⟩;dsimp only at b1 b2 F⊢;refine .bind (AP F (by omega)) ?_;rintro⟨c,d⟩ ⟨P,Q,F⟩;dsimp only at P Q F⊢;refine .bind (Yz h false) λp hp=>.bind (Yz h true) λq U=>.ret ⟨⟨rfl,show nm.size<=4 from ?_,?_⟩,F⟩
 ·have J:=H.1;simp only[Xp,Xby,Xdv] at J;rcases J with rfl|rfl|rfl|rfl|rfl|rfl<;>decide
 rw[Lq];dsimp only;rw[AM (by omega),AM (by omega)];unfold Dh;simp only[X26,Xh,Xc9,List.all_nil,hp,U,X11,X12];refine⟨by omega,by omega,by omega,by omega,trivial,trivial,trivial⟩
def NL (b:iA):iA×Int:=if DJ b=true then if b.Up=true then (zR,31) else ({ b with Up:=true },0) else (zR,1)
def eY {b:iA}(h:tF b):FU b=some (NL b):=by
 unfold FU NL;rw[UC h,AA];cases DJ b
 ·rfl
 rw[Xk (by simp),Xl rfl];cases hu:b.Up
 ·rw[Xk (by simp),Xk (by simp),KO h.uc,AA]
 rfl
def Py {b:iA}(h:tF b):FS b=some (NL b):=by
 unfold FS NL;rw[NC h,AA];cases DJ b
 ·rfl
 rw[Xk (by simp),Xl rfl];cases hu:b.Up
 ·rw[Xk (by simp),Xk (by simp),Jp h.uc,AA]
 rfl
def tE (h:fT):fT:={ h with qA:=true }
def JY {ρ:Type}{v:I fT}(hl:v.length<=1000000)(K:I fT->O ρ) : AB (τ:=(I fT)) (λV=>A3 (σ:=Int×(I fT)) (λF (v9,v10)=>if (decide (v9<(v.length:Int))) then Xg (iB v10 v9) λJ=>Xg (rk v10 v9 ({ J with qA:=true })) λM=>F ((AQ (v9+1)),M) else V v10) qb (0,v)) K=K (v.map tE):=by
 rw[AC];refine (EL (λs:Int×I fT=>0<=s.1/\s.1<=(v.length:Int)/\s.2.length=v.length) (λs=>((v.length:Int)-s.1).toNat) (λs=>K (s.2.take s.1.toNat++(s.2.drop s.1.toNat).map tE)) ?_ qb (0,v) ⟨by simp,by simp,rfl⟩ (CB (by dsimp only;omega))).trans (by simp);rintro next ⟨i,l⟩ ⟨Y,Z,Q⟩ U
 dsimp only at Y Z Q U⊢;obtain⟨i,rfl⟩ :∃n:Nat,i=(n:Int):=⟨i.toNat,by omega⟩;by_cases h:i<v.length
 ·have P:i<l.length:=by omega
  have H:rk l (i:Int) ({ l[i] with qA:=true }:fT)=some (l.set i (tE l[i])):=by unfold rk;rw[Xl (by omega)];rfl
  rw[Xl (by simpa using h),BS P,AA,H,AA,AM (by omega)];rw[U _ ⟨by dsimp only;omega,by dsimp only;omega,by simpa using Q⟩ (by dsimp only;omega)];dsimp only;rw[show ((i:Int)+1).toNat=i+1 by omega,Xa3,KV P,List.drop_set_of_lt (by omega),Xav];congr 2;rw[Xbt P];rfl
 rw[Xk (by simpa using h),show i=l.length by omega];simp
def Qo (b:iA)(H F:Int):iA×Int:=
 if (DJ b&&(decide (0<=H)&&(decide (H<=1073741824)&&(decide (0<=F)&&decide (F<=4095)))))=true then
  if b.Up=true then (Nv ⟨b.kI,false,(cond (F==0) [] b.fT).map tE,H+F⟩,0) else (zR,31)
 else (zR,1)
def j7 {b:iA}(h:tF b){H F:Int}:IA b H F=some (Qo b H F):=by
 unfold IA Qo;simp only[H3 (a:=H),H3 (a:=F),Ly (a:=H),Ly (a:=F)];rw[AC,UC h,AA];cases DJ b
 ·rfl
 by_cases J:0<=H;case neg=>rw[Wd J];rfl
 by_cases a2:H<=1073741824;case neg=>rw[Xn J,Wd a2];rfl
 by_cases a3:0<=F;case neg=>rw[Xn J,Xn a2,Wd a3];rfl
 by_cases a4:F<=4095;case neg=>rw[Xn J,Xn a2,Xn a3,Wd a4];rfl
 rw[Xn J,Xn a2,Xn a3,Xn a4];show (if (!b.Up)=true then _ else _)=some (if b.Up=true then _ else _);cases hu:b.Up
 ·rfl
 rw[Xk (by simp),Xl rfl,KO h.uc,AA,AC,AM (by omega)];have K:=h.h;cases hg:F==0
 ·rw[Xk (by simp)];refine (JY (v:=b.fT) K _).trans ?_;show Xg (Bn _) _=_;rw[NB,AA];rfl
 rw[Xl rfl];refine (JY (v:=[]) (by simp) _).trans ?_;show Xg (Bn _) _=_;rw[NB,AA];rfl
def Rr {b:iA}(h:tF b){H F:Int}:Ge b H F=some (Qo b H F):=by
 unfold Ge Qo;simp only[H3 (a:=H),H3 (a:=F),Ly (a:=H),Ly (a:=F)];rw[AC,NC h,AA];cases DJ b
 ·rfl
 by_cases J:0<=H;case neg=>rw[Wd J];rfl
 by_cases a2:H<=1073741824;case neg=>rw[Xn J,Wd a2];rfl
 by_cases a3:0<=F;case neg=>rw[Xn J,Xn a2,Wd a3];rfl
 by_cases a4:F<=4095;case neg=>rw[Xn J,Xn a2,Xn a3,Wd a4];rfl
 rw[Xn J,Xn a2,Xn a3,Xn a4];show (if (!b.Up)=true then _ else _)=some (if b.Up=true then _ else _);cases hu:b.Up
 ·rfl
 rw[Xk (by simp),Xl rfl,Jp h.uc,AA,AC,AM (by omega)];have K:=h.h;cases hg:F==0
 ·rw[Xk (by simp)];refine (JY (v:=b.fT) K _).trans ?_;show Xg (Br _) _=_;rw[Lt,AA];rfl
 rw[Xl rfl];refine (JY (v:=[]) (by simp) _).trans ?_;show Xg (Br _) _=_;rw[Lt,AA];rfl
def P2 (F:Int)(h:fT):C:=!h.qA || ((F==0&&h.o3.fI.Addr.V6) || (F==1&&!h.o3.fI.Addr.V6))
def Vj (b:iA)(F:Int):iA:=Nv { b with fT:=b.fT.filter (P2 F) }
def cA {ρ:Type}(w:Int)(x:fT)(K:C->O ρ):AB (τ:=C) (λF=>if (!x.qA) then F true else if (w==0) then if (cond false true (cond true x.o3.fI.Addr.V6 false)) then F true else if (w==1) then F (cond false true (cond true (!x.o3.fI.Addr.V6) false)) else F false else if (w==1) then F (cond false true (cond true (!x.o3.fI.Addr.V6) false)) else F false) K=K (P2 w x):=by rw[AC];unfold P2;cases x.qA<;>cases (w==0)<;>cases (w==1)<;>cases x.o3.fI.Addr.V6<;>rfl
def LU {b:iA}(h:vi b)(w:Int):EW b w=some (Vj b w):=by
 unfold EW Vj;rw[Jp h,AA,AA,AC];have hl:=h.h;have go :∀(t:I fT) (i:Nat) (F:I fT),F.length+t.length<=1000000->AH (σ:=I fT) (λP=>(λQ=>Xg (Br ({ b with fT:=Q })) λU=>some U) P) (λH (K:fT) i7 P=>AB (τ:=C) (λJ=>if (!K.qA) then J true else if (w==0) then if (cond false true (cond true K.o3.fI.Addr.V6 false)) then J true else if (w==1) then J (cond false true (cond true (!K.o3.fI.Addr.V6) false)) else J false else if (w==1) then J (cond false true (cond true (!K.o3.fI.Addr.V6) false)) else J false ) λv9=>AB (τ:=(I fT)) (λM=>if v9 then Xg (gH (α:=fT) 208 P ([K]:I fT)) λV=>M V else M P) λY=>H Y) t i F=some (Nv { b with fT:=F++t.filter (P2 w) }):=by
  intro t;induction t with
  | nil=>intro i F _;rw[Kx];dsimp only;rw[Lt,AA];simp[Nv]
  | cons x t Z=>
   intro i F h;simp only[X11] at h;rw[BX,cA,AC];cases hk:P2 w x
   ·rw[Xk (by simp)];refine (Z _ _ (by omega)).trans ?_;rw[Xc2 (by simp[hk])]
   rw[Xl rfl,AI (by decide) (by simp;omega),AA];refine (Z _ _ (by simp;omega)).trans ?_;rw[List.filter_cons_of_pos hk];simp
 exact (go b.fT 0 [] (by simpa using hl)).trans (by simp)
def kW (p:fI):DC p=KH p:=by have F:=J6 p;rw[SV] at F;exact (X24 F).symm
def Vx {p:kI}(h:JH p=true):0<=p.qh/\0<=p.qg:=by rw[Lq] at h;simp only[X26,Xh] at h;exact⟨h.2.1.1,h.2.2.1.1⟩
def ea {b:iA}(h:VR b):VR { b with Up:=true } where
 peer:=h.peer
 len:=h.len
 u0:=h.u0
 u1:=h.u1
 st:=h.st
 rN:=h.rN
 ok x hx:=by refine⟨(h.ok x hx).1,?_⟩;have:=(h.ok x hx).2;unfold uE at this⊢;simp only[X26] at this⊢;exact⟨this.1,this.2.1,this.2.2.1,this.2.2.2.1,rfl⟩
 f4:=h.f4
 f6:=h.f6
def d5 {l m:I fT}(h:l.Sublist m):n0 l<=n0 m:=h.countP_le
def eX {l m:I fT}(h:l.Sublist m):n1 l<=n1 m:=h.countP_le
def jn {l m:I fT}(h :∀x∈l,x∈m)(F:ss l=true):ss m=true:=by unfold ss at F⊢;rw[List.any_eq_true] at F⊢;obtain⟨x,H,J⟩:=F;exact⟨x,h x H,J⟩
def Vg {b:iA}(h:ss b.fT=true->b.oT≠0):((Nv b).oT !=0)=ss b.fT:=by
 unfold Nv;dsimp only;cases F:ss b.fT
 ·rfl
 have:=h F;simpa using this
def GP (b:iA):(Nv b).oT=b.oT\/(Nv b).oT=0:=by
 unfold Nv;dsimp only;cases ss b.fT
 ·exact .inr rfl
 exact .inl rfl
def bT {b:iA}(h:VR b)(p:fT->C):VR (Nv { b with fT:=b.fT.filter p }) where
 peer:=h.peer
 len:=Xak (List.length_filter_le _ _) h.len
 u0:=by
  rcases GP { b with fT:=b.fT.filter p } with e|e
  ·rw[e];exact h.u0
  rw[e];exact Int.le_refl _
 u1:=by
  rcases GP { b with fT:=b.fT.filter p } with e|e
  ·rw[e];exact h.u1
  rw[e];decide
 st:=Vg λJ=>by have:=h.st;have K:=jn (m:=b.fT) (λx H=>(Xcv.1 H).1) J;rw[K] at this;simpa using this
 rN:=SA h.rN
 ok x H:=h.ok x (Xcv.1 H).1
 f4:=by have F:=h.f4;unfold TE at F⊢;simp only[Xh] at F⊢;have:=d5 (List.filter_sublist (p:=p) (l:=b.fT));show ((n0 (b.fT.filter p):Nat):Int)<=_;exact Int.le_trans (Int.ofNat_le.2 this) F
 f6:=by have F:=h.f6;unfold Ri at F⊢;simp only[Xh] at F⊢;have:=eX (List.filter_sublist (p:=p) (l:=b.fT));show ((n1 (b.fT.filter p):Nat):Int)<=_;exact Int.le_trans (Int.ofNat_le.2 this) F
def kx (l:I fT):n0 (l.map tE)=n0 l/\n1 (l.map tE)=n1 l:=by unfold n0 n1;rw[List.countP_map,List.countP_map];exact⟨rfl,rfl⟩
def jC {b:iA}(h:VR b){H F:Int}(K:0<=H)(V:H<=1073741824)(Y:0<=F)(Z:F<=4095):VR (Nv ⟨b.kI,false,(cond (F==0) [] b.fT).map tE,H+F⟩):=by
 have J:(cond (F==0) [] b.fT).Sublist b.fT:=by
  cases F==0
  ·exact List.Sublist.refl _
  exact List.nil_sublist _
 have hm:=Vx h.peer;refine⟨h.peer,?_,?_,?_,Vg λP=>?_,?_,λx Q=>?_,?_,?_⟩
 ·show ((cond (F==0) [] b.fT).map tE).length<=256;rw[X6];exact Xak J.length_le h.len
 ·rcases GP ⟨b.kI,false,(cond (F==0) [] b.fT).map tE,H+F⟩ with e|e
  ·rw[e];show 0<=H+F;omega
  rw[e];omega
 ·rcases GP ⟨b.kI,false,(cond (F==0) [] b.fT).map tE,H+F⟩ with e|e
  ·rw[e];show H+F<=_;omega
  rw[e];omega
 ·show H+F≠0;cases hg:F==0
  ·have:F≠0:=by simpa using hg
   omega
  rw[hg] at P;cases P
 ·show List.Pairwise _ ((cond (F==0) [] b.fT).map tE);rw[List.pairwise_map];exact Xdi J h.rN
 ·obtain⟨y,U,rfl⟩:=Xaz.1 Q;have:=h.ok y (J.subset U);refine⟨this.1,?_⟩;have M:=this.2;unfold uE at M⊢;simp only[X26] at M⊢;exact⟨M.1,M.2.1,M.2.2.1,M.2.2.2.1,rfl⟩
 ·have K:=h.f4;unfold TE at K⊢;simp only[Xh] at K⊢;have:=d5 J;show ((n0 ((cond (F==0) [] b.fT).map tE):Nat):Int)<=_;rw[(kx _).1];exact Int.le_trans (Int.ofNat_le.2 this) K
 have K:=h.f6;unfold Ri at K⊢;simp only[Xh] at K⊢;have:=eX J;show ((n1 ((cond (F==0) [] b.fT).map tE):Nat):Int)<=_;rw[(kx _).2];exact Int.le_trans (Int.ofNat_le.2 this) K
def jW (f:qI)(p:kI)(r:o3):0<=uB f p r/\uB f p r<=14:=by
 unfold uB;have h:=(Zt f p r).2;cases F:Qy f p r with
 | nil=>exact⟨Int.le_refl _,by decide⟩
 | cons x t=>have:=h x (by rw[F];simp);show 0<=x/\x<=14;omega
def fR {f:qI}{b:iA}{u:qC}(h:VR b)(P:Jo u=true)(Q:b.Up=true)(Z:TE (E2 f b u)=true)(h6:Ri (E2 f b u)=true)(hl:((E2 f b u).fT.length:Int)<=256):VR (Nv (E2 f b u)):=by
 obtain⟨w1,w2,w3⟩:=Wy (u:=u) h.rN;have Y:=WS (uv f b u) w1 u.gO;unfold Jo at P;simp only[X26,Xh,Xm] at P;obtain⟨_,_,hg,_,K,_⟩:=P;have F :∀x∈(E2 f b u).fT,x∈b.fT \/∃p∈u.gO,x=uv f b u p:=λx M=>by
  rcases Y.2.2 x M with H|H
  ·exact .inl (w3 x H)
  exact .inr H
 refine⟨h.peer,by show (E2 f b u).fT.length<=256;omega,?_,?_,Vg λU=>?_,Y.1,λx M=>?_,Z,h6⟩
 ·rcases GP (E2 f b u) with e|e<;>rw[e]
  ·exact h.u0
  exact Int.le_refl _
 ·rcases GP (E2 f b u) with e|e<;>rw[e]
  ·exact h.u1
  decide
 ·have h1:ss b.fT=true:=by
   unfold ss at U⊢;rw[List.any_eq_true] at U⊢;obtain⟨x,M,J⟩:=U;rcases F x M with H|⟨p,_,e⟩
   ·exact⟨x,H,J⟩
   rw[e] at J;cases J
  have:=h.st;rw[h1] at this;show b.oT≠0;simpa using this
 rcases F x M with H|⟨p,hp,e⟩
 ·exact h.ok x H
 rw[e];refine⟨by rw[kW];exact hg p (List.mem_append_right _ hp),?_⟩;have V:=K p hp;unfold aY at V;simp only[X26] at V;have hc:=jW f b.kI ⟨p,b.kI.ql,u.gE⟩;unfold uE uv;simp only[X26,Xbj,Xdn,Xar];refine⟨V.2.2.2,by show (b.kI.ql !=b.kI.ql)=false;simp,by omega,by omega,?_⟩;show (!b.Up&&!false)=false;rw[Q];rfl
structure WR (b:iA):Prop where
 v:VR b
 n:101<=b.kI.ql/\b.kI.ql<=105
 s:b.kI.Set.size<=4
def WR.raise {b:iA}(h:WR b)(F:(NL b).2=0):WR (NL b).1:=by
 unfold NL at F⊢;rw[h.v.to,Xl rfl] at F⊢;cases hu:b.Up
 ·rw[Xk (by simp)];exact⟨ea h.v,h.n,h.s⟩
 rw[hu,Xl rfl] at F;exact absurd F (by decide)
def WR.down {b:iA}(h:WR b){H F:Int}(K:(Qo b H F).2=0):WR (Qo b H F).1:=by
 unfold Qo at K⊢;cases J:(DJ b&&(decide (0<=H)&&(decide (H<=1073741824)&&(decide (0<=F)&&decide (F<=4095)))))
 ·rw[J,Xk (by simp)] at K;exact absurd K (by decide)
 rw[J,Xl rfl] at K;rw[Xl rfl];cases hu:b.Up
 ·rw[hu,Xk (by simp)] at K;exact absurd K (by decide)
 rw[Xl rfl];simp only[X26,Xh] at J;exact⟨jC h.v J.2.1 J.2.2.1 J.2.2.2.1 J.2.2.2.2,h.n,h.s⟩
def WR.uD {b:iA}(h:WR b)(w:Int):WR (Vj b w):=⟨bT h.v _,h.n,h.s⟩
def WR.apply {f:qI}{b:iA}{u:qC}(h:WR b)(F:(Rn f b u).2=0):WR (Rn f b u).1:=by
 unfold Rn at F⊢;cases J:(eI f&&(DJ b&&Jo u))
 ·rw[J,Xk (by simp)] at F;exact absurd F (by decide)
 rw[J,Xl rfl] at F;rw[Xl rfl];cases hu:b.Up
 ·rw[hu,Xk (by simp)] at F;exact absurd F (by decide)
 rw[hu,Xl rfl] at F;rw[Xl rfl];cases H:(TE (E2 f b u)&&(Ri (E2 f b u)&&decide (((E2 f b u).fT.length:Int)<=256)))
 ·rw[H,Xk (by simp)] at F;exact absurd F (by decide)
 rw[Xl rfl];simp only[X26,Xh] at J H;exact⟨fR h.v J.2.2 hu H.1 H.2.1 H.2.2,h.n,h.s⟩
def WR.sz {b:iA}(h:WR b):b.kI.Set.size<=Xb6:=iT h.s
def cC {d:px}(F:Dk d):Ok (F6 d) λr=>MF r.1/\WR r.2.1/\Dk r.2.2:=by
 unfold F6;refine .bind (Su F) ?_;rintro⟨f,d⟩ ⟨hf,F⟩;dsimp only at hf F⊢;refine .bind (AP F (by omega)) ?_;rintro⟨a,d⟩ ⟨a1,a2,F⟩;dsimp only at a1 a2 F⊢;rw[AM (by omega)];refine .bind (YW F (by omega)) ?_;rintro⟨p,d⟩ ⟨⟨p1,p2,Y⟩,F⟩;dsimp only at p1 p2 Y F⊢;have a8:p.oE.length<=8:=by have:=Y;rw[Lq] at this;simp only[X26,Xh] at this;omega
 have hm:=Vx Y;have P:JJ p=some ⟨p,false,[],0⟩:=by unfold JJ;rw[AI (by decide) (by simp;omega),AA]
 rw[P,AA];refine .bind (AP F (by omega)) ?_;rintro⟨k,d⟩ ⟨k1,k2,F⟩;dsimp only at k1 k2 F⊢;refine .join (λq:px×iA=>Dk q.1/\WR q.2) (λkk a6=>?_) λq M=>.ret ⟨hf,M.2,M.1⟩;refine .rB (λq:Int×px×iA=>-1<=q.1/\q.1<=8/\Dk q.2.1/\WR q.2.2) (λq=>(q.1+1).toNat) ⟨by dsimp only;omega,by dsimp only;omega,F,?_⟩ (CB (by dsimp only;omega)) ?_
 ·refine⟨⟨Y,by simp,Int.le_refl _,by show (0:Int)<=1073745919;decide,rfl,List.Pairwise.nil,by simp,Xn hm.1,Xn hm.2⟩,by dsimp only;omega,p2⟩
 rintro next ⟨i,d,b⟩ ⟨i1,i2,F,K⟩ ih
 dsimp only at i1 i2 F K ih⊢;refine .ite (λh=>?_) λh=>a6 _ ⟨F,K⟩;have hi:0<=i:=by simpa using h
 have Z:=K.v.wH;refine .bind (AP F (by omega)) ?_;rintro⟨c,d⟩ ⟨c1,c2,F⟩;dsimp only at c1 c2 F⊢;refine .join (λq:Int×px×iA=>Dk q.2.1/\(q.1=0->WR q.2.2)) (λk2 H=>?_) ?_
 ·refine .ite (λh=>?_) λh=>?_
  ·refine .bind (AP F (by omega)) ?_;rintro⟨x,d⟩ ⟨x1,x2,F⟩;dsimp only at x1 x2 F⊢;refine .bind (AP F (by omega)) ?_;rintro⟨y,d⟩ ⟨y1,y2,F⟩;dsimp only at y1 y2 F⊢;refine .bind (.iB (by simp;omega)) λg hg=>?_;rw[Rr Z,AA];exact H _ ⟨F,λe=>K.down e⟩
  refine .join (λq:Int×px×iA=>Dk q.2.1/\(q.1=0->WR q.2.2)) (λk3 Q=>?_) λq M=>H _ M;refine .ite (λh=>?_) λh=>?_
  ·refine .bind (AP F (by omega)) ?_;rintro⟨x,d⟩ ⟨x1,x2,F⟩;dsimp only at x1 x2 F⊢;rw[LU Z.uc,AA];exact Q _ ⟨F,λ_=>K.uD x⟩
  refine .join (λ_=>True) (λk4 J=>.ite (λ_=>J _ trivial) λ_=>J _ trivial) λz _=>?_;refine .join (λq:Int×px×iA=>Dk q.2.1/\(q.1=0->WR q.2.2)) (λk4 J=>?_) λq M=>Q _ M;refine .ite (λ_=>?_) λ_=>?_
  ·rw[Py Z,AA];exact J _ ⟨F,λe=>K.raise e⟩
  refine .bind (UL F) ?_;rintro⟨u,d⟩ ⟨⟨hu,_,_⟩,F⟩;dsimp only at hu F⊢;rw[Pj hf.wP Z K.sz hu,AA];exact J _ ⟨F,λe=>K.apply e⟩
 rintro⟨e,d',b'⟩ ⟨U,V⟩;dsimp only at U V⊢;refine .join (λb2=>WR b2) (λk2 H=>.ite (λh=>H _ (V (by simpa using h))) λ_=>H _ K) λb2 a7=>ih _ ⟨?_,?_,U,a7⟩ ?_
 ·dsimp only;rw[AM (by omega)];omega
 ·dsimp only;rw[AM (by omega)];omega
 dsimp only;rw[AM (by omega)];omega
def Addr.rH (x:Addr):Prop:=True/\True/\True/\True
def fI.rH (x:fI):Prop:=Addr.rH x.Addr/\r7 x.qo/\True
def oA.rH (x:oA):Prop:=True/\(x.lf.length<=Xb6/\x.lf.length<=1048576/\∀y0∈x.lf,r7 y0)/\True
def oF.rH (x:oF):Prop:=r7 x.A/\r7 x.B/\True
def ls.rH (x:ls):Prop:=r7 x.A/\r7 x.B/\r7 x.C/\True
def gF.rH (x:gF):Prop:=r7 x.Flags/\r7 x.hB/\(x.Data.length<=Xb6/\x.Data.length<=1048576/\∀y0∈x.Data,True)/\True
def gE.rH (x:gE):Prop:=r7 x.gT/\(x.Path.length<=Xb6/\x.Path.length<=1048576/\∀y0∈x.Path,oA.rH y0)/\Addr.rH x.Next/\r7 x.qW/\r7 x.qd/\r7 x.qz/\(x.cW.length<=Xb6/\x.cW.length<=1048576/\∀y0∈x.cW,oF.rH y0)/\(x.ls.length<=Xb6/\x.ls.length<=1048576/\∀y0∈x.ls,ls.rH y0)/\(x.gS.length<=Xb6/\x.gS.length<=1048576/\∀y0∈x.gS,gF.rH y0)/\True
def o3.rH (x:o3):Prop:=fI.rH x.fI/\r7 x.qM/\gE.rH x.gE/\True
def kI.rH (x:kI):Prop:=r7 x.ql/\(x.Set.size<=Xb6/\x.Set.size<=1048576)/\r7 x.qh/\r7 x.qg/\(x.oE.length<=Xb6/\x.oE.length<=1048576/\∀y0∈x.oE,Addr.rH y0)/\True
def fT.rH (x:fT):Prop:=o3.rH x.o3/\r7 x.qx/\True/\True
def iA.rH (x:iA):Prop:=kI.rH x.kI/\True/\(x.fT.length<=Xb6/\x.fT.length<=1048576/\∀y0∈x.fT,fT.rH y0)/\r7 x.oT/\True
def qC.rH (x:qC):Prop:=(x.mu.length<=Xb6/\x.mu.length<=1048576/\∀y0∈x.mu,fI.rH y0)/\gE.rH x.gE/\(x.gO.length<=Xb6/\x.gO.length<=1048576/\∀y0∈x.gO,fI.rH y0)/\True
def sA:I oA->Nat
 | []=>0
 | s::t=>1+s.lf.length+sA t
def sO:I gF->Nat
 | []=>0
 | u::t=>u.Data.length+sO t
def oV {p:I oA}(h :∀s∈p,s.lf.length<=1048576):sA p<=1048577*p.length:=by
 induction p with
 | nil=>exact Xco _
 | cons s t F=>have:=h s (by simp);have:=F λx H=>h x (X18 _ H);simp only[sA,X11,Nat.mul_succ];omega
def oP {p:I gF}(h :∀s∈p,s.Data.length<=1048576):sO p<=1048576*p.length:=by
 induction p with
 | nil=>exact Xco _
 | cons s t F=>have:=h s (by simp);have:=F λx H=>h x (X18 _ H);simp only[sO,X11,Nat.mul_succ];omega
def lq (p:I oA):p.length+rZ p=sA p:=by
 induction p with
 | nil=>rfl
 | cons s t F=>rw[E5,X11];simp only[sA];omega
def mH {p:I gF}{u:gF}(h:u∈p):u.Data.length<=sO p:=by
 induction p with
 | nil=>cases h
 | cons s t F=>
  simp only[sO];rcases Xp.1 h with e|h
  ·rw[e];omega
  have:=F h;omega
def oG {p:I oA}{n:Nat}(h:n+sA p<=4000000000000000000):p.foldl (λ(F:Int) (H:oA)=>AQ (F+(AQ (1+(H.lf.length:Int))))) (n:Int)=((n+sA p:Nat):Int):=by
 induction p generalizing n with
 | nil=>rfl
 | cons s t J=>simp only[sA] at h;rw[Xbb,AM (x:=1+(s.lf.length:Int)) (by omega),AM (by omega),show (n:Int)+(1+(s.lf.length:Int))=((n+(1+s.lf.length):Nat):Int) by omega,J (by omega)];simp only[sA];congr 1;omega
def nD {p:I gF}{n:Nat}(h:n+sO p<=4000000000000000000):p.foldl (λ(F:Int) (H:gF)=>AQ (F+(H.Data.length:Int))) (n:Int)=((n+sO p:Nat):Int):=by
 induction p generalizing n with
 | nil=>rfl
 | cons s t J=>simp only[sO] at h;rw[Xbb,AM (by omega),show (n:Int)+(s.Data.length:Int)=((n+s.Data.length:Nat):Int) by omega,J (by omega)];simp only[sO];congr 1;omega
def eU {a:gE}(h:gE.rH a):C3 a=some (decide (a.cW.length+a.ls.length+a.gS.length+sA a.Path+sO a.gS<=2000)):=by
 obtain⟨_,hp,_,_,_,_,P,Q,K,_⟩:=h;have U:=hp.2.1;have V:=P.2.1;have Y:=Q.2.1;have Z:=K.2.1;have h5:=oV (p:=a.Path) λs F=>(hp.2.2 s F).2.1.2.1;have h6:=oP (p:=a.gS) λs F=>(K.2.2 s F).2.2.1.2.1;unfold C3;rw[AM (x:=(a.cW.length:Int)+(a.ls.length:Int)) (by omega),AM (by omega),AC];rw[show (a.cW.length:Int)+(a.ls.length:Int)+(a.gS.length:Int)=((a.cW.length+a.ls.length+a.gS.length:Nat):Int) by omega];rw[gK (g:=λ(H:Int) (J:oA)=>AQ (H+(AQ (1+(J.lf.length:Int))))),oG (by omega)];show AB _ _=_;rw[AC];rw[gK (g:=λ(H:Int) (J:gF)=>AQ (H+(J.Data.length:Int))),nD (by omega)];dsimp only;congr 1;by_cases M:a.cW.length+a.ls.length+a.gS.length+sA a.Path+sO a.gS<=2000
 ·rw[Xn M,Xn (by omega)]
 rw[Wd M,Wd (by omega)]
def bB {a:gE}(h:gE.rH a)(F:C3 a=some true):tf a:=by rw[eU h] at F;have F:a.cW.length+a.ls.length+a.gS.length+sA a.Path+sO a.gS<=2000:=Xdq (X24 F);have:=lq a.Path;exact⟨by omega,by omega,by omega,by omega,by omega,λu H=>by have:=mH H;omega⟩
def Rf (a:gE):C:=(C3 a).getD false
def UA (a:gE):C3 a=some (Rf a):=by obtain⟨b,h⟩:=X8 a;unfold Rf;rw[h];rfl
def bZ {b:iA}(h:iA.rH b) :∃v,F4 b=some v/\(v=true->tF b/\b.kI.Set.size<=Xb6):=by
 unfold F4
 rw[AC,W8 (bad:=λ_ x=>!Rf x.o3.gE) (st:=λ_ _=>()) (r:=some false) (λnext i x s F=>by
  cases s
  rw[UA,AA]),AC]
 cases H:MH (λ_ (x:fT)=>!Rf x.o3.gE) b.fT 0
 ·refine⟨decide ((b.fT.length:Int)<=40)&&decide ((b.kI.oE.length:Int)<=40),?_,λJ=>?_⟩
  ·rw[Xk (by simp)];cases decide ((b.fT.length:Int)<=40)<;>rfl
  simp only[X26,Xh] at J;rw[IJ] at H;refine⟨⟨by omega,by omega,λx F=>?_⟩,h.1.2.1.1⟩;obtain⟨j,K,e⟩:=List.mem_iff_getElem.1 F;have:=H j x (by rw[X14 K,e]);have:Rf x.o3.gE=true:=by simpa using this
  exact bB (h.2.2.1.2.2 x F).1.2.2.1 (by rw[UA,this])
 exact⟨false,by rw[Xl rfl],λe=>by cases e⟩
def ok_eq {ρ:Type}{m:O ρ}{r:ρ}(h:Ok m λx=>x=r):m=some r:=by obtain⟨x,F,H⟩:=h;rw[F,H]
def zH:fT:=⟨⟨⟨⟨false,0,0⟩,0⟩,0,⟨0,[],⟨false,0,0⟩,0,0,0,[],[],[]⟩⟩,0,false⟩
def vW:o3:=⟨⟨⟨false,0,0⟩,0⟩,0,⟨0,[],⟨false,0,0⟩,0,0,0,[],[],[]⟩⟩
def Im:I fT->fI->fT×C
 | [],_=>(zH,false)
 | x::t,p=>if fI.qK x.o3.fI p=true then (x,true) else Im t p
def bI (b:iA)(p:fI):JB b p=some (Im b.fT p):=by
 unfold JB;rw[AC];have go :∀(l:I fT) (i:Nat),AH (σ:=Unit) (λ_=>(λ_:Unit=>some (zH,false)) ()) (λF (H:fT) i4 _=>if (fI.qK H.o3.fI p) then some (H,true) else F ()) l i ()=some (Im l p):=by
  intro l;induction l with
  | nil=>intro i;rfl
  | cons x t J=>
   intro i;rw[BX];unfold Im;cases K:fI.qK x.o3.fI p
   ·rw[Xk (by simp),Xk (by simp)];exact J (i+1)
   rw[Xl rfl,Xl rfl]
 exact go b.fT 0
def cQ {H F:I fT}{x:fT}{p:fI}(h:At kH BY p H F)(e:kH x=p):Im (H++x::F) p=(x,true):=by
 have J:=h.1;clear h;induction H with
 | nil=>show Im (x::F) p=_;unfold Im;rw[Xl (show fI.qK x.o3.fI p=true from (fI.qm _ _).2 e)]
 | cons y t K=>show Im (y::(t++x::F)) p=_;unfold Im;rw[Xk (λM:fI.qK y.o3.fI p=true=>DI.ne (J y (by simp)) ((fI.qm _ _).1 M))];exact K λz P=>J z (X18 _ P)
def Z1 {l:I fT}{p:fI}(h :∀y∈l,kH y≠p):Im l p=(zH,false):=by
 induction l with
 | nil=>rfl
 | cons y t F=>unfold Im;rw[Xk (λH:fI.qK y.o3.fI p=true=>h y (by simp) ((fI.qm _ _).1 H))];exact F λz J=>h z (X18 _ J)
def lM {b:iA}(M:vi b)(Q:rN kH BY b.fT)(p:fI):Hj b p=some (Im b.fT p):=by
 unfold Hj;have K:=M.h;rcases split DI Q p with ⟨H,x,P,J,e,F⟩|⟨H,P,J,F⟩
 ·rw[J] at K⊢;rw[bD F e (by omega),AA,cQ F e];dsimp only;have U:tl x.o3.gE:=M.a x (by rw[J];simp);have hp:part (H++x::P) (H.length:Int) (((H.length+1:Nat)):Int)=some [x]:=by rw[LX (by omega) (by simp)];simp
  rw[Xk (by simp),AM (by simp at K;omega),show ((H.length:Int)+1)=((H.length+1:Nat):Int) from rfl,hp,AA,Na (by simp) (by simpa using U),AA];rfl
 rw[J] at K⊢;rw[fP F (by omega),AA];dsimp only;rw[Xl (by rfl),Z1]
 ·rfl
 intro y V;rcases X22.1 V with h|h
 ·exact DI.ne (F.1 y h)
 exact DI.ne' (F.2 y h)
def QK (g:fT×C):o3×C:=if (g.2&&(g.1.qx==0))=true then (g.1.o3,true) else (vW,false)
def lh {b:iA}{p:fI}{g:fT×C}(h:Hj b p=some g):Cj b p=some (QK g):=by
 unfold Cj QK;obtain⟨x,f⟩:=g;rw[h,AA];dsimp only;rw[AC];cases f
 ·rfl
 cases F:x.qx==0
 ·have:(x.qx !=0)=true:=by simp only[bne,F];rfl
  rw[this];rfl
 have:(x.qx !=0)=false:=by simp only[bne,F];rfl
 rw[this];rfl
def Ug (b:iA)(p:fI):CJ b p=some (QK (Im b.fT p)):=by
 unfold CJ QK;rw[bI,AA];cases h:Im b.fT p with
 | mk x f=>
  dsimp only;rw[AC];cases f
  ·rfl
  cases F:x.qx==0<;>rfl
end Go.AX.Q25
end
section
namespace Go.AX.Q25
open Go Go.AX Go.AX.sE
section
variable {α σ:Type}
def mK (f:α->σ->O (C×σ))(K:I α)(c:σ):O (Int×σ):=
 AB (τ:=σ) (λM=>AH (σ:=σ) (λH=>M H) (λF (P:α) Q H=>Xg (f P H) λ(v6,J)=>if v6 then some ((Q:Int),J) else F J) K 0 c) λU=>some ((-1),U)
def nf (f:α->σ->O (C×σ))(z:α)(M:I α)(c:σ):O (I α×σ):=
 Xg (mK f M c) λ(v1,v2)=>
 if (v1==(-1)) then
  some (M,v2)
 else
  AB (τ:=Int×(I α)×σ) (λk3=>A3 (σ:=Int×Int×(I α)×σ) (λH (v5,v6,J,Z)=>if (decide (v6<(J.length:Int))) then Xg (iB J v6) λv9=>Xg (f v9 Z) λ(v10,v11)=>AB (τ:=Int×(I α)) (λK=>if (!v10) then Xg (iB J v5) λa1=>Xg (rk J v5 v9) λP=>K ((AQ (v5+1)),P) else K (v5,J) ) λ(Q,U)=>H (Q,(AQ (v6+1)),U,v11) else k3 (v5,J,Z) ) qb (v1,(AQ (v1+1)),M,v2)
  ) λ(v17,F,V)=>
  Xg (rv (0<=v17/\v17<=(F.length:Int)/\(F.length:Int)<=(F.length:Int))) λ_=>
  Xg (part (Xbg (Xi v17) F++Xal (Xi (F.length:Int)-Xi v17) z++Xbh ((Xi v17)+(Xi (F.length:Int)-Xi v17)) F) 0 v17) λY=>
  some (Y,V)
def LJ {l:I α}{k:Nat}{y:α}(F:l[k]?=some y):l.take (k+1)=l.take k++[y]:=by rw[Xc1,F];rfl
def ZP {f:α->σ->O (C×σ)}{q:α->C}{z:α}{c:σ}(hf :∀x,f x c=some (!q x,c)){l:I α}(hl:l.length<=1000000):nf f z l c=some (l.filter q,c):=by
 refine ok_eq ?_;unfold nf;have hi:Ok (mK f l c) λr=>r.2=c/\((r.1=-1/\∀x∈l,q x=true) \/∃k:Nat,r.1=(k:Int)/\k<l.length/\(∀x∈l.take k,q x=true)/\∀x,l[k]?=some x->q x=false):=by
  unfold mK;refine .join (λv=>v=c/\∀x∈l,q x=true) (λk hk=>?_) λv F=>.ret ⟨F.1,.inl ⟨rfl,F.2⟩⟩;refine .sQ (λi v=>v=c/\∀x∈l.take i,q x=true) ⟨rfl,by simp⟩ (λv F=>hk v ⟨F.1,by simpa using F.2⟩) λnext x i v hx F hn=>?_;obtain⟨rfl,F⟩:=F;rw[hf,AA];dsimp only;refine .ite (λh=>.ret ⟨rfl,.inr ⟨i,rfl,(X15.1 hx).1,F,λy H=>?_⟩⟩) λh=>hn _ ⟨rfl,λy H=>?_⟩
  ·rw[hx] at H;cases H;simpa using h
  rw[LJ hx,X22] at H;rcases H with H|H
  ·exact F y H
  rw[X13] at H;rw[H];simpa using h
 refine .bind hi ?_;rintro⟨v1,v2⟩ ⟨h0,h⟩;dsimp only at h0 h⊢;subst h0;rcases h with ⟨rfl,h⟩|⟨k,rfl,hk,h1,h2⟩
 ·rw[Xl (by simp)];exact .ret (by rw[Xcp.2 h])
 rw[Xk (by simp)];have gk:l[k]?=some l[k]:=X14 hk;have qk:q l[k]=false:=h2 _ gk;refine .join (λp:Int×I α×σ=>0<=p.1/\p.1<=l.length/\p.2.1.length=l.length/\p.2.1.take p.1.toNat=l.filter q/\p.2.2=v2) (λk3 a1=>?_) ?_
 ·refine .rB (λp:Int×Int×I α×σ=>0<=p.1/\p.1<=p.2.1/\p.2.1<=l.length/\p.2.2.1.length=l.length/\p.2.2.2=v2/\(∀j:Nat,p.2.1<=j->p.2.2.1[j]?=l[j]?)/\p.2.2.1.take p.1.toNat=(l.take p.2.1.toNat).filter q)
   (λp=>(l.length-p.2.1).toNat) ⟨Xcg k,by dsimp only;rw[AM (by omega)];omega,by dsimp only;rw[AM (by omega)];omega,rfl,rfl,λ_ _=>rfl,?_⟩ (CB (by dsimp only;rw[AM (by omega)];omega)) ?_
  ·dsimp only;rw[AM (by omega),show ((k:Int)+1).toNat=k+1 by omega,LJ gk,Xa3,Xbm,Xcp.2 h1,Xc2 (by simp[qk])];simp
  rintro next ⟨i,j,a,s'⟩ ⟨q1,q2,q3,q4,q5,q6,q7⟩ a6
  dsimp only at q1 q2 q3 q4 q5 q6 q7⊢;subst q5;refine .ite (λJ=>?_) λJ=>?_;rotate_left
  ·simp only[Xh] at J;refine a1 (i,a,s') ⟨q1,by dsimp only;omega,q4,?_,rfl⟩;dsimp only;rw[q7,show j.toNat=l.length by omega,Xcj]
  simp only[Xh] at J;obtain⟨m,rfl⟩ :∃m:Nat,j=(m:Int):=⟨j.toNat,by omega⟩;have gm:l[m]?=some l[m]:=X14 (by omega);have ga:iB a (m:Int)=some l[m]:=Ep (by rw[q6 m (by omega)];exact gm);rw[ga,AA,hf,AA];dsimp only;refine .join (λp:Int×I α=>0<=p.1/\p.1<=(m:Int)+1/\p.2.length=l.length/\(∀j:Nat,(m:Int)+1<=j->p.2[j]?=l[j]?)/\p.2.take p.1.toNat=(l.take (m+1)).filter q) (λaa K=>?_) ?_
  ·refine .ite (λhd=>?_) λhd=>K (i,a) ⟨q1,by dsimp only;omega,q4,λj J=>q6 j (by omega),?_⟩
   ·have a7:i.toNat<a.length:=by omega
    refine .bind (Ok.iB (by omega)) λ_ _=>.bind (Ok.rk (by omega)) λa' M=>K _ ?_;rw[AM (by omega)];refine⟨by dsimp only;omega,by dsimp only;omega,M.2.trans q4,λj J=>?_,?_⟩
    ·dsimp only;rw[M.1,List.getElem?_set_ne (by omega)];exact q6 j (by omega)
    dsimp only;have:q l[m]=true:=by simpa using hd
    rw[show (i+1).toNat=i.toNat+1 by omega,M.1,KV a7,LJ gm,Xbm,q7,Xa3,List.filter_cons_of_pos this];rfl
   dsimp only;have:q l[m]=false:=by simpa using hd
   rw[LJ gm,Xbm,q7,Xa3,Xc2 (by simp[this])];simp
  rintro⟨i',a'⟩ ⟨V,Y,Z,P,Q⟩;dsimp only at V Y Z P Q⊢;refine a6 _ ⟨V,?_,?_,Z,rfl,?_,?_⟩ ?_
  ·dsimp only;rw[AM (by omega)];exact Y
  ·dsimp only;rw[AM (by omega)];omega
  ·intro j J;dsimp only at J⊢;rw[AM (by omega)] at J;exact P j J
  ·dsimp only;rw[AM (by omega),show ((m:Int)+1).toNat=m+1 by omega];exact Q
  dsimp only;rw[AM (by omega)];omega
 rintro⟨i,a,s'⟩ ⟨V,Y,Z,P,Q⟩;dsimp only at V Y Z P Q⊢;subst Q;obtain⟨n,rfl⟩ :∃n:Nat,i=(n:Int):=⟨i.toNat,by omega⟩;rw[ia ⟨by omega,by omega,by omega⟩];rw[Xa3] at P⊢;have U:n<=(Xbg n a++Xal (Xi (a.length:Int)-n) z++Xbh (n+(Xi (a.length:Int)-n)) a).length:=by simp;omega
 have hp:=LX (l:=Xbg n a++Xal (Xi (a.length:Int)-n) z++Xbh (n+(Xi (a.length:Int)-n)) a) (a:=0) (b:=n) (by omega) U;have a8:part (Xbg n a++Xal (Xi (a.length:Int)-n) z++Xbh (n+(Xi (a.length:Int)-n)) a) 0 (n:Int)=some (Xbg n a):=by refine hp.trans ?_;rw[List.drop_zero,Nat.sub_zero,Xav,List.take_append_of_le_length (by simp;omega),List.take_take,Nat.min_self]
 rw[a8,AA,P];exact .ret rfl
end
def aJ (x:fT)(w:Int):Dq x w=some (!P2 w x,w):=by unfold Dq P2;rw[AC];cases x.qA<;>cases (w==0)<;>cases (w==1)<;>cases x.o3.fI.Addr.V6<;>rfl
def tX {b:iA}(h:vi b)(w:Int):G8 b w=some (Vj b w):=by unfold G8;rw[KO h,AA];have:Ah b.fT w=some (b.fT.filter (P2 w),w):=ZP (f:=Dq) (z:=zH) (c:=w) (λx=>aJ x w) h.h;rw[this,AA];show Xg (Bn _) _=_;rw[NB,AA];rfl
end Go.AX.Q25
end
