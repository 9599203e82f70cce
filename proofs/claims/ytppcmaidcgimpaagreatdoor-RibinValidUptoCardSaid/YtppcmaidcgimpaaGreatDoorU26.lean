/-
  Texts of one proof, packed.
-/
import Derived.Test.YtppcmaidcgimpaaGreatDoorU18
import Derived.Test.YtppcmaidcgimpaaGreatDoorU25
set_option linter.all false
set_option maxRecDepth 100000
set_option maxHeartbeats 4000000
open List renaming length_map→X10,length_append→X11,length_cons→X12,length_nil→X13,getElem?_eq_getElem→X15,getElem?_eq_some_iff→X16,length_drop→X17,length_take→X18,mem_cons_of_mem→X19,length_replicate→X20,length_set→X21
open Bool renaming and_eq_true→X27,eq_iff_iff→X28
open Option renaming bind→Wb
open Int renaming toNat→Wo,fdiv→Xas
open Go renaming maxLen→Xb3
section
namespace Go.AX.Q25
open Go Go.AX
def tM {ρ:Type}{a b:C}{K:C->O ρ}:AB (τ:=C) (λk=>if a=true then k true else k (cond false true b)) K=K (a || b):=by rw[AC];cases a<;>rfl
def rA {ρ:Type}{a b c:C}{K:C->O ρ}:AB (τ:=C) (λk=>if a=true then k true else if (cond false true b)=true then k true else k (cond false true c)) K=K (a || (b || c)):=by rw[AC];cases a<;>cases b<;>rfl
def tn {ρ:Type}{a b c d e g:C}{K:C->O ρ}:AB (τ:=C) (λk=>if a=true then k true else if (cond false true b)=true then k true else if (cond false true c)=true then k true else if (cond false true d)=true then k true else if (cond false true e)=true then k true else k (cond false true g)) K=K (a || (b || (c || (d || (e || g))))):=by
 rw[AC];cases a
 ·cases b
  ·cases c
   ·cases d
    ·cases e<;>rfl
    rfl
   rfl
  rfl
 rfl
def um {ρ:Type}{a b c d e g h i j:C}{K:C->O ρ}:AB (τ:=C) (λk=>if a=true then k true else if (cond false true b)=true then k true else if (cond false true c)=true then k true else if (cond false true d)=true then k true else if (cond false true e)=true then k true else if (cond false true g)=true then k true else if (cond false true h)=true then k true else if (cond false true i)=true then k true else k (cond false true j)) K=K (a || (b || (c || (d || (e || (g || (h || (i || j)))))))):=by
 rw[AC];cases a
 ·cases b
  ·cases c
   ·cases d
    ·cases e
     ·cases g
      ·cases h
       ·cases i<;>rfl
       rfl
      rfl
     rfl
    rfl
   rfl
  rfl
 rfl
def pz {ρ:Type}{a b c d e g:C}{K:C->O ρ}:AB (τ:=C) (λk=>if a=true then if (cond true b false)=true then if (cond true c false)=true then if (cond true d false)=true then if (cond true e false)=true then k (cond true g false) else k false else k false else k false else k false else k false) K=K (a&&(b&&(c&&(d&&(e&&g))))):=by
 rw[AC];cases a
 ·rfl
 cases b
 ·rfl
 cases c
 ·rfl
 cases d
 ·rfl
 cases e<;>rfl
def sg {ρ:Type}{a b c d e g h i:C}{K:C->O ρ}:AB (τ:=C) (λk=>if a=true then if (cond true b false)=true then if (cond true c false)=true then if (cond true d false)=true then if (cond true e false)=true then if (cond true g false)=true then if (cond true h false)=true then k (cond true i false) else k false else k false else k false else k false else k false else k false else k false) K=K (a&&(b&&(c&&(d&&(e&&(g&&(h&&i))))))):=by
 rw[AC];cases a
 ·rfl
 cases b
 ·rfl
 cases c
 ·rfl
 cases d
 ·rfl
 cases e
 ·rfl
 cases g
 ·rfl
 cases h<;>rfl
def CF (s:wz):C:=!(decide (s.vY<0) || (decide (s.vY>s.To) || decide (s.To>4294967295)))
def WW (o:kI):C:=CU o.fI&&((decide (o.fI.vg<=o.Max)&&decide (o.Max<=cond o.fI.Addr.V6 128 32))&&(decide (0<=o.tS)&&decide (o.tS<=4294967295)))
def P7 {α:Type}{l:I α}{q:α->C}:(l.any λx=>!q x)=!l.all q:=by rw[X28];simp
def N0 (l:I fI):AS l=some (!l.all CU):=by unfold AS As;rw[<- P7];exact M5 (f:=F8) λx _=>by unfold F8;rw[DG,AA]
def Ow (l:I wz):Af l=some (!l.all CF):=by unfold Af A1;rw[<- P7];exact M5 (f:=GK) λx _=>by unfold GK CF;rw[rA,Bool.not_not]
def No (l:I Int):Az l=some (!l.all Bv):=by unfold Az BI;rw[<- P7];exact M5 (f:=GI) λx _=>by unfold GI;rw[IN,AA];rfl
def Pt (l:I kI):Ab l=some (!l.all WW):=by unfold Ab Ar;rw[<- P7];refine M5 (f:=GF) λx _=>?_;unfold GF WW;simp only[DG,W4,IN,AA];rw[rA,<- Bool.not_and,<- Bool.not_and]
def Od (l:I Addr):Aa l=some (!l.all Addr.ok):=by unfold Aa Aq;rw[<- P7];exact M5 (f:=D7) λx _=>by unfold D7;rw[EU,AA]
def lp (l:I fI)(n:Int):Jg l n=some (l.all CU&&decide ((l.length:Int)<=n)):=by
 unfold Jg;rw[AC];refine (QP (g:=CU) (r0:=some false) λnext x i _=>?_).trans ?_
 ·rw[Du,AA];cases CU x<;>rfl
 cases l.all CU<;>rfl
def ZG (n:Int):Jk n=some (Bv n):=xI n
def Rf (f:vV):C:=
 !(!Bv f.yM || (decide ((f.wF.length:Int)>8) || (decide ((f.vt.length:Int)>64) || (decide ((f.vh.length:Int)>64) || (decide ((f.wm.length:Int)>64) || decide ((f.tF.length:Int)>512)))))) &&(!(decide (f.xu<0) || (decide (f.xu>f.tb) || (decide (f.tb>32) || (decide (f.xr<0) || (decide (f.xr>f.tv) || (decide (f.tv>128) || (!(decide (0<=f.wW)&&decide (f.wW<=32)) || (!(decide (0<=f.wY)&&decide (f.wY<=128)) || !(decide (1<=f.xl)&&decide (f.xl<=60)))))))))) &&(!(!f.wF.all CU || !f.vt.all CU)&&(!(!f.vh.all CF || !f.wm.all Bv)&&(f.tF.all WW&&PU f.we))))
def UB {f:vV}(F :∀s∈f.we.ph,LD s):H4 f=some (Rf f):=by
 unfold H4 Rf;simp only[IN,N0,Ow,No,Pt,JW F,AA];rw[tn,um,tM,tM,AC];show (if (!Bv f.yM || _)=true then _ else _)=_;generalize (!Bv f.yM || (decide ((f.wF.length:Int)>8) || (decide ((f.vt.length:Int)>64) || (decide ((f.vh.length:Int)>64) || (decide ((f.wm.length:Int)>64) || decide ((f.tF.length:Int)>512))))))=a;generalize (decide (f.xu<0) || (decide (f.xu>f.tb) || (decide (f.tb>32) || (decide (f.xr<0) || (decide (f.xr>f.tv) || (decide (f.tv>128) || (!(decide (0<=f.wW)&&decide (f.wW<=32)) || (!(decide (0<=f.wY)&&decide (f.wY<=128)) || !(decide (1<=f.xl)&&decide (f.xl<=60))))))))))=b;generalize (!f.wF.all CU || !f.vt.all CU)=c;generalize (!f.vh.all CF || !f.wm.all Bv)=d;generalize f.tF.all WW=e;cases a
 ·cases b
  ·cases c
   ·cases d
    ·cases e<;>rfl
    rfl
   rfl
  rfl
 rfl
def Vf {a b:Int}:decide (a<=b)=!decide (a>b):=by
 by_cases h:a<=b
 ·rw[Wz h,Xa5 (by omega)];rfl
 rw[Xa5 h,Wz (by omega)];rfl
def dt {a b:Int}:decide (a<b)=!decide (b<=a):=by
 by_cases h:a<b
 ·rw[Wz h,Xa5 (by omega)];rfl
 rw[Xa5 h,Wz (by omega)];rfl
def VF {f:vV}(hz :∀s∈f.we.ph,LD s):Iw f=some (Rf f):=by
 unfold Iw;simp only[ZG,lp,Hj hz,AA];rw[tn,AC,pz,sg];have hA:(!Bv f.yM || (!(f.wF.all CU&&decide ((f.wF.length:Int)<=8)) || (!(f.vt.all CU&&decide ((f.vt.length:Int)<=64)) || (decide ((f.vh.length:Int)>64) || (decide ((f.wm.length:Int)>64) || decide ((f.tF.length:Int)>512))))))=!(Bv f.yM&&((f.wF.all CU&&decide ((f.wF.length:Int)<=8))&&((f.vt.all CU&&decide ((f.vt.length:Int)<=64))&&(decide ((f.vh.length:Int)<=64)&&(decide ((f.wm.length:Int)<=64)&&decide ((f.tF.length:Int)<=512)))))):=by simp only[Bool.not_and,Vf (a:=(f.vh.length:Int)),Vf (a:=(f.wm.length:Int)),Vf (a:=(f.tF.length:Int)),Bool.not_not]
 have hP :∀{K:Unit->O C},AI (σ:=Unit) (λ_=>K ()) (λP (U:wz) i9 _=>AB (τ:=C) (λQ=>if (decide (U.vY<0))=true then Q true else if (cond false true (decide (U.vY>U.To)))=true then Q true else Q (cond false true (decide (U.To>4294967295)))) λY=>if Y=true then some false else P ()) f.vh 0 ()=cond (f.vh.all CF) (K ()) (some false):=by intro K;refine QP (g:=CF) (r0:=some false) λnext x i _=>?_;rw[rA];unfold CF;generalize (decide (x.vY<0) || (decide (x.vY>x.To) || decide (x.To>4294967295)))=a;cases a<;>rfl
 have hF :∀{K:Unit->O C},AI (σ:=Unit) (λ_=>K ()) (λJ (yL:Int) i15 _=>if (!Bv yL)=true then some false else J ()) f.wm 0 ()=cond (f.wm.all Bv) (K ()) (some false):=by intro K;refine QP (g:=Bv) (r0:=some false) λnext x i _=>?_;cases Bv x<;>rfl
 have Z :∀{V:O C},AI (σ:=Unit) (λ_=>V) (λM (F:kI) i20 _=>AB (τ:=C) (λH=>Wb (A8 F.fI) λa1=>if (!a1)=true then H true else if (cond false true (decide (F.Max<F.fI.vg)))=true then H true else Wb (ER F.fI.Addr.V6) λa6=>if (cond false true (decide (F.Max>a6)))=true then H true else if (cond false true (decide (F.tS<0)))=true then H true else H (cond false true (decide (F.tS>4294967295)))) λa7=>if a7=true then some false else M ()) f.tF 0 ()=cond (f.tF.all WW) V (some false):=by
  intro V;refine QP (K:=λ_=>V) (g:=WW) (r0:=some false) λnext x i _=>?_;rw[AC,Du,AA,SD,AA];unfold WW;rw[Vf (a:=x.Max),Vf (a:=x.tS),dt (a:=x.Max),dt (a:=x.tS)];generalize decide (x.fI.vg<=x.Max)=a;generalize decide (x.Max>cond x.fI.Addr.V6 128 32)=b;generalize decide (0<=x.tS)=c;generalize decide (x.tS>4294967295)=d;cases CU x.fI
  ·rfl
  cases a
  ·rfl
  cases b
  ·cases c
   ·rfl
   cases d<;>rfl
  rfl
 simp only[AC] at hP Z⊢;rw[hP,hF];simp only[Du,SD,AA] at Z⊢;rw[Z,hA];unfold Rf;simp only[ge_iff_le,gt_iff_lt,Bool.not_or,Bool.not_not];generalize hg:(Bv f.yM&&((f.wF.all CU&&decide ((f.wF.length:Int)<=8))&&((f.vt.all CU&&decide ((f.vt.length:Int)<=64))&&(decide ((f.vh.length:Int)<=64)&&(decide ((f.wm.length:Int)<=64)&&decide ((f.tF.length:Int)<=512))))))=g;have fin :∀{p q o n r:C},(if (!g)=true then some false else cond p (cond q (cond o (some (n&&r)) (some false)) (some false)) (some false))=some (g&&(p&&(q&&(o&&(n&&r))))):=by
  intro p q o n r;cases g
  ·rfl
  cases p
  ·rfl
  cases q
  ·rfl
  cases o<;>rfl
 refine fin.trans ?_;rw[<- hg];simp only[dt,Bool.not_not];congr 1;ac_rfl
def Mc (p:lf):Cd p=some (Bv p.tS&&((decide (0<=p.tb)&&decide (p.tb<=256))&&((decide (0<=p.tv)&&decide (p.tv<=256))&&(decide ((p.oT.length:Int)<=8)&&p.oT.all Addr.ok)))):=by
 unfold Cd;simp only[IN,Od,AA,Bool.not_not];rw[AC];show (if Bv p.tS=true then _ else _)=_;generalize (decide (0<=p.tb)&&decide (p.tb<=256))=a;generalize (decide (0<=p.tv)&&decide (p.tv<=256))=b;generalize decide ((p.oT.length:Int)<=8)=c;cases Bv p.tS
 ·rfl
 cases a
 ·rfl
 cases b
 ·rfl
 cases c<;>rfl
def O4 (p:lf):EH p=some (Bv p.tS&&((decide (0<=p.tb)&&decide (p.tb<=256))&&((decide (0<=p.tv)&&decide (p.tv<=256))&&(decide ((p.oT.length:Int)<=8)&&p.oT.all Addr.ok)))):=by
 unfold EH;rw[AC];refine (QP (g:=Addr.ok) (r0:=some false) λnext x i _=>?_).trans ?_
 ·rw[Ew,AA];cases x.ok<;>rfl
 simp only[ZG,AA];rw[pz];simp only[ge_iff_le];generalize decide (0<=p.tb)=a;generalize decide (p.tb<=256)=b;generalize decide (0<=p.tv)=c;generalize decide (p.tv<=256)=d;generalize decide ((p.oT.length:Int)<=8)=e;generalize p.oT.all Addr.ok=g;cases Bv p.tS
 ·cases g<;>rfl
 cases a<;>cases b<;>cases c<;>cases d<;>cases e<;>cases g<;>rfl
def qD:I Set:=[⟨sq,[101,102,103,104,105,201,202,203,301],[]⟩,⟨su,[201],[]⟩]
def jx:Oo [] qD=true:=by kernel_rfl
def MF.Mv {f:vV}(h:MF f):PU f.we=true:=by
 have K:f.we.ph=qD:=h.zD;unfold PU;rw[K,jx,Xce,Wz (by decide),Xdb,Wz (by have:=h.gL.1;omega),Xdb,Xa0];intro o M;obtain⟨⟨H,J,Q,U⟩,V⟩:=h.gL.2 o M;unfold Uc;rw[X27,X27,X27];refine⟨⟨⟨(Jj _).2 H.Ca,?_⟩,?_⟩,?_⟩
 ·rw[Wd];rcases H.2 with ⟨P,F⟩|⟨P,F⟩<;>rcases J with ⟨q1,q2⟩|⟨q1,q2⟩
  ·omega
  ·rw[F] at q2;cases q2
  ·rw[F] at q2;cases q2
  omega
 ·rw[Wd];unfold Addr.w;rcases J with ⟨q1,q2⟩|⟨q1,q2⟩<;>rw[q1,q2]<;>decide
 unfold Bv;rw[Wz (by omega),Wz (by omega)];rfl
def dq {r:we}(h:PU r=true) :∀s∈r.ph,LD s:=λs F=>iz ((VC.1 h).1.2 s F)
def MF.CD {f:vV}(h:MF f):Co f:=by refine⟨dq h.Mv,by have:=h.gL.1;omega,by have:=h.DE.1;omega,λx F=>?_⟩;rw[h.DH] at F;simp only[Xa3,Xbs,Xel] at F;subst F;show Addr.ok _=true;kernel_rfl
def nF {n:Nat}(h:n<=4):n<=Xb3:=Xb1 h (by decide)
def Zv (a b:I Int):F6 a b=some (decide (a=b)):=by
 unfold F6;exact Pw (e:=λv x:Int=>x !=v) λx y=>by
  by_cases h:x=y
  ·subst h;simp
  rw[Xa5 h];have:y≠x:=λe=>h e.symm;simpa using this
def cG (a:gE) :∃b,DD a=some b:=by
 have h:Ok (DD a) λ_=>True:=by unfold DD;refine .join (λ_=>True) (λk F=>.for_ (λs=>F s trivial) λnext x i s _ _ H=>H _) λ_ _=>?_;exact .join (λ_=>True) (λk F=>.for_ (λs=>F s trivial) λnext x i s _ _ H=>H _) λ_ _=>.ret trivial
 obtain⟨b,e,_⟩:=h;exact⟨b,e⟩
def YL {l:I Int}(h:l.length<=Xb3):Dk ⟨l,0⟩:=⟨Int.le_refl _,Xb1 h (by decide)⟩
def cA :∀l:I (Int×C),(fs l).Sublist (l.map (·.1))
 | []=>.slnil
 | (k,b)::t=>by
  show (ad b k++fs t).Sublist (k::t.map (·.1));cases b
  ·exact (cA t).cons _
  exact (cA t).cons_cons _
def fi (f:vV)(p:lf)(r:oA):(TX f p r).Pairwise (·<·)/\∀x∈TX f p r,1<=x/\x<=14:=by
 unfold TX;cases Jo r
 ·exact⟨by simp,by simp⟩
 have h:=cA (H2 f p r);have e:(H2 f p r).map (·.1)=[2,3,4,5,6,7,8,9,10,11,12,13,14]:=rfl;rw[e] at h;refine⟨Xea h (by decide),λx F=>?_⟩;have:=h.subset F;simp only[Xa3,Xbs,Xel] at this;omega
def all_nil {f:vV}{p:lf}{r:oA}(h:zu f p r=0):Jo r=true/\b1 p r=false/\b2 p r=false/\yJ f r=false/\b8 p r=false/\b9 f r=false/\zb f p r (EA r.gE)=false:=by
 have J:TX f p r=[]:=by
  obtain⟨_,K⟩:=fi f p r;unfold zu at h;cases he:TX f p r with
  | nil=>rfl
  | cons x t=>rw[he] at h K;have:=K x (by simp);have h':x=0:=h;omega
 unfold TX at J;cases P:Jo r
 ·rw[P] at J;cases J
 rw[P] at J;have H:fs (H2 f p r)=[]:=J;unfold H2 at H;simp only[fs,List.append_eq_nil_iff] at H;have F :∀{b:C} {n:Int},ad b n=[]->b=false:=by
  intro b n h;cases b
  ·rfl
  cases h
 obtain⟨Q,K,h3,U,h5,h6,h7,V,Y,Z,a1,M,a6,_⟩:=H;exact⟨rfl,F Q,F K,F U,F V,F Y,F M⟩
end Go.AX.Q25
end
section
namespace Go.AX.xP
universe u v
structure LO {κ:Type u}(cmp:κ->κ->Int):Prop where
 eq :∀{a b},cmp a b=0↔a=b
 zk :∀{a b},cmp a b<0↔0<cmp b a
 trans :∀{a b c},cmp a b<0->cmp b c<0->cmp a c<0
section
variable {α:Type v} {κ:Type u} {key:α->κ} {cmp:κ->κ->Int}
def wI (key:α->κ)(cmp:κ->κ->Int)(l:I α):Prop:=l.Pairwise λa b=>cmp (key a) (key b)<0
def LO.ne (h:LO cmp){a b:κ}(F:cmp a b<0):a≠b:=λe=>by have:=h.eq.2 e;omega
def LO.ne' (h:LO cmp){a b:κ}(F:0<cmp a b):a≠b:=λe=>by have:=h.eq.2 e;omega
def At (key:α->κ)(cmp:κ->κ->Int)(k:κ)(F H:I α):Prop:=(∀y∈F,cmp (key y) k<0)/\∀y∈H,0<cmp (key y) k
def split (h:LO cmp){l:I α}(Q:wI key cmp l)(k:κ) : (∃F x H,l=F++x::H/\key x=k/\At key cmp k F H)\/(∃F H,l=F++H/\At key cmp k F H):=by
 induction l with
 | nil=>exact .inr ⟨[],[],rfl,by simp[At]⟩
 | cons a t U=>
  obtain⟨M,V⟩:=Xb4.1 Q;rcases Int.lt_trichotomy (cmp (key a) k) 0 with c|c|c
  ·have P :∀F:I α,(∀y∈F,cmp (key y) k<0)->∀y∈a::F,cmp (key y) k<0:=λF p y J=>by
    rcases Xa3.1 J with e|J
    ·rw[e];exact c
    exact p y J
   rcases U V with ⟨F,x,H,K,e,p,q⟩|⟨F,H,K,p,q⟩
   ·exact .inl ⟨a::F,x,H,by rw[K];rfl,e,P F p,q⟩
   exact .inr ⟨a::F,H,by rw[K];rfl,P F p,q⟩
  ·refine .inl ⟨[],a,t,rfl,h.eq.1 c,by simp,λy J=>?_⟩;have:=M y J;rw[h.eq.1 c] at this;exact h.zk.1 this
  refine .inr ⟨[],a::t,rfl,by simp,λy J=>?_⟩;rcases Xa3.1 J with e|J
  ·rw[e];exact c
  exact h.zk.1 (h.trans (h.zk.2 c) (M y J))
def filter_all {p:α->C}{l:I α}(h :∀x∈l,p x=true):l.filter p=l:=Xd1.2 h
def dm (h:LO cmp){k:κ}{F H:I α}{x:α}(K:At key cmp k F H)(e:key x=k){p:α->C}(hp :∀y,p y=true↔key y≠k) : (F++x::H).filter p=F++H:=by
 have M:p x=false:=by
  cases P:p x with
  | false=>rfl
  | true=>exact absurd e ((hp x).1 P)
 rw[Xbt,Xdc (by simp[M]),filter_all λy J=>(hp y).2 (h.ne (K.1 y J)),filter_all λy J=>(hp y).2 (h.ne' (K.2 y J))]
def gh (h:LO cmp){k:κ}{F H:I α}(K:At key cmp k F H){p:α->C}(hp :∀y,p y=true↔key y≠k) : (F++H).filter p=F++H:=by rw[Xbt,filter_all λy J=>(hp y).2 (h.ne (K.1 y J)),filter_all λy J=>(hp y).2 (h.ne' (K.2 y J))]
def At.zq (h:LO cmp){k:κ}{F H:I α}{x:α}(K:At key cmp k F H)(e:key x=k)(P:wI key cmp (F++H)):wI key cmp (F++x::H):=by
 obtain⟨Q,U,V⟩:=Xbm.1 P;refine Xbm.2 ⟨Q,Xb4.2 ⟨λy Y=>?_,U⟩,λa M b J=>?_⟩
 ·rw[e];exact h.zk.2 (K.2 y Y)
 rcases Xa3.1 J with Z|J
 ·rw[Z,e];exact K.1 a M
 exact V a M b J
def mJ {F H:I α}{x:α}(J:wI key cmp (F++x::H)):wI key cmp (F++H):=
 Xea (List.Sublist.append_left (List.sublist_cons_self x H) F) J
def PV {l:I α}{p:α->C}(F:wI key cmp l):wI key cmp (l.filter p):=Xea List.filter_sublist F
def oM (h:LO cmp){l m:I α}(U:wI key cmp l)(V:wI key cmp m)(H :∀x,x∈l↔x∈m):l=m:=by
 induction l generalizing m with
 | nil=>cases m with
  | nil=>rfl
  | cons b t=>exact absurd ((H b).2 Xcd) (by simp)
 | cons a t Y=>cases m with
  | nil=>exact absurd ((H a).1 Xcd) (by simp)
  | cons b s=>
   obtain⟨M,Z⟩:=Xb4.1 U;obtain⟨P,h4⟩:=Xb4.1 V;have J:a=b:=by
    rcases Xa3.1 ((H a).1 Xcd) with e|e
    ·exact e
    rcases Xa3.1 ((H b).2 Xcd) with K|K
    ·exact K.symm
    have:=M b K;have:=h.zk.1 (P a e);omega
   subst J;have Q :∀{u:I α} {x:α},(∀y∈u,cmp (key a) (key y)<0)->x∈u->x≠a:=λhu F e=>by have:=hu _ F;rw[e] at this;exact absurd (h.eq.2 rfl) (by omega:¬ cmp (key a) (key a)=0)
   rw[Y Z h4 λx=>⟨λF=>?_,λF=>?_⟩]
   ·rcases Xa3.1 ((H x).1 (X19 _ F)) with e|e
    ·exact absurd e (Q M F)
    exact e
   rcases Xa3.1 ((H x).2 (X19 _ F)) with e|e
   ·exact absurd e (Q P F)
   exact e
end
end Go.AX.xP
end
section
namespace Go.AX.Q25
open Go Go.AX Go.AX.xP
def ZU (p:fI):I Int:=JM p.Addr++[p.vg]
def BU (a b:fI):Int:=DV (ZU a) (ZU b)
def Uf (a b:fI):(ZU a).length=(ZU b).length:=rfl
def mf {a b:fI}(h:ZU a=ZU b):a=b:=by
 have F:JM a.Addr=JM b.Addr/\a.vg=b.vg:=by have:=List.append_inj h rfl;exact⟨this.1,by simpa using this.2⟩
 cases a;cases b;simp only[fI.mk.injEq];exact⟨U1 F.1,F.2⟩
def BQ:LO BU where
 eq {a b}:=⟨λh=>mf (Ln (Uf a b) h),λh=>by rw[h];exact La _⟩
 zk {a b}:=by unfold BU;have:=Qm (ZU a) (ZU b);omega
 trans h1 h2:=UH (Uf _ _) (Uf _ _) h1 h2
def I2 (a b:fI):EC a b=some (BU a b):=QT a b
def GZ (a b:fI):Ft a b=some (BU a b):=by unfold Ft NL;simp only[kr,YC,fZ,lv,AA,Yu,List.cons_append,Xay];simp only[fb];rfl
def iq {p:I oF}(V:p.length<=1000000)(Y:xm p<=1000000){ρ:Type}{K:I oF->O ρ} : AB (τ:=I oF) (λP=>AI (σ:=I oF) (λv2=>P v2) (λF (H:oF) i5 v2=>Wb (Dz H.o3) λJ=>Wb (gN (α:=oF) 32 v2 ([(⟨H.Set,J⟩:oF)]:I oF)) λM=>F M) p 0 []) K=K p:=by
 have go :∀(l pre:I oF) (i:Nat),pre++l=p->AI (σ:=I oF) (λv2=>K v2) (λF (H:oF) i5 v2=>Wb (Dz H.o3) λJ=>Wb (gN (α:=oF) 32 v2 ([(⟨H.Set,J⟩:oF)]:I oF)) λM=>F M) l i pre=K p:=by
  intro l;induction l with
  | nil=>intro pre i e;rw[Xaj] at e;rw[e];rfl
  | cons x t Q=>
   intro pre i e;have U:x∈p:=by rw[<- e];simp
   have:=P0 U;have Z:pre.length+1<=p.length:=by rw[<- e];simp
   rw[Cb,XT (by omega),AA,AD (by decide) (by simp;omega),AA];exact Q _ _ (by rw[<- e];simp)
 exact go p [] 0 rfl
def gQ {p:I gH}(Y:p.length<=1000000)(Q :∀u∈p,u.Data.length<=1000000){ρ:Type}{K:I gH->O ρ} : AB (τ:=I gH) (λU=>AI (σ:=I gH) (λH=>U H) (λF (J:gH) i13 H=>Wb (DR J.Data) λM=>Wb (gN (α:=gH) 40 H ([{ J with Data:=M }]:I gH)) λP=>F P) p 0 []) K=K p:=by
 have go :∀(l pre:I gH) (i:Nat),pre++l=p->AI (σ:=I gH) (λH=>K H) (λF (J:gH) i13 H=>Wb (DR J.Data) λM=>Wb (gN (α:=gH) 40 H ([{ J with Data:=M }]:I gH)) λP=>F P) l i pre=K p:=by
  intro l;induction l with
  | nil=>intro pre i e;rw[Xaj] at e;rw[e];rfl
  | cons x t V=>
   intro pre i e;have:=Q x (by rw[<- e];simp);have Z:pre.length+1<=p.length:=by rw[<- e];simp
   rw[Cb,Wu (by omega),AA,AD (by decide) (by simp;omega),AA];exact V _ _ (by rw[<- e];simp)
 exact go p [] 0 rfl
def Z2 {a:gE}(h:yG a):EM a=some a:=by unfold EM;rw[iq h.p h.t,gQ h.o h.d];unfold B9 C2;have:=h.c;have:=h.l;rw[AD (by decide) (by simp;omega),AA,AA,AD (by decide) (by simp;omega),AA,AA]
def mi {p:I oF}(U:p.length<=1000000)(V:xm p<=1000000){ρ:Type}{K:I oF->O ρ} : AB (τ:=I oF) (λM=>AI (σ:=I oF) (λv2=>M v2) (λF (H:oF) i5 v2=>Wb (gN (α:=Int) 8 [] H.o3) λ_=>Wb (gN (α:=oF) 32 v2 ([H]:I oF)) λJ=>F J) p 0 []) K=K p:=by
 have go :∀(l pre:I oF) (i:Nat),pre++l=p->AI (σ:=I oF) (λv2=>K v2) (λF (H:oF) i5 v2=>Wb (gN (α:=Int) 8 [] H.o3) λ_=>Wb (gN (α:=oF) 32 v2 ([H]:I oF)) λJ=>F J) l i pre=K p:=by
  intro l;induction l with
  | nil=>intro pre i e;rw[Xaj] at e;rw[e];rfl
  | cons x t P=>
   intro pre i e;have Q:x∈p:=by rw[<- e];simp
   have:=P0 Q;have Y:pre.length+1<=p.length:=by rw[<- e];simp
   rw[Cb,AD (by decide) (by simp;omega),AA,AD (by decide) (by simp;omega),AA];exact P _ _ (by rw[<- e];simp)
 exact go p [] 0 rfl
def lA {p:I gH}(V:p.length<=1000000)(P :∀u∈p,u.Data.length<=1000000){ρ:Type}{K:I gH->O ρ} : AB (τ:=I gH) (λQ=>AI (σ:=I gH) (λH=>Q H) (λF (J:gH) i13 H=>Wb (gN (α:=S) 1 [] J.Data) λ_=>Wb (gN (α:=gH) 40 H ([J]:I gH)) λM=>F M) p 0 []) K=K p:=by
 have go :∀(l pre:I gH) (i:Nat),pre++l=p->AI (σ:=I gH) (λH=>K H) (λF (J:gH) i13 H=>Wb (gN (α:=S) 1 [] J.Data) λ_=>Wb (gN (α:=gH) 40 H ([J]:I gH)) λM=>F M) l i pre=K p:=by
  intro l;induction l with
  | nil=>intro pre i e;rw[Xaj] at e;rw[e];rfl
  | cons x t U=>
   intro pre i e;have:=P x (by rw[<- e];simp);have Y:pre.length+1<=p.length:=by rw[<- e];simp
   rw[Cb,AD (by decide) (by simp;omega),AA,AD (by decide) (by simp;omega),AA];exact U _ _ (by rw[<- e];simp)
 exact go p [] 0 rfl
def eG {a:gE}(h:yG a):DF a=some a:=by unfold DF;have:=h.c;have:=h.l;rw[mi h.p h.t,AD (by decide) (by simp;omega),AA,AD (by decide) (by simp;omega),AA,lA h.o h.d]
structure DM (b:ls):Prop where
 h:b.gD.length<=1000000
 n:b.lf.oT.length<=1000000
 a :∀x∈b.gD,yG x.oA.gE
def RL {p:lf}(h:p.oT.length<=1000000):Ie p=some p:=by unfold Ie Ec;rw[AD (by decide) (by simp;omega),AA,AA]
def L2 {l:I gD}(V:l.length<=1000000)(J :∀x∈l,yG x.oA.gE):IQ l=some l:=by
 unfold IQ;have go :∀(t pre:I gD) (i:Nat),pre++t=l->AI (σ:=I gD) (λv2=>(λK=>some K) v2) (λF (H:gD) i5 v2=>Wb (JB H.oA) λM=>Wb (gN (α:=gD) 208 v2 ([{ H with oA:=M }]:I gD)) λP=>F P) t i pre=some l:=by
  intro t;induction t with
  | nil=>intro pre i e;rw[Xaj] at e;rw[e];rfl
  | cons x t Q=>
   intro pre i e;have Y:pre.length+1<=l.length:=by rw[<- e];simp
   have U:=J x (by rw[<- e];simp);rw[Cb];unfold JB;rw[Z2 U,AA,AA,AD (by decide) (by simp;omega),AA];exact Q _ _ (by rw[<- e];simp)
 exact go l [] 0 rfl
def KN {b:ls}(h:DM b):HE b=some b:=by unfold HE;rw[RL h.n,AA,L2 h.h h.a,AA]
def J2 {b:ls}(h:DM b):EW b=some b:=by
 unfold EW;have:=h.n;rw[AD (by decide) (by simp;omega),AA,AC];have U:=h.h;have go :∀(t pre:I gD) (i:Nat),pre++t=b.gD->AI (σ:=I gD) (λv2=>(λJ=>some ({ b with gD:=J })) v2) (λF (H:gD) i5 v2=>Wb (DF H.oA.gE) λK=>Wb (gN (α:=gD) 208 v2 ([{ H with oA:={ H.oA with gE:=K } }]:I gD)) λM=>F M) t i pre=some b:=by
  intro t;induction t with
  | nil=>intro pre i e;rw[Xaj] at e;rw[e];rfl
  | cons x t P=>
   intro pre i e;have V:pre.length+1<=b.gD.length:=by rw[<- e];simp
   have Q:=h.a x (by rw[<- e];simp);rw[Cb,eG Q,AA,AD (by decide) (by simp;omega),AA];exact P _ _ (by rw[<- e];simp)
 exact go b.gD [] 0 rfl
def kH (h:gD):fI:=h.oA.fI
def half {i j:Nat}(h:i+j<=4000000000):AO ((AT (Xas ((AT (AO ((i:Int)+(j:Int)))).toNat:Int) (2^(min (Wo 1) 64)))).toNat:Int)=(((i+j)/2:Nat):Int):=by
 have F:((AT (AO ((i:Int)+(j:Int)))).toNat:Int)=(i:Int)+(j:Int):=by rw[AG (by omega),KI (by omega)]
 have H:Xas ((i:Int)+(j:Int)) (2^(min (Wo 1) 64))=(((i+j)/2:Nat):Int):=by rw[show (2:Int)^(min (Wo 1) 64)=2 from rfl,Xcp _ (by omega)];omega
 rw[F,H,KI (by omega),AG (by omega)]
def XV {F H:I gD}{p:fI}(Y :∀y∈F,BU (kH y) p<0)(Z :∀y∈H,¬ BU (kH y) p<0)(hl:(F++H).length<=1000000000){ρ:Type}{K:Int->O ρ} : AB (τ:=Int) (λk1=>BD (σ:=Int×Int) (λJ (v3,v4)=>if (decide (v3<v4)) then Wb (mu (F++H) (AO ((AT (Xas ((AT (AO (v3+v4))).toNat:Int) (2^(min (Wo 1) 64)))).toNat:Int))) λv5=>Wb (Cm v5 p) λv6=>AB (τ:=Int×Int) (λU=>if (decide (v6<0)) then U ((AO ((AO ((AT (Xas ((AT (AO (v3+v4))).toNat:Int) (2^(min (Wo 1) 64)))).toNat:Int))+1)),v4) else U (v3,(AO ((AT (Xas ((AT (AO (v3+v4))).toNat:Int) (2^(min (Wo 1) 64)))).toNat:Int))) ) λ(v8,v9)=>J (v8,v9) else k1 v3 ) tE (0,((F++H).length:Int))) K=K (F.length:Int):=by
 rw[AC];have V:(F++H).length=F.length+H.length:=by simp
 refine Dq (λs:Int×Int=>0<=s.1/\s.1<=F.length/\(F.length:Int)<=s.2/\s.2<=((F++H).length:Int)) (λs=>(s.2-s.1).toNat) (λ_=>K (F.length:Int)) ?_ tE (0,((F++H).length:Int)) ⟨by simp,by dsimp only;omega,by dsimp only;omega,by simp⟩ (BW (by dsimp only;omega));rintro next ⟨i,j⟩ ⟨a,b,c,d⟩ Q
 dsimp only at a b c d Q⊢;obtain⟨i,rfl⟩ :∃n:Nat,i=(n:Int):=⟨i.toNat,by omega⟩;obtain⟨j,rfl⟩ :∃n:Nat,j=(n:Int):=⟨j.toNat,by omega⟩;by_cases M:i<j
 ·rw[Wr (by simpa using M),half (by omega)];have hm:(i+j)/2<(F++H).length:=by omega
  rw[BY hm,AA];unfold Cm;rw[GZ,AA,AA,AC];by_cases P:(i+j)/2<F.length
  ·have:(F++H)[(i+j)/2]=F[(i+j)/2]:=Xax P;rw[this,Wr (by simpa[kH] using Y _ (Xae P)),AG (by omega)];exact Q _ ⟨by dsimp only;omega,by dsimp only;omega,c,d⟩ (by dsimp only;omega)
  have:(F++H)[(i+j)/2]=H[(i+j)/2-F.length]'(by omega):=Xbo (by omega);rw[this,Wm (by simpa[kH] using Z _ (Xae _))];exact Q _ ⟨a,b,by dsimp only;omega,by dsimp only;omega⟩ (by dsimp only;omega)
 rw[Wm (by simpa using M),show i=F.length by omega]
def Ru {F H:I gD}{x:gD}{p:fI}(h:At kH BU p F H)(e:kH x=p)(M:(F++x::H).length<=1000000000):Ci (F++x::H) p=some ((F.length:Int),true):=by
 unfold Ci AN;have K:BU (kH x) p=0:=BQ.eq.2 e;have P :∀y∈x::H,¬ BU (kH y) p<0:=by
  intro y J;rcases Xa3.1 J with Q|J
  ·rw[Q,K];omega
  have:=h.2 y J;omega
 rw[XV h.1 P M,AC,Wr (by simp;omega),JY,AA];unfold Cm;rw[GZ,show BU x.oA.fI p=0 from K];rfl
def U2 {F H:I gD}{p:fI}(h:At kH BU p F H)(J:(F++H).length<=1000000000):Ci (F++H) p=some ((F.length:Int),false):=by
 unfold Ci AN;rw[XV h.1 (λy K=>by have:=h.2 y K;omega) J,AC];cases H with
 | nil=>rw[Wm (by simp)];rfl
 | cons y t=>
  rw[Wr (by simp;omega),JY,AA];unfold Cm;rw[GZ,AA,AA];have:(BU y.oA.fI p==0)=false:=by have:=h.2 y (by simp);simp only[Xep];have:0<BU y.oA.fI p:=this;omega
  rw[this];rfl
def pN (l:I gD)(p:fI)(U:l.length<=1000000000):Ok (Ci l p) λr:Int×C=>0<=r.1/\r.1<=(l.length:Int)/\(r.2=true->r.1<(l.length:Int)):=by
 unfold Ci AN;refine .bind (P:=λr:Int×C=>0<=r.1/\r.1<=(l.length:Int)/\(r.2=true->r.1<(l.length:Int))) ?_ λr M=>.ret M;refine .join (λv:Int=>0<=v/\v<=(l.length:Int)) (λk F=>?_) λv K=>?_
 ·refine .wA (λs:Int×Int=>0<=s.1/\s.1<=s.2/\s.2<=(l.length:Int)) (λs=>(s.2-s.1).toNat) ⟨by simp,by simp,by simp⟩ (BW (by dsimp only;omega)) ?_;rintro next ⟨i,j⟩ ⟨a,b,c⟩ J
  dsimp only at a b c J⊢;obtain⟨i,rfl⟩ :∃n:Nat,i=(n:Int):=⟨i.toNat,by omega⟩;obtain⟨j,rfl⟩ :∃n:Nat,j=(n:Int):=⟨j.toNat,by omega⟩;refine .ite (λH=>?_) λH=>F _ ⟨a,by omega⟩;have H:i<j:=by simpa using H
  rw[half (by omega),BY (by omega),AA];unfold Cm;rw[GZ,AA,AA];refine .join (λq:Int×Int=>q=((((i+j)/2+1:Nat):Int),(j:Int))\/q=((i:Int),(((i+j)/2:Nat):Int))) (λk F=>.ite (λ_=>F _ (.inl ?_)) λ_=>F _ (.inr rfl)) ?_
  ·rw[AG (by omega)];rfl
  rintro q (rfl|rfl)
  ·exact J _ ⟨by dsimp only;omega,by dsimp only;omega,c⟩ (by dsimp only;omega)
  exact J _ ⟨a,by dsimp only;omega,by dsimp only;omega⟩ (by dsimp only;omega)
 obtain⟨n,rfl⟩ :∃n:Nat,v=(n:Int):=⟨v.toNat,by omega⟩;refine .join (λb=>b=true->(n:Int)<l.length) (λk F=>.ite (λh=>?_) λh=>F _ (λe=>by cases e)) λb Q=>.ret ⟨K.1,K.2,Q⟩;have h:n<l.length:=by simpa using h
 rw[BY h,AA];unfold Cm;rw[GZ,AA,AA];exact F _ λ_=>by omega
def Qv {α:Type}(bad:Nat->α->C):I α->Nat->C
 | [],_=>false
 | x::t,i=>bad i x || Qv bad t (i+1)
def MV {α:Type}{bad:Nat->α->C} :∀{l:I α} {i:Nat},Qv bad l i=false ↔∀j x,l[j]?=some x->bad (i+j) x=false
 | [],i=>by simp[Qv]
 | a::t,i=>by
  unfold Qv;rw[Bool.or_eq_false_iff,MV];constructor
  ·rintro⟨H,J⟩ j x F;cases j with
   | zero=>cases F;exact H
   | succ j=>have:=J j x F;rwa [show i+1+j=i+(j+1) by omega] at this
  intro h;exact⟨h 0 a rfl,λj x F=>by have:=h (j+1) x F;rwa [show i+(j+1)=i+1+j by omega] at this⟩
def fR {α σ ρ:Type}{l:I α}{bad:Nat->α->C}{st:σ->α->σ}{body:(σ->O ρ)->α->Nat->σ->O ρ}{r:O ρ}{K:σ->O ρ} (H :∀next i x s,l[i]?=some x->body next x i s=if bad i x=true then r else next (st s x)) (s:σ):AI K body l 0 s=if Qv bad l 0=true then r else K (l.foldl st s):=by
 have go :∀(t pre:I α) (s:σ),pre++t=l->AI K body t pre.length s=if Qv bad t pre.length=true then r else K (t.foldl st s):=by
  intro t;induction t with
  | nil=>intro pre s e;rfl
  | cons x t J=>
   intro pre s e;have M:l[pre.length]?=some x:=by rw[<- e];simp
   rw[Cb,H _ _ _ _ M];unfold Qv;cases F:bad pre.length x
   ·rw[Wm (by simp),Bool.false_or];have:=J (pre++[x]) (st s x) (by rw[<- e];simp);simp only[X11,X12,X13,Xbk] at this;exact this
   rw[Wr rfl,Bool.true_or,Wr rfl]
 exact go l [] s rfl
def n0 (l:I gD):Nat:=l.countP λh=>!h.oA.fI.Addr.V6
def n1 (l:I gD):Nat:=l.countP λh=>h.oA.fI.Addr.V6
def Oe {x:gD}{t:I gD}(h:x.oA.fI.Addr.V6=false):n0 (x::t)=n0 t+1/\n1 (x::t)=n1 t:=by unfold n0 n1;simp[List.countP_cons,h]
def SJ {x:gD}{t:I gD}(h:x.oA.fI.Addr.V6=true):n0 (x::t)=n0 t/\n1 (x::t)=n1 t+1:=by unfold n0 n1;simp[List.countP_cons,h]
def eC {ρ:Type}{K:Int×Int->O ρ}{l:I gD}(Z:l.length<=1000000) : AB (τ:=Int×Int) (λU=>AI (σ:=Int×Int) (λ(v2,v3)=>U (v2,v3)) (λF (M:gD) i6 (v2,v3)=>AB (τ:=Int×Int) (λH=>if M.oA.fI.Addr.V6 then H (v2,(AO (v3+1))) else H ((AO (v2+1)),v3)) λ(P,v9)=>F (P,v9)) l 0 (0,0)) K=K ((n0 l:Int),(n1 l:Int)):=by
 have go :∀(t:I gD) (i a b:Nat),a+t.length<=1000000->b+t.length<=1000000->AI (σ:=Int×Int) (λ(v2,v3)=>K (v2,v3)) (λF (M:gD) i6 (v2,v3)=>AB (τ:=Int×Int) (λH=>if M.oA.fI.Addr.V6 then H (v2,(AO (v3+1))) else H ((AO (v2+1)),v3)) λ(P,v9)=>F (P,v9)) t i ((a:Int),(b:Int))=K (((a+n0 t:Nat):Int),((b+n1 t:Nat):Int)):=by
  intro t;induction t with
  | nil=>intro i a b _ _;rfl
  | cons x t Q=>
   intro i a b V Y;simp only[X12] at V Y;rw[Cb];dsimp only;rw[AC];cases J:x.oA.fI.Addr.V6
   ·rw[Wm (by simp)];dsimp only;rw[AG (by omega),show ((a:Int)+1)=((a+1:Nat):Int) from rfl,Q _ _ _ (by omega) (by omega)];simp only[(Oe (t:=t) J).1,(Oe (t:=t) J).2,show a+1+n0 t=a+(n0 t+1) by omega]
   rw[Wr rfl];dsimp only;rw[AG (by omega),show ((b:Int)+1)=((b+1:Nat):Int) from rfl,Q _ _ _ (by omega) (by omega)];simp only[(SJ (t:=t) J).1,(SJ (t:=t) J).2,show b+1+n1 t=b+(n1 t+1) by omega]
 have:=go l 0 0 0 (by omega) (by omega);simp only[Xbk] at this;exact this
def aF {b:ls}(F:b.gD.length<=1000000):F7 b=some ((n0 b.gD:Int),(n1 b.gD:Int)):=by unfold F7;rw[eC F]
def Pj (b:ls):C:=decide ((n0 b.gD:Int)<=b.lf.tb)
def PT (b:ls):C:=decide ((n1 b.gD:Int)<=b.lf.tv)
def fp {b:ls}(hl:b.gD.length<=1000000):G2 b=some (Pj b&&(PT b&&decide ((b.gD.length:Int)<=256))):=by
 unfold G2;have go :∀(t:I gD) (i a c:Nat),a+t.length<=1000000->c+t.length<=1000000->AI (σ:=ye) (λv2=>(λM:ye=>AB (τ:=C) (λJ=>if (decide (M.e0<=b.lf.tb)) then if (cond true (decide (M.e1<=b.lf.tv)) false) then J (cond true (decide ((b.gD.length:Int)<=256)) false) else J false else J false) λK=>some K) v2) (λF (U:gD) i5 v2=>AB (τ:=ye) (λP=>if U.oA.fI.Addr.V6 then P (⟨v2.e0,(AO (v2.e1+1))⟩:ye) else P (⟨(AO (v2.e0+1)),v2.e1⟩:ye)) λV=>F V) t i (⟨(a:Int),(c:Int)⟩:ye)=some (decide (((a+n0 t:Nat):Int)<=b.lf.tb)&&(decide (((c+n1 t:Nat):Int)<=b.lf.tv)&&decide ((b.gD.length:Int)<=256))):=by
  intro t;induction t with
  | nil=>intro i a c _ _;rw[U9];dsimp only;rw[AC];show _=some (decide ((a:Int)<=_)&&(decide ((c:Int)<=_)&&_));cases decide ((a:Int)<=b.lf.tb)<;>cases decide ((c:Int)<=b.lf.tv)<;>rfl
  | cons x t Q=>
   intro i a c Y Z;simp only[X12] at Y Z;rw[Cb,AC];cases H:x.oA.fI.Addr.V6
   ·rw[Wm (by simp)];dsimp only;rw[AG (by omega),show ((a:Int)+1)=((a+1:Nat):Int) from rfl,Q _ _ _ (by omega) (by omega)];simp only[(Oe (t:=t) H).1,(Oe (t:=t) H).2,show a+1+n0 t=a+(n0 t+1) by omega]
   rw[Wr rfl];dsimp only;rw[AG (by omega),show ((c:Int)+1)=((c+1:Nat):Int) from rfl,Q _ _ _ (by omega) (by omega)];simp only[(SJ (t:=t) H).1,(SJ (t:=t) H).2,show c+1+n1 t=c+(n1 t+1) by omega]
 have:=go b.gD 0 0 0 (by omega) (by omega);simp only[Xbk] at this;exact this
def xT (l:I gD):C:=l.any λh=>h.vq
def Zi (l:I gD):HN l=some (xT l):=by
 unfold HN Ax A2 xT;have go :∀(l:I gD) (i:Nat),∃v:Int,AI (σ:=Unit) (λ_=>(λ_:Unit=>some (-1:Int)) ()) (λF (K:gD) M _=>Wb (Gs K) λP=>if P then some (M:Int) else F ()) l i ()=some v/\decide (v≥0)=l.any λh=>h.vq:=by
  intro l;induction l with
  | nil=>intro i;exact⟨-1,rfl,rfl⟩
  | cons x t Q=>
   intro i;rw[Cb,Xdz];unfold Gs;rw[AA];cases U:x.vq
   ·rw[Wm (by simp)];obtain⟨v,H,J⟩:=Q (i+1);exact⟨v,H,by rw[J];simp⟩
   exact⟨(i:Int),by rw[Wr rfl],by rw[Wz (by omega)];simp⟩
 obtain⟨v,H,J⟩:=go l 0;rw[AC,H,AA,AA,J]
def MO (b:ls):CB b=some { b with oX:=cond (xT b.gD) b.oX 0 }:=by unfold CB;rw[Zi,AA,AC];cases xT b.gD<;>rfl
def OY (b:ls):CQ b=some { b with oX:=cond (xT b.gD) b.oX 0 }:=by
 unfold CQ xT;rw[AC];have go :∀(l:I gD) (i:Nat),AI (σ:=Unit) (λ_=>(λ_:Unit=>some ({ ({ b with oX:=0 }) with lf:=(({ b with oX:=0 }:ls).lf) }:ls)) ()) (λF (H:gD) i4 _=>if H.vq then some b else F ()) l i ()=some (cond (l.any λh=>h.vq) b { b with oX:=0 }):=by
  intro l;induction l with
  | nil=>intro i;rfl
  | cons x t J=>
   intro i;rw[Cb,Xdz];cases K:x.vq
   ·rw[Wm (by simp)];exact J (i+1)
   rw[Wr rfl];rfl
 refine (go b.gD 0).trans ?_;cases b.gD.any λh=>h.vq<;>rfl
structure yH (b:ls):Prop where
 h:b.gD.length<=1000000
 n:b.lf.oT.length<=1000000
 a :∀x∈b.gD,xH x.oA.gE
def xH.Gb {a:gE}(h:xH a):yG a:=⟨h.p,h.t,h.c,h.l,h.o,h.d⟩
def yH.zh {b:ls}(h:yH b):DM b:=⟨h.h,h.n,λx F=>(h.a x F).Gb⟩
def Le (p:lf):C:=(Cd p).getD false
def vp (p:lf):Cd p=some (Le p):=by unfold Le;rw[Mc];rfl
def Ng (p:lf):EH p=some (Le p):=by unfold Le;rw[O4,Mc];rfl
def Cu (b:ls)(x:gD):C:=EY x.oA.gE&&(!(x.oA.vY !=b.lf.tS)&&(!(decide (x.vj<0))&&(!(decide (x.vj>14))&&!(!b.Up&&!x.vq))))
def VG (b:ls)(i:Nat)(x:gD):C:=!CU x.oA.fI || (decide ((i:Int)>0)&&decide (BU (kH (b.gD.getD (i-1) x)) (kH x)≥0) || !Cu b x)
def vT {ρ:Type}(H v F J M u s:C)(K:C->O ρ):(if (cond false true (cond true H false))=true then K true else if (cond false true (!v))=true then K true else if (cond false true F)=true then K true else if (cond false true J)=true then K true else if (cond false true M)=true then K true else if (!u)=true then K (cond false true (cond true (!s) false)) else K false)=K (!true || (true&&H || !(v&&(!F&&(!J&&(!M&&!(!u&&!s))))))):=by cases H<;>cases v<;>cases F<;>cases J<;>cases M<;>cases u<;>cases s<;>rfl
def vF {ρ:Type}(M v F H J u s:C)(K:C->O ρ):(if (cond false true (!v))=true then K true else if (cond false true F)=true then K true else if (cond false true H)=true then K true else if (cond false true J)=true then K true else if (!u)=true then K (cond false true (cond true (!s) false)) else K false)=K (!true || (false&&M || !(v&&(!F&&(!H&&(!J&&!(!u&&!s))))))):=by cases M<;>cases v<;>cases F<;>cases H<;>cases J<;>cases u<;>cases s<;>rfl
def eV {ρ:Type}{b:ls}(U:yH b){pv:fI->O C}{pc:fI->fI->O Int}{av:gE->O C}(Y :∀p,pv p=some (CU p))(Z :∀p q,pc p q=some (BU p q))(h3 :∀a,xH a->av a=some (EY a)) {i:Nat} {x:gD} (V:b.gD[i]?=some x) (K:C->O ρ) : (Wb (pv x.oA.fI) λF=>if (!F)=true then K true else if (decide ((i:Int)>0))=true then Wb (mu b.gD (AO ((i:Int)-1))) λH=>Wb (pc H.oA.fI x.oA.fI) λJ=>if (cond false true (cond true (decide (J≥0)) false))=true then K true else Wb (av x.oA.gE) λM=>if (cond false true (!M))=true then K true else if (cond false true (x.oA.vY !=b.lf.tS))=true then K true else if (cond false true (decide (x.vj<0)))=true then K true else if (cond false true (decide (x.vj>14)))=true then K true else if (!b.Up)=true then K (cond false true (cond true (!x.vq) false)) else K false else Wb (av x.oA.gE) λP=>if (cond false true (!P))=true then K true else if (cond false true (x.oA.vY !=b.lf.tS))=true then K true else if (cond false true (decide (x.vj<0)))=true then K true else if (cond false true (decide (x.vj>14)))=true then K true else if (!b.Up)=true then K (cond false true (cond true (!x.vq) false)) else K false)=K (VG b i x):=by
 have hm:=Xcb V;have hi:=(X16.1 V).1;have hl:=U.h;unfold VG Cu;rw[Y,AA,h3 _ (U.a x hm)];cases hg:CU x.oA.fI
 ·rw[Wr (by rfl)];rfl
 rw[Wm (by simp)];by_cases hp:0<i
 ·obtain⟨j,rfl⟩ :∃j,i=j+1:=⟨i-1,by omega⟩;have Q:decide (((j+1:Nat):Int)>0)=true:=Wz (by omega);rw[Q,Wr rfl,AG (by omega),show (((j+1:Nat):Int)-1)=(j:Int) by omega,BY (by omega),AA,Z,AA,AA,vT];have:b.gD.getD (j+1-1) x=b.gD[j]'(by omega):=by rw[Nat.add_sub_cancel,Xa6,X15 (by omega)];rfl
  rw[this];rfl
 have Q:decide ((i:Int)>0)=false:=by simp;omega
 rw[Q,Wm (by simp),AA,vF]
def C9 (b:ls):C:=
 Le b.lf&&(decide ((b.gD.length:Int)<=256)&&(decide (0<=b.oX)&&(decide (b.oX<=1073745919)&&(((b.oX !=0)==xT b.gD)&&(!Qv (VG b) b.gD 0&&(Pj b&&PT b))))))
def Jv {a b:Int}:decide (a>b)=!decide (a<=b):=by
 by_cases h:a<=b
 ·rw[Wz h,Xa5 (by omega)];rfl
 rw[Xa5 h,Wz (by omega)];rfl
def Oa {a b:Int}:decide (a<b)=!decide (b<=a):=by
 by_cases h:b<=a
 ·rw[Wz h,Xa5 (by omega)];rfl
 rw[Xa5 h,Wz (by omega)];rfl
def OM {b:ls}(H:yH b):E0 b=some (C9 b):=by
 unfold E0 C9;simp only[Jv (a:=(b.gD.length:Int)),Jv (a:=b.oX),Oa (a:=b.oX),vp,AA,Zi,AC]
 rw[fR (bad:=VG b) (st:=λ_ _=>()) (r:=some false) (λnext i x s J=>by
  cases s
  exact (eV H DG GZ (λa h=>MY h) J λF=>if F=true then some false else next ()))]
 rw[fp H.h];simp only[AA];cases Le b.lf<;>cases decide ((b.gD.length:Int)<=256)<;>cases decide (0<=b.oX)<;>cases decide (b.oX<=1073745919)<;>cases ((b.oX !=0)==xT b.gD)<;>cases Qv (VG b) b.gD 0<;>cases Pj b<;>cases PT b<;>rfl
def Jz {b:ls}(H:yH b):Da b=some (C9 b):=by
 unfold Da C9;simp only[Jv (a:=(b.gD.length:Int)),Jv (a:=b.oX),Oa (a:=b.oX),Ng,AA,AC]
 rw[fR (bad:=VG b) (st:=λs x=>s || x.vq) (r:=some false) (λnext i x s J=>by
  refine (eV H Du I2 (λa h=>OK h) J λF=>if F=true then some false else (if s=true then next true else next (cond false true x.vq))).trans ?_
  cases VG b i x<;>cases s<;>rfl)]
 rw[aF H.h];have K :∀(l:I gD) (s:C),l.foldl (λs x=>s || x.vq) s=(s || xT l):=by
  intro l;induction l with
  | nil=>intro s;simp[xT]
  | cons x t M=>intro s;rw[Xbh,M];simp[xT,Bool.or_assoc]
 rw[K];simp only[AA,Bool.false_or];have P:(xT b.gD==(b.oX !=0))=((b.oX !=0)==xT b.gD):=by cases xT b.gD<;>cases (b.oX !=0)<;>rfl
 rw[P];show _=some (Le b.lf&&(decide ((b.gD.length:Int)<=256)&&(decide (0<=b.oX)&&(decide (b.oX<=1073745919)&&(((b.oX !=0)==xT b.gD)&&(!Qv (VG b) b.gD 0&&(decide ((n0 b.gD:Int)<=b.lf.tb)&&decide ((n1 b.gD:Int)<=b.lf.tv))))))));cases Le b.lf<;>cases decide ((b.gD.length:Int)<=256)<;>cases decide (0<=b.oX)<;>cases decide (b.oX<=1073745919)<;>cases ((b.oX !=0)==xT b.gD)<;>cases Qv (VG b) b.gD 0<;>cases decide ((n0 b.gD:Int)<=b.lf.tb)<;>cases decide ((n1 b.gD:Int)<=b.lf.tv)<;>rfl
end Go.AX.Q25
end
