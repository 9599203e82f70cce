/-
  Texts of one proof, packed.
-/
import Derived.Test.YtppcmaidcgimpaaGreatDoorS18
import Derived.Test.YtppcmaidcgimpaaGreatDoorS23
set_option linter.all false
set_option maxRecDepth 100000
set_option maxHeartbeats 4000000
open List renaming length_map→X6,length_append→X10,length_cons→X11,length_nil→X12,getElem?_eq_getElem→X14,getElem?_eq_some_iff→X15,length_drop→X16,length_take→X17,mem_cons_of_mem→X18,length_replicate→X19,length_set→X20,mem_append→X22
open Bool renaming and_eq_true→X26,eq_iff_iff→X27
open Option renaming bind→Xg
open Int renaming toNat→Xi,fdiv→Xay
open Go renaming maxLen→Xb6
section
namespace Go.AX.Q25
open Go Go.AX
def pM {ρ:Type}{a b c:C}{K:C->O ρ}:AB (τ:=C) (λk=>if a=true then k true else if (cond false true b)=true then k true else k (cond false true c)) K=K (a || (b || c)):=by rw[AC];cases a<;>cases b<;>rfl
def pi {ρ:Type}{a b c d e g:C}{K:C->O ρ}:AB (τ:=C) (λk=>if a=true then k true else if (cond false true b)=true then k true else if (cond false true c)=true then k true else if (cond false true d)=true then k true else if (cond false true e)=true then k true else k (cond false true g)) K=K (a || (b || (c || (d || (e || g))))):=by
 rw[AC];cases a
 ·cases b
  ·cases c
   ·cases d
    ·cases e<;>rfl
    rfl
   rfl
  rfl
 rfl
def kw {ρ:Type}{a b c d e g:C}{K:C->O ρ}:AB (τ:=C) (λk=>if a=true then if (cond true b false)=true then if (cond true c false)=true then if (cond true d false)=true then if (cond true e false)=true then k (cond true g false) else k false else k false else k false else k false else k false) K=K (a&&(b&&(c&&(d&&(e&&g))))):=by
 rw[AC];cases a
 ·rfl
 cases b
 ·rfl
 cases c
 ·rfl
 cases d
 ·rfl
 cases e<;>rfl
def nI {ρ:Type}{a b c d e g h i:C}{K:C->O ρ}:AB (τ:=C) (λk=>if a=true then if (cond true b false)=true then if (cond true c false)=true then if (cond true d false)=true then if (cond true e false)=true then if (cond true g false)=true then if (cond true h false)=true then k (cond true i false) else k false else k false else k false else k false else k false else k false else k false) K=K (a&&(b&&(c&&(d&&(e&&(g&&(h&&i))))))):=by
 rw[AC];cases a
 ·rfl
 cases b
 ·rfl
 cases c
 ·rfl
 cases d
 ·rfl
 cases e
 ·rfl
 cases g
 ·rfl
 cases h<;>rfl
def vY (s:rc):C:=!(decide (s.qM<0) || (decide (s.qM>s.To) || decide (s.To>4294967295)))
def kO (o:oB):C:=DC o.fI&&((decide (o.fI.qo<=o.Max)&&decide (o.Max<=cond o.fI.Addr.V6 128 32))&&(decide (0<=o.ql)&&decide (o.ql<=4294967295)))
def jT {α:Type}{l:I α}{q:α->C}:(l.any λx=>!q x)=!l.all q:=by rw[X27];simp
def xm (l:I Addr):AW l=some (!l.all Addr.ok):=by unfold AW Ae;rw[<- jT];exact nH (f:=DF) λx _=>by unfold DF;rw[Gq,AA]
def fw (l:I fI)(n:Int):Hf l n=some (l.all DC&&decide ((l.length:Int)<=n)):=by
 unfold Hf;rw[AC];refine (QL (g:=DC) (r0:=some false) λnext x i _=>?_).trans ?_
 ·rw[C0,AA];cases DC x<;>rfl
 cases l.all DC<;>rfl
def WI (n:Int):Hk n=some (Dh n):=sv n
def eI (f:qI):C:=
 !(!Dh f.tg || (decide ((f.rD.length:Int)>8) || (decide ((f.qF.length:Int)>64) || (decide ((f.qp.length:Int)>64) || (decide ((f.qX.length:Int)>64) || decide ((f.qi.length:Int)>512)))))) &&(!(decide (f.sd<0) || (decide (f.sd>f.qh) || (decide (f.qh>32) || (decide (f.s8<0) || (decide (f.s8>f.qg) || (decide (f.qg>128) || (!(decide (0<=f.rK)&&decide (f.rK<=32)) || (!(decide (0<=f.rM)&&decide (f.rM<=128)) || !(decide (1<=f.sf)&&decide (f.sf<=60)))))))))) &&(!(!f.rD.all DC || !f.qF.all DC)&&(!(!f.qp.all vY || !f.qX.all Dh)&&(f.qi.all kO&&Ru f.qS))))
def SL {a b:Int}:decide (a<=b)=!decide (a>b):=by
 by_cases h:a<=b
 ·rw[Xn h,Wd (by omega)];rfl
 rw[Wd h,Xn (by omega)];rfl
def Yl {a b:Int}:decide (a<b)=!decide (b<=a):=by
 by_cases h:a<b
 ·rw[Xn h,Wd (by omega)];rfl
 rw[Wd h,Xn (by omega)];rfl
def Rl {f:qI}(hz :∀s∈f.qS.pk,Qm s):Gu f=some (eI f):=by
 unfold Gu;simp only[WI,fw,Ht hz,AA];rw[pi,AC,kw,nI];have hA:(!Dh f.tg || (!(f.rD.all DC&&decide ((f.rD.length:Int)<=8)) || (!(f.qF.all DC&&decide ((f.qF.length:Int)<=64)) || (decide ((f.qp.length:Int)>64) || (decide ((f.qX.length:Int)>64) || decide ((f.qi.length:Int)>512))))))=!(Dh f.tg&&((f.rD.all DC&&decide ((f.rD.length:Int)<=8))&&((f.qF.all DC&&decide ((f.qF.length:Int)<=64))&&(decide ((f.qp.length:Int)<=64)&&(decide ((f.qX.length:Int)<=64)&&decide ((f.qi.length:Int)<=512)))))):=by simp only[Bool.not_and,SL (a:=(f.qp.length:Int)),SL (a:=(f.qX.length:Int)),SL (a:=(f.qi.length:Int)),Bool.not_not]
 have hP :∀{K:Unit->O C},AH (σ:=Unit) (λ_=>K ()) (λP (U:rc) i9 _=>AB (τ:=C) (λQ=>if (decide (U.qM<0))=true then Q true else if (cond false true (decide (U.qM>U.To)))=true then Q true else Q (cond false true (decide (U.To>4294967295)))) λY=>if Y=true then some false else P ()) f.qp 0 ()=cond (f.qp.all vY) (K ()) (some false):=by intro K;refine QL (g:=vY) (r0:=some false) λnext x i _=>?_;rw[pM];unfold vY;generalize (decide (x.qM<0) || (decide (x.qM>x.To) || decide (x.To>4294967295)))=a;cases a<;>rfl
 have hF :∀{K:Unit->O C},AH (σ:=Unit) (λ_=>K ()) (λJ (Z:Int) i15 _=>if (!Dh Z)=true then some false else J ()) f.qX 0 ()=cond (f.qX.all Dh) (K ()) (some false):=by intro K;refine QL (g:=Dh) (r0:=some false) λnext x i _=>?_;cases Dh x<;>rfl
 have hO :∀{V:O C},AH (σ:=Unit) (λ_=>V) (λM (F:oB) i20 _=>AB (τ:=C) (λH=>Xg (An F.fI) λa1=>if (!a1)=true then H true else if (cond false true (decide (F.Max<F.fI.qo)))=true then H true else Xg (Dj F.fI.Addr.V6) λa6=>if (cond false true (decide (F.Max>a6)))=true then H true else if (cond false true (decide (F.ql<0)))=true then H true else H (cond false true (decide (F.ql>4294967295)))) λa7=>if a7=true then some false else M ()) f.qi 0 ()=cond (f.qi.all kO) V (some false):=by
  intro V;refine QL (K:=λ_=>V) (g:=kO) (r0:=some false) λnext x i _=>?_;rw[AC,C0,AA,O7,AA];unfold kO;rw[SL (a:=x.Max),SL (a:=x.ql),Yl (a:=x.Max),Yl (a:=x.ql)];generalize decide (x.fI.qo<=x.Max)=a;generalize decide (x.Max>cond x.fI.Addr.V6 128 32)=b;generalize decide (0<=x.ql)=c;generalize decide (x.ql>4294967295)=d;cases DC x.fI
  ·rfl
  cases a
  ·rfl
  cases b
  ·cases c
   ·rfl
   cases d<;>rfl
  rfl
 simp only[AC] at hP hO⊢;rw[hP,hF];simp only[C0,O7,AA] at hO⊢;rw[hO,hA];unfold eI;simp only[ge_iff_le,gt_iff_lt,Bool.not_or,Bool.not_not];generalize hg:(Dh f.tg&&((f.rD.all DC&&decide ((f.rD.length:Int)<=8))&&((f.qF.all DC&&decide ((f.qF.length:Int)<=64))&&(decide ((f.qp.length:Int)<=64)&&(decide ((f.qX.length:Int)<=64)&&decide ((f.qi.length:Int)<=512))))))=g;have fin :∀{p q o n r:C},(if (!g)=true then some false else cond p (cond q (cond o (some (n&&r)) (some false)) (some false)) (some false))=some (g&&(p&&(q&&(o&&(n&&r))))):=by
  intro p q o n r;cases g
  ·rfl
  cases p
  ·rfl
  cases q
  ·rfl
  cases o<;>rfl
 refine fin.trans ?_;rw[<- hg];simp only[Yl,Bool.not_not];congr 1;ac_rfl
def Jz (p:kI):B2 p=some (Dh p.ql&&((decide (0<=p.qh)&&decide (p.qh<=256))&&((decide (0<=p.qg)&&decide (p.qg<=256))&&(decide ((p.oE.length:Int)<=8)&&p.oE.all Addr.ok)))):=by
 unfold B2;simp only[Xx,xm,AA,Bool.not_not];rw[AC];show (if Dh p.ql=true then _ else _)=_;generalize (decide (0<=p.qh)&&decide (p.qh<=256))=a;generalize (decide (0<=p.qg)&&decide (p.qg<=256))=b;generalize decide ((p.oE.length:Int)<=8)=c;cases Dh p.ql
 ·rfl
 cases a
 ·rfl
 cases b
 ·rfl
 cases c<;>rfl
def MZ (p:kI):DO p=some (Dh p.ql&&((decide (0<=p.qh)&&decide (p.qh<=256))&&((decide (0<=p.qg)&&decide (p.qg<=256))&&(decide ((p.oE.length:Int)<=8)&&p.oE.all Addr.ok)))):=by
 unfold DO;rw[AC];refine (QL (g:=Addr.ok) (r0:=some false) λnext x i _=>?_).trans ?_
 ·rw[Dx,AA];cases x.ok<;>rfl
 simp only[WI,AA];rw[kw];simp only[ge_iff_le];generalize decide (0<=p.qh)=a;generalize decide (p.qh<=256)=b;generalize decide (0<=p.qg)=c;generalize decide (p.qg<=256)=d;generalize decide ((p.oE.length:Int)<=8)=e;generalize p.oE.all Addr.ok=g;cases Dh p.ql
 ·cases g<;>rfl
 cases a<;>cases b<;>cases c<;>cases d<;>cases e<;>cases g<;>rfl
def lB:I Set:=[⟨nM,[101,102,103,104,105,201,202,203,301],[]⟩,⟨nO,[201],[]⟩]
def dz:Ni [] lB=true:=by kernel_rfl
def MF.xC {f:qI}(h:MF f):Ru f.qS=true:=by
 have K:f.qS.pk=lB:=h.wL;unfold Ru;rw[K,dz,Xca,Xn (by decide),Bool.and_true,Xn (by have:=h.gD.1;omega),Bool.and_true,Xm];intro o M;obtain⟨⟨H,J,Q,U⟩,V⟩:=h.gD.2 o M;unfold WA;rw[X26,X26,X26];refine⟨⟨⟨(Ll _).2 H.vq,?_⟩,?_⟩,?_⟩
 ·rw[Xh];rcases H.2 with ⟨P,F⟩|⟨P,F⟩<;>rcases J with ⟨q1,q2⟩|⟨q1,q2⟩
  ·omega
  ·rw[F] at q2;cases q2
  ·rw[F] at q2;cases q2
  omega
 ·rw[Xh];unfold Addr.w;rcases J with ⟨q1,q2⟩|⟨q1,q2⟩<;>rw[q1,q2]<;>decide
 unfold Dh;rw[Xn (by omega),Xn (by omega)];rfl
def Yk {r:qS}(h:Ru r=true) :∀s∈r.pk,Qm s:=λs F=>cJ ((Rh.1 h).1.2 s F)
def MF.wP {f:qI}(h:MF f):wa f:=by refine⟨Yk h.xC,by have:=h.gD.1;omega,by have:=h.wA.1;omega,λx F=>?_⟩;rw[h.wE] at F;simp only[Xp,Xby,Xdv] at F;subst F;show Addr.ok _=true;kernel_rfl
def iT {n:Nat}(h:n<=4):n<=Xb6:=Xak h (by decide)
def P4 (a b:I Int):Eg a b=some (decide (a=b)):=by
 unfold Eg;exact xB (e:=λv x:Int=>x !=v) λx y=>by
  by_cases h:x=y
  ·subst h;simp
  rw[Wd h];have:y≠x:=λe=>h e.symm;simpa using this
def X8 (a:gE) :∃b,C3 a=some b:=by
 have h:Ok (C3 a) λ_=>True:=by unfold C3;refine .join (λ_=>True) (λk F=>.for_ (λs=>F s trivial) λnext x i s _ _ H=>H _) λ_ _=>?_;exact .join (λ_=>True) (λk F=>.for_ (λs=>F s trivial) λnext x i s _ _ H=>H _) λ_ _=>.ret trivial
 obtain⟨b,e,_⟩:=h;exact⟨b,e⟩
def lz {l:I Int}(h:l.length<=Xb6):Dk ⟨l,0⟩:=⟨Int.le_refl _,Xak h (by decide)⟩
def X7 :∀l:I (Int×C),(fs l).Sublist (l.map (·.1))
 | []=>.slnil
 | (k,b)::t=>by
  show (ad b k++fs t).Sublist (k::t.map (·.1));cases b
  ·exact (X7 t).cons _
  exact (X7 t).cons_cons _
def Zt (f:qI)(p:kI)(r:o3):(Qy f p r).Pairwise (·<·)/\∀x∈Qy f p r,1<=x/\x<=14:=by
 unfold Qy;cases MM r
 ·exact⟨by simp,by simp⟩
 have h:=X7 (NJ f p r);have e:(NJ f p r).map (·.1)=[2,3,4,5,6,7,8,9,10,11,12,13,14]:=rfl;rw[e] at h;refine⟨Xdi h (by decide),λx F=>?_⟩;have:=h.subset F;simp only[Xp,Xby,Xdv] at this;omega
def all_nil {f:qI}{p:kI}{r:o3}(h:uB f p r=0):MM r=true/\b1 p r=false/\b2 p r=false/\tx f r=false/\b8 p r=false/\b9 f r=false/\uC f p r (GL r.gE)=false:=by
 have J:Qy f p r=[]:=by
  obtain⟨_,K⟩:=Zt f p r;unfold uB at h;cases he:Qy f p r with
  | nil=>rfl
  | cons x t=>rw[he] at h K;have:=K x (by simp);have h':x=0:=h;omega
 unfold Qy at J;cases P:MM r
 ·rw[P] at J;cases J
 rw[P] at J;have H:fs (NJ f p r)=[]:=J;unfold NJ at H;simp only[fs,List.append_eq_nil_iff] at H;have F :∀{b:C} {n:Int},ad b n=[]->b=false:=by
  intro b n h;cases b
  ·rfl
  cases h
 obtain⟨Q,K,h3,U,h5,h6,h7,V,Y,Z,a1,M,a6,_⟩:=H;exact⟨rfl,F Q,F K,F U,F V,F Y,F M⟩
end Go.AX.Q25
end
section
namespace Go.AX.sE
universe u v
structure LO {κ:Type u}(cmp:κ->κ->Int):Prop where
 eq :∀{a b},cmp a b=0↔a=b
 th :∀{a b},cmp a b<0↔0<cmp b a
 trans :∀{a b c},cmp a b<0->cmp b c<0->cmp a c<0
section
variable {α:Type v} {κ:Type u} {key:α->κ} {cmp:κ->κ->Int}
def rN (key:α->κ)(cmp:κ->κ->Int)(l:I α):Prop:=l.Pairwise λa b=>cmp (key a) (key b)<0
def LO.ne (h:LO cmp){a b:κ}(F:cmp a b<0):a≠b:=λe=>by have:=h.eq.2 e;omega
def LO.ne' (h:LO cmp){a b:κ}(F:0<cmp a b):a≠b:=λe=>by have:=h.eq.2 e;omega
def At (key:α->κ)(cmp:κ->κ->Int)(k:κ)(F H:I α):Prop:=(∀y∈F,cmp (key y) k<0)/\∀y∈H,0<cmp (key y) k
def split (h:LO cmp){l:I α}(Q:rN key cmp l)(k:κ) : (∃F x H,l=F++x::H/\key x=k/\At key cmp k F H)\/(∃F H,l=F++H/\At key cmp k F H):=by
 induction l with
 | nil=>exact .inr ⟨[],[],rfl,by simp[At]⟩
 | cons a t U=>
  obtain⟨M,V⟩:=Xac.1 Q;rcases Int.lt_trichotomy (cmp (key a) k) 0 with c|c|c
  ·have P :∀F:I α,(∀y∈F,cmp (key y) k<0)->∀y∈a::F,cmp (key y) k<0:=λF p y J=>by
    rcases Xp.1 J with e|J
    ·rw[e];exact c
    exact p y J
   rcases U V with ⟨F,x,H,K,e,p,q⟩|⟨F,H,K,p,q⟩
   ·exact .inl ⟨a::F,x,H,by rw[K];rfl,e,P F p,q⟩
   exact .inr ⟨a::F,H,by rw[K];rfl,P F p,q⟩
  ·refine .inl ⟨[],a,t,rfl,h.eq.1 c,by simp,λy J=>?_⟩;have:=M y J;rw[h.eq.1 c] at this;exact h.th.1 this
  refine .inr ⟨[],a::t,rfl,by simp,λy J=>?_⟩;rcases Xp.1 J with e|J
  ·rw[e];exact c
  exact h.th.1 (h.trans (h.th.2 c) (M y J))
def filter_all {p:α->C}{l:I α}(h :∀x∈l,p x=true):l.filter p=l:=Xcp.2 h
def Yh (h:LO cmp){k:κ}{F H:I α}{x:α}(K:At key cmp k F H)(e:key x=k){p:α->C}(hp :∀y,p y=true↔key y≠k) : (F++x::H).filter p=F++H:=by
 have M:p x=false:=by
  cases P:p x with
  | false=>rfl
  | true=>exact absurd e ((hp x).1 P)
 rw[Xbm,Xc2 (by simp[M]),filter_all λy J=>(hp y).2 (h.ne (K.1 y J)),filter_all λy J=>(hp y).2 (h.ne' (K.2 y J))]
def aO (h:LO cmp){k:κ}{F H:I α}(K:At key cmp k F H){p:α->C}(hp :∀y,p y=true↔key y≠k) : (F++H).filter p=F++H:=by rw[Xbm,filter_all λy J=>(hp y).2 (h.ne (K.1 y J)),filter_all λy J=>(hp y).2 (h.ne' (K.2 y J))]
def At.tu (h:LO cmp){k:κ}{F H:I α}{x:α}(K:At key cmp k F H)(e:key x=k)(P:rN key cmp (F++H)):rN key cmp (F++x::H):=by
 obtain⟨Q,U,V⟩:=Xb4.1 P;refine Xb4.2 ⟨Q,Xac.2 ⟨λy Y=>?_,U⟩,λa M b J=>?_⟩
 ·rw[e];exact h.th.2 (K.2 y Y)
 rcases Xp.1 J with Z|J
 ·rw[Z,e];exact K.1 a M
 exact V a M b J
def gW {F H:I α}{x:α}(J:rN key cmp (F++x::H)):rN key cmp (F++H):=
 Xdi (List.Sublist.append_left (List.sublist_cons_self x H) F) J
def SA {l:I α}{p:α->C}(F:rN key cmp l):rN key cmp (l.filter p):=Xdi List.filter_sublist F
def jS (h:LO cmp){l m:I α}(U:rN key cmp l)(V:rN key cmp m)(H :∀x,x∈l↔x∈m):l=m:=by
 induction l generalizing m with
 | nil=>cases m with
  | nil=>rfl
  | cons b t=>exact absurd ((H b).2 Xc6) (by simp)
 | cons a t Y=>cases m with
  | nil=>exact absurd ((H a).1 Xc6) (by simp)
  | cons b s=>
   obtain⟨M,Z⟩:=Xac.1 U;obtain⟨P,h4⟩:=Xac.1 V;have J:a=b:=by
    rcases Xp.1 ((H a).1 Xc6) with e|e
    ·exact e
    rcases Xp.1 ((H b).2 Xc6) with K|K
    ·exact K.symm
    have:=M b K;have:=h.th.1 (P a e);omega
   subst J;have Q :∀{u:I α} {x:α},(∀y∈u,cmp (key a) (key y)<0)->x∈u->x≠a:=λhu F e=>by have:=hu _ F;rw[e] at this;exact absurd (h.eq.2 rfl) (by omega:¬ cmp (key a) (key a)=0)
   rw[Y Z h4 λx=>⟨λF=>?_,λF=>?_⟩]
   ·rcases Xp.1 ((H x).1 (X18 _ F)) with e|e
    ·exact absurd e (Q M F)
    exact e
   rcases Xp.1 ((H x).2 (X18 _ F)) with e|e
   ·exact absurd e (Q P F)
   exact e
end
end Go.AX.sE
end
section
namespace Go.AX.Q25
open Go Go.AX Go.AX.sE
def QG (p:fI):I Int:=HN p.Addr++[p.qo]
def BY (a b:fI):Int:=CS (QG a) (QG b)
def Qz (a b:fI):(QG a).length=(QG b).length:=rfl
def XR {a b:fI}(h:QG a=QG b):a=b:=by
 have F:HN a.Addr=HN b.Addr/\a.qo=b.qo:=by have:=List.append_inj h rfl;exact⟨this.1,by simpa using this.2⟩
 cases a;cases b;simp only[fI.mk.injEq];exact⟨RY F.1,F.2⟩
def DI:LO BY where
 eq {a b}:=⟨λh=>XR (Hq (Qz a b) h),λh=>by rw[h];exact Hn _⟩
 th {a b}:=by unfold BY;have:=LF (QG a) (QG b);omega
 trans h1 h2:=OD (Qz _ _) (Qz _ _) h1 h2
def G0 (a b:fI):DL a b=some (BY a b):=N5 a b
def Et (a b:fI):Dl a b=some (BY a b):=by unfold Dl NV;simp only[lZ,Jl,kN,YS,AA,d6,List.cons_append,Xba];simp only[Lu];rfl
def cF {p:I oA}(Y:p.length<=1000000)(Z:rZ p<=1000000){ρ:Type}{K:I oA->O ρ} : AB (τ:=I oA) (λQ=>AH (σ:=I oA) (λH=>Q H) (λF (J:oA) i5 H=>Xg (C5 J.lf) λM=>Xg (gH (α:=oA) 32 H ([(⟨J.Set,M⟩:oA)]:I oA)) λP=>F P) p 0 []) K=K p:=by
 have go :∀(l pre:I oA) (i:Nat),pre++l=p->AH (σ:=I oA) (λH=>K H) (λF (J:oA) i5 H=>Xg (C5 J.lf) λM=>Xg (gH (α:=oA) 32 H ([(⟨J.Set,M⟩:oA)]:I oA)) λP=>F P) l i pre=K p:=by
  intro l;induction l with
  | nil=>intro pre i e;rw[Xb0] at e;rw[e];rfl
  | cons x t U=>
   intro pre i e;have V:x∈p:=by rw[<- e];simp
   have:=Uu V;have hl:pre.length+1<=p.length:=by rw[<- e];simp
   rw[BX,cK (by omega),AA,AI (by decide) (by simp;omega),AA];exact U _ _ (by rw[<- e];simp)
 exact go p [] 0 rfl
def aD {p:I gF}(Y:p.length<=1000000)(Q :∀u∈p,u.Data.length<=1000000){ρ:Type}{K:I gF->O ρ} : AB (τ:=I gF) (λU=>AH (σ:=I gF) (λH=>U H) (λF (J:gF) i13 H=>Xg (CQ J.Data) λM=>Xg (gH (α:=gF) 40 H ([{ J with Data:=M }]:I gF)) λP=>F P) p 0 []) K=K p:=by
 have go :∀(l pre:I gF) (i:Nat),pre++l=p->AH (σ:=I gF) (λH=>K H) (λF (J:gF) i13 H=>Xg (CQ J.Data) λM=>Xg (gH (α:=gF) 40 H ([{ J with Data:=M }]:I gF)) λP=>F P) l i pre=K p:=by
  intro l;induction l with
  | nil=>intro pre i e;rw[Xb0] at e;rw[e];rfl
  | cons x t V=>
   intro pre i e;have:=Q x (by rw[<- e];simp);have Z:pre.length+1<=p.length:=by rw[<- e];simp
   rw[BX,aG (by omega),AA,AI (by decide) (by simp;omega),AA];exact V _ _ (by rw[<- e];simp)
 exact go p [] 0 rfl
def hM {a:gE}(h:tl a):Ff a=some a:=by unfold Ff;rw[cF h.p h.t,aD h.o h.d];unfold CC DT;have:=h.c;have:=h.l;rw[AI (by decide) (by simp;omega),AA,AA,AI (by decide) (by simp;omega),AA,AA]
def iG {p:I oA}(V:p.length<=1000000)(Y:rZ p<=1000000){ρ:Type}{K:I oA->O ρ} : AB (τ:=I oA) (λP=>AH (σ:=I oA) (λH=>P H) (λF (J:oA) i5 H=>Xg (gH (α:=Int) 8 [] J.lf) λ_=>Xg (gH (α:=oA) 32 H ([J]:I oA)) λM=>F M) p 0 []) K=K p:=by
 have go :∀(l pre:I oA) (i:Nat),pre++l=p->AH (σ:=I oA) (λH=>K H) (λF (J:oA) i5 H=>Xg (gH (α:=Int) 8 [] J.lf) λ_=>Xg (gH (α:=oA) 32 H ([J]:I oA)) λM=>F M) l i pre=K p:=by
  intro l;induction l with
  | nil=>intro pre i e;rw[Xb0] at e;rw[e];rfl
  | cons x t Q=>
   intro pre i e;have U:x∈p:=by rw[<- e];simp
   have:=Uu U;have Z:pre.length+1<=p.length:=by rw[<- e];simp
   rw[BX,AI (by decide) (by simp;omega),AA,AI (by decide) (by simp;omega),AA];exact Q _ _ (by rw[<- e];simp)
 exact go p [] 0 rfl
def fD {p:I gF}(V:p.length<=1000000)(P :∀u∈p,u.Data.length<=1000000){ρ:Type}{K:I gF->O ρ} : AB (τ:=I gF) (λQ=>AH (σ:=I gF) (λH=>Q H) (λF (J:gF) i13 H=>Xg (gH (α:=S) 1 [] J.Data) λ_=>Xg (gH (α:=gF) 40 H ([J]:I gF)) λM=>F M) p 0 []) K=K p:=by
 have go :∀(l pre:I gF) (i:Nat),pre++l=p->AH (σ:=I gF) (λH=>K H) (λF (J:gF) i13 H=>Xg (gH (α:=S) 1 [] J.Data) λ_=>Xg (gH (α:=gF) 40 H ([J]:I gF)) λM=>F M) l i pre=K p:=by
  intro l;induction l with
  | nil=>intro pre i e;rw[Xb0] at e;rw[e];rfl
  | cons x t U=>
   intro pre i e;have:=P x (by rw[<- e];simp);have Y:pre.length+1<=p.length:=by rw[<- e];simp
   rw[BX,AI (by decide) (by simp;omega),AA,AI (by decide) (by simp;omega),AA];exact U _ _ (by rw[<- e];simp)
 exact go p [] 0 rfl
def Yy {a:gE}(h:tl a):CM a=some a:=by unfold CM;have:=h.c;have:=h.l;rw[iG h.p h.t,AI (by decide) (by simp;omega),AA,AI (by decide) (by simp;omega),AA,fD h.o h.d]
structure vi (b:iA):Prop where
 h:b.fT.length<=1000000
 n:b.kI.oE.length<=1000000
 a :∀x∈b.fT,tl x.o3.gE
def Vn {p:kI}(h:p.oE.length<=1000000):Gj p=some p:=by unfold Gj Du;rw[AI (by decide) (by simp;omega),AA,AA]
def Na {l:I fT}(Y:l.length<=1000000)(K :∀x∈l,tl x.o3.gE):GU l=some l:=by
 unfold GU;have go :∀(t pre:I fT) (i:Nat),pre++t=l->AH (σ:=I fT) (λH=>(λM=>some M) H) (λF (J:fT) i5 H=>Xg (HD J.o3) λP=>Xg (gH (α:=fT) 208 H ([{ J with o3:=P }]:I fT)) λQ=>F Q) t i pre=some l:=by
  intro t;induction t with
  | nil=>intro pre i e;rw[Xb0] at e;rw[e];rfl
  | cons x t U=>
   intro pre i e;have Z:pre.length+1<=l.length:=by rw[<- e];simp
   have V:=K x (by rw[<- e];simp);rw[BX];unfold HD;rw[hM V,AA,AA,AI (by decide) (by simp;omega),AA];exact U _ _ (by rw[<- e];simp)
 exact go l [] 0 rfl
def KO {b:iA}(h:vi b):FR b=some b:=by unfold FR;rw[Vn h.n,AA,Na h.h h.a,AA]
def Jp {b:iA}(h:vi b):D7 b=some b:=by
 unfold D7;have:=h.n;rw[AI (by decide) (by simp;omega),AA,AC];have V:=h.h;have go :∀(t pre:I fT) (i:Nat),pre++t=b.fT->AH (σ:=I fT) (λH=>(λK=>some ({ b with fT:=K })) H) (λF (J:fT) i5 H=>Xg (CM J.o3.gE) λM=>Xg (gH (α:=fT) 208 H ([{ J with o3:={ J.o3 with gE:=M } }]:I fT)) λP=>F P) t i pre=some b:=by
  intro t;induction t with
  | nil=>intro pre i e;rw[Xb0] at e;rw[e];rfl
  | cons x t Q=>
   intro pre i e;have Y:pre.length+1<=b.fT.length:=by rw[<- e];simp
   have U:=h.a x (by rw[<- e];simp);rw[BX,Yy U,AA,AI (by decide) (by simp;omega),AA];exact Q _ _ (by rw[<- e];simp)
 exact go b.fT [] 0 rfl
def kH (h:fT):fI:=h.o3.fI
def half {i j:Nat}(h:i+j<=4000000000):AQ ((AY (Xay ((AY (AQ ((i:Int)+(j:Int)))).toNat:Int) (2^(min (Xi 1) 64)))).toNat:Int)=(((i+j)/2:Nat):Int):=by
 have F:((AY (AQ ((i:Int)+(j:Int)))).toNat:Int)=(i:Int)+(j:Int):=by rw[AM (by omega),IX (by omega)]
 have H:Xay ((i:Int)+(j:Int)) (2^(min (Xi 1) 64))=(((i+j)/2:Nat):Int):=by rw[show (2:Int)^(min (Xi 1) 64)=2 from rfl,Xc3 _ (by omega)];omega
 rw[F,H,IX (by omega),AM (by omega)]
def Uk {F H:I fT}{p:fI}(Y :∀y∈F,BY (kH y) p<0)(Z :∀y∈H,¬ BY (kH y) p<0)(hl:(F++H).length<=1000000000){ρ:Type}{K:Int->O ρ} : AB (τ:=Int) (λk1=>A3 (σ:=Int×Int) (λJ (v3,v4)=>if (decide (v3<v4)) then Xg (iB (F++H) (AQ ((AY (Xay ((AY (AQ (v3+v4))).toNat:Int) (2^(min (Xi 1) 64)))).toNat:Int))) λv5=>Xg (DX v5 p) λv6=>AB (τ:=Int×Int) (λU=>if (decide (v6<0)) then U ((AQ ((AQ ((AY (Xay ((AY (AQ (v3+v4))).toNat:Int) (2^(min (Xi 1) 64)))).toNat:Int))+1)),v4) else U (v3,(AQ ((AY (Xay ((AY (AQ (v3+v4))).toNat:Int) (2^(min (Xi 1) 64)))).toNat:Int))) ) λ(v8,v9)=>J (v8,v9) else k1 v3 ) qb (0,((F++H).length:Int))) K=K (F.length:Int):=by
 rw[AC];have V:(F++H).length=F.length+H.length:=by simp
 refine EL (λs:Int×Int=>0<=s.1/\s.1<=F.length/\(F.length:Int)<=s.2/\s.2<=((F++H).length:Int)) (λs=>(s.2-s.1).toNat) (λ_=>K (F.length:Int)) ?_ qb (0,((F++H).length:Int)) ⟨by simp,by dsimp only;omega,by dsimp only;omega,by simp⟩ (CB (by dsimp only;omega));rintro next ⟨i,j⟩ ⟨a,b,c,d⟩ Q
 dsimp only at a b c d Q⊢;obtain⟨i,rfl⟩ :∃n:Nat,i=(n:Int):=⟨i.toNat,by omega⟩;obtain⟨j,rfl⟩ :∃n:Nat,j=(n:Int):=⟨j.toNat,by omega⟩;by_cases M:i<j
 ·rw[Xl (by simpa using M),half (by omega)];have hm:(i+j)/2<(F++H).length:=by omega
  rw[BS hm,AA];unfold DX;rw[Et,AA,AA,AC];by_cases P:(i+j)/2<F.length
  ·have:(F++H)[(i+j)/2]=F[(i+j)/2]:=Xa9 P;rw[this,Xl (by simpa[kH] using Y _ (Wu P)),AM (by omega)];exact Q _ ⟨by dsimp only;omega,by dsimp only;omega,c,d⟩ (by dsimp only;omega)
  have:(F++H)[(i+j)/2]=H[(i+j)/2-F.length]'(by omega):=Xap (by omega);rw[this,Xk (by simpa[kH] using Z _ (Wu _))];exact Q _ ⟨a,b,by dsimp only;omega,by dsimp only;omega⟩ (by dsimp only;omega)
 rw[Xk (by simpa using M),show i=F.length by omega]
def bD {F H:I fT}{x:fT}{p:fI}(h:At kH BY p F H)(e:kH x=p)(M:(F++x::H).length<=1000000000):D8 (F++x::H) p=some ((F.length:Int),true):=by
 unfold D8 AS;have K:BY (kH x) p=0:=DI.eq.2 e;have P :∀y∈x::H,¬ BY (kH y) p<0:=by
  intro y J;rcases Xp.1 J with Q|J
  ·rw[Q,K];omega
  have:=h.2 y J;omega
 rw[Uk h.1 P M,AC,Xl (by simp;omega),Ji,AA];unfold DX;rw[Et,show BY x.o3.fI p=0 from K];rfl
def fP {F H:I fT}{p:fI}(h:At kH BY p F H)(J:(F++H).length<=1000000000):D8 (F++H) p=some ((F.length:Int),false):=by
 unfold D8 AS;rw[Uk h.1 (λy K=>by have:=h.2 y K;omega) J,AC];cases H with
 | nil=>rw[Xk (by simp)];rfl
 | cons y t=>
  rw[Xl (by simp;omega),Ji,AA];unfold DX;rw[Et,AA,AA];have:(BY y.o3.fI p==0)=false:=by have:=h.2 y (by simp);simp only[Xdx];have:0<BY y.o3.fI p:=this;omega
  rw[this];rfl
def MH {α:Type}(bad:Nat->α->C):I α->Nat->C
 | [],_=>false
 | x::t,i=>bad i x || MH bad t (i+1)
def IJ {α:Type}{bad:Nat->α->C} :∀{l:I α} {i:Nat},MH bad l i=false ↔∀j x,l[j]?=some x->bad (i+j) x=false
 | [],i=>by simp[MH]
 | a::t,i=>by
  unfold MH;rw[Bool.or_eq_false_iff,IJ];constructor
  ·rintro⟨H,J⟩ j x F;cases j with
   | zero=>cases F;exact H
   | succ j=>have:=J j x F;rwa [show i+1+j=i+(j+1) by omega] at this
  intro h;exact⟨h 0 a rfl,λj x F=>by have:=h (j+1) x F;rwa [show i+(j+1)=i+1+j by omega] at this⟩
def W8 {α σ ρ:Type}{l:I α}{bad:Nat->α->C}{st:σ->α->σ}{body:(σ->O ρ)->α->Nat->σ->O ρ}{r:O ρ}{K:σ->O ρ} (H :∀next i x s,l[i]?=some x->body next x i s=if bad i x=true then r else next (st s x)) (s:σ):AH K body l 0 s=if MH bad l 0=true then r else K (l.foldl st s):=by
 have go :∀(t pre:I α) (s:σ),pre++t=l->AH K body t pre.length s=if MH bad t pre.length=true then r else K (t.foldl st s):=by
  intro t;induction t with
  | nil=>intro pre s e;rfl
  | cons x t J=>
   intro pre s e;have M:l[pre.length]?=some x:=by rw[<- e];simp
   rw[BX,H _ _ _ _ M];unfold MH;cases F:bad pre.length x
   ·rw[Xk (by simp),Bool.false_or];have:=J (pre++[x]) (st s x) (by rw[<- e];simp);simp only[X10,X11,X12,Xaa] at this;exact this
   rw[Xl rfl,Bool.true_or,Xl rfl]
 exact go l [] s rfl
def n0 (l:I fT):Nat:=l.countP λh=>!h.o3.fI.Addr.V6
def n1 (l:I fT):Nat:=l.countP λh=>h.o3.fI.Addr.V6
def L2 {x:fT}{t:I fT}(h:x.o3.fI.Addr.V6=false):n0 (x::t)=n0 t+1/\n1 (x::t)=n1 t:=by unfold n0 n1;simp[List.countP_cons,h]
def PC {x:fT}{t:I fT}(h:x.o3.fI.Addr.V6=true):n0 (x::t)=n0 t/\n1 (x::t)=n1 t+1:=by unfold n0 n1;simp[List.countP_cons,h]
def Ys {ρ:Type}{K:Int×Int->O ρ}{l:I fT}(Z:l.length<=1000000) : AB (τ:=Int×Int) (λU=>AH (σ:=Int×Int) (λ(v2,v3)=>U (v2,v3)) (λF (M:fT) i6 (v2,v3)=>AB (τ:=Int×Int) (λH=>if M.o3.fI.Addr.V6 then H (v2,(AQ (v3+1))) else H ((AQ (v2+1)),v3)) λ(P,v9)=>F (P,v9)) l 0 (0,0)) K=K ((n0 l:Int),(n1 l:Int)):=by
 have go :∀(t:I fT) (i a b:Nat),a+t.length<=1000000->b+t.length<=1000000->AH (σ:=Int×Int) (λ(v2,v3)=>K (v2,v3)) (λF (M:fT) i6 (v2,v3)=>AB (τ:=Int×Int) (λH=>if M.o3.fI.Addr.V6 then H (v2,(AQ (v3+1))) else H ((AQ (v2+1)),v3)) λ(P,v9)=>F (P,v9)) t i ((a:Int),(b:Int))=K (((a+n0 t:Nat):Int),((b+n1 t:Nat):Int)):=by
  intro t;induction t with
  | nil=>intro i a b _ _;rfl
  | cons x t Q=>
   intro i a b V Y;simp only[X11] at V Y;rw[BX];dsimp only;rw[AC];cases J:x.o3.fI.Addr.V6
   ·rw[Xk (by simp)];dsimp only;rw[AM (by omega),show ((a:Int)+1)=((a+1:Nat):Int) from rfl,Q _ _ _ (by omega) (by omega)];simp only[(L2 (t:=t) J).1,(L2 (t:=t) J).2,show a+1+n0 t=a+(n0 t+1) by omega]
   rw[Xl rfl];dsimp only;rw[AM (by omega),show ((b:Int)+1)=((b+1:Nat):Int) from rfl,Q _ _ _ (by omega) (by omega)];simp only[(PC (t:=t) J).1,(PC (t:=t) J).2,show b+1+n1 t=b+(n1 t+1) by omega]
 have:=go l 0 0 0 (by omega) (by omega);simp only[Xaa] at this;exact this
def XU {b:iA}(F:b.fT.length<=1000000):Eh b=some ((n0 b.fT:Int),(n1 b.fT:Int)):=by unfold Eh;rw[Ys F]
def TE (b:iA):C:=decide ((n0 b.fT:Int)<=b.kI.qh)
def Ri (b:iA):C:=decide ((n1 b.fT:Int)<=b.kI.qg)
def kj {b:iA}(hl:b.fT.length<=1000000):GX b=some (TE b&&(Ri b&&decide ((b.fT.length:Int)<=256))):=by
 unfold GX;have go :∀(t:I fT) (i a c:Nat),a+t.length<=1000000->c+t.length<=1000000->AH (σ:=sB) (λH=>(λP:sB=>AB (τ:=C) (λK=>if (decide (P.e0<=b.kI.qh)) then if (cond true (decide (P.e1<=b.kI.qg)) false) then K (cond true (decide ((b.fT.length:Int)<=256)) false) else K false else K false) λM=>some M) H) (λF (V:fT) i5 H=>AB (τ:=sB) (λQ=>if V.o3.fI.Addr.V6 then Q (⟨H.e0,(AQ (H.e1+1))⟩:sB) else Q (⟨(AQ (H.e0+1)),H.e1⟩:sB)) λY=>F Y) t i (⟨(a:Int),(c:Int)⟩:sB)=some (decide (((a+n0 t:Nat):Int)<=b.kI.qh)&&(decide (((c+n1 t:Nat):Int)<=b.kI.qg)&&decide ((b.fT.length:Int)<=256))):=by
  intro t;induction t with
  | nil=>intro i a c _ _;rw[Kx];dsimp only;rw[AC];show _=some (decide ((a:Int)<=_)&&(decide ((c:Int)<=_)&&_));cases decide ((a:Int)<=b.kI.qh)<;>cases decide ((c:Int)<=b.kI.qg)<;>rfl
  | cons x t U=>
   intro i a c Z hc;simp only[X11] at Z hc;rw[BX,AC];cases J:x.o3.fI.Addr.V6
   ·rw[Xk (by simp)];dsimp only;rw[AM (by omega),show ((a:Int)+1)=((a+1:Nat):Int) from rfl,U _ _ _ (by omega) (by omega)];simp only[(L2 (t:=t) J).1,(L2 (t:=t) J).2,show a+1+n0 t=a+(n0 t+1) by omega]
   rw[Xl rfl];dsimp only;rw[AM (by omega),show ((c:Int)+1)=((c+1:Nat):Int) from rfl,U _ _ _ (by omega) (by omega)];simp only[(PC (t:=t) J).1,(PC (t:=t) J).2,show c+1+n1 t=c+(n1 t+1) by omega]
 have:=go b.fT 0 0 0 (by omega) (by omega);simp only[Xaa] at this;exact this
def ss (l:I fT):C:=l.any λh=>h.qA
def Wq (l:I fT):FX l=some (ss l):=by
 unfold FX Ag Ai ss;have go :∀(l:I fT) (i:Nat),∃v:Int,AH (σ:=Unit) (λ_=>(λ_:Unit=>some (-1:Int)) ()) (λF (K:fT) M _=>Xg (E8 K) λP=>if P then some (M:Int) else F ()) l i ()=some v/\decide (v≥0)=l.any λh=>h.qA:=by
  intro l;induction l with
  | nil=>intro i;exact⟨-1,rfl,rfl⟩
  | cons x t Q=>
   intro i;rw[BX,Xdh];unfold E8;rw[AA];cases U:x.qA
   ·rw[Xk (by simp)];obtain⟨v,H,J⟩:=Q (i+1);exact⟨v,H,by rw[J];simp⟩
   exact⟨(i:Int),by rw[Xl rfl],by rw[Xn (by omega)];simp⟩
 obtain⟨v,H,J⟩:=go l 0;rw[AC,H,AA,AA,J]
def NB (b:iA):Bn b=some { b with oT:=cond (ss b.fT) b.oT 0 }:=by unfold Bn;rw[Wq,AA,AC];cases ss b.fT<;>rfl
def Lt (b:iA):Br b=some { b with oT:=cond (ss b.fT) b.oT 0 }:=by
 unfold Br ss;rw[AC];have go :∀(l:I fT) (i:Nat),AH (σ:=Unit) (λ_=>(λ_:Unit=>some ({ ({ b with oT:=0 }) with kI:=(({ b with oT:=0 }:iA).kI) }:iA)) ()) (λF (H:fT) i4 _=>if H.qA then some b else F ()) l i ()=some (cond (l.any λh=>h.qA) b { b with oT:=0 }):=by
  intro l;induction l with
  | nil=>intro i;rfl
  | cons x t J=>
   intro i;rw[BX,Xdh];cases K:x.qA
   ·rw[Xk (by simp)];exact J (i+1)
   rw[Xl rfl];rfl
 refine (go b.fT 0).trans ?_;cases b.fT.any λh=>h.qA<;>rfl
structure tF (b:iA):Prop where
 h:b.fT.length<=1000000
 n:b.kI.oE.length<=1000000
 a :∀x∈b.fT,tf x.o3.gE
def tf.wb {a:gE}(h:tf a):tl a:=⟨h.p,h.t,h.c,h.l,h.o,h.d⟩
def tF.uc {b:iA}(h:tF b):vi b:=⟨h.h,h.n,λx F=>(h.a x F).wb⟩
def JH (p:kI):C:=(B2 p).getD false
def vp (p:kI):B2 p=some (JH p):=by unfold JH;rw[Jz];rfl
def xj (p:kI):DO p=some (JH p):=by unfold JH;rw[MZ,Jz];rfl
def uE (b:iA)(x:fT):C:=GE x.o3.gE&&(!(x.o3.qM !=b.kI.ql)&&(!(decide (x.qx<0))&&(!(decide (x.qx>14))&&!(!b.Up&&!x.qA))))
def Rm (b:iA)(i:Nat)(x:fT):C:=!DC x.o3.fI || (decide ((i:Int)>0)&&decide (BY (kH (b.fT.getD (i-1) x)) (kH x)≥0) || !uE b x)
def vT {ρ:Type}(H v F J M u s:C)(K:C->O ρ):(if (cond false true (cond true H false))=true then K true else if (cond false true (!v))=true then K true else if (cond false true F)=true then K true else if (cond false true J)=true then K true else if (cond false true M)=true then K true else if (!u)=true then K (cond false true (cond true (!s) false)) else K false)=K (!true || (true&&H || !(v&&(!F&&(!J&&(!M&&!(!u&&!s))))))):=by cases H<;>cases v<;>cases F<;>cases J<;>cases M<;>cases u<;>cases s<;>rfl
def vF {ρ:Type}(M v F H J u s:C)(K:C->O ρ):(if (cond false true (!v))=true then K true else if (cond false true F)=true then K true else if (cond false true H)=true then K true else if (cond false true J)=true then K true else if (!u)=true then K (cond false true (cond true (!s) false)) else K false)=K (!true || (false&&M || !(v&&(!F&&(!H&&(!J&&!(!u&&!s))))))):=by cases M<;>cases v<;>cases F<;>cases H<;>cases J<;>cases u<;>cases s<;>rfl
def ZF {ρ:Type}{b:iA}(U:tF b){pv:fI->O C}{pc:fI->fI->O Int}{av:gE->O C}(Y :∀p,pv p=some (DC p))(Z :∀p q,pc p q=some (BY p q))(h3 :∀a,tf a->av a=some (GE a)) {i:Nat} {x:fT} (V:b.fT[i]?=some x) (K:C->O ρ) : (Xg (pv x.o3.fI) λF=>if (!F)=true then K true else if (decide ((i:Int)>0))=true then Xg (iB b.fT (AQ ((i:Int)-1))) λH=>Xg (pc H.o3.fI x.o3.fI) λJ=>if (cond false true (cond true (decide (J≥0)) false))=true then K true else Xg (av x.o3.gE) λM=>if (cond false true (!M))=true then K true else if (cond false true (x.o3.qM !=b.kI.ql))=true then K true else if (cond false true (decide (x.qx<0)))=true then K true else if (cond false true (decide (x.qx>14)))=true then K true else if (!b.Up)=true then K (cond false true (cond true (!x.qA) false)) else K false else Xg (av x.o3.gE) λP=>if (cond false true (!P))=true then K true else if (cond false true (x.o3.qM !=b.kI.ql))=true then K true else if (cond false true (decide (x.qx<0)))=true then K true else if (cond false true (decide (x.qx>14)))=true then K true else if (!b.Up)=true then K (cond false true (cond true (!x.qA) false)) else K false)=K (Rm b i x):=by
 have hm:=Xbu V;have hi:=(X15.1 V).1;have hl:=U.h;unfold Rm uE;rw[Y,AA,h3 _ (U.a x hm)];cases hg:DC x.o3.fI
 ·rw[Xl (by rfl)];rfl
 rw[Xk (by simp)];by_cases hp:0<i
 ·obtain⟨j,rfl⟩ :∃j,i=j+1:=⟨i-1,by omega⟩;have Q:decide (((j+1:Nat):Int)>0)=true:=Xn (by omega);rw[Q,Xl rfl,AM (by omega),show (((j+1:Nat):Int)-1)=(j:Int) by omega,BS (by omega),AA,Z,AA,AA,vT];have:b.fT.getD (j+1-1) x=b.fT[j]'(by omega):=by rw[Nat.add_sub_cancel,Xo,X14 (by omega)];rfl
  rw[this];rfl
 have Q:decide ((i:Int)>0)=false:=by simp;omega
 rw[Q,Xk (by simp),AA,vF]
def DJ (b:iA):C:=
 JH b.kI&&(decide ((b.fT.length:Int)<=256)&&(decide (0<=b.oT)&&(decide (b.oT<=1073745919)&&(((b.oT !=0)==ss b.fT)&&(!MH (Rm b) b.fT 0&&(TE b&&Ri b))))))
def H3 {a b:Int}:decide (a>b)=!decide (a<=b):=by
 by_cases h:a<=b
 ·rw[Xn h,Wd (by omega)];rfl
 rw[Wd h,Xn (by omega)];rfl
def Ly {a b:Int}:decide (a<b)=!decide (b<=a):=by
 by_cases h:b<=a
 ·rw[Xn h,Wd (by omega)];rfl
 rw[Wd h,Xn (by omega)];rfl
def UC {b:iA}(H:tF b):Ef b=some (DJ b):=by
 unfold Ef DJ;simp only[H3 (a:=(b.fT.length:Int)),H3 (a:=b.oT),Ly (a:=b.oT),vp,AA,Wq,AC]
 rw[W8 (bad:=Rm b) (st:=λ_ _=>()) (r:=some false) (λnext i x s J=>by
  cases s
  exact (ZF H J6 Et (λa h=>Yc h) J λF=>if F=true then some false else next ()))]
 rw[kj H.h];simp only[AA];cases JH b.kI<;>cases decide ((b.fT.length:Int)<=256)<;>cases decide (0<=b.oT)<;>cases decide (b.oT<=1073745919)<;>cases ((b.oT !=0)==ss b.fT)<;>cases MH (Rm b) b.fT 0<;>cases TE b<;>cases Ri b<;>rfl
def NC {b:iA}(H:tF b):Ee b=some (DJ b):=by
 unfold Ee DJ;simp only[H3 (a:=(b.fT.length:Int)),H3 (a:=b.oT),Ly (a:=b.oT),xj,AA,AC]
 rw[W8 (bad:=Rm b) (st:=λs x=>s || x.qA) (r:=some false) (λnext i x s J=>by
  refine (ZF H C0 G0 (λa h=>Ld h) J λF=>if F=true then some false else (if s=true then next true else next (cond false true x.qA))).trans ?_
  cases Rm b i x<;>cases s<;>rfl)]
 rw[XU H.h];have K :∀(l:I fT) (s:C),l.foldl (λs x=>s || x.qA) s=(s || ss l):=by
  intro l;induction l with
  | nil=>intro s;simp[ss]
  | cons x t M=>intro s;rw[Xbb,M];simp[ss,Bool.or_assoc]
 rw[K];simp only[AA,Bool.false_or];have P:(ss b.fT==(b.oT !=0))=((b.oT !=0)==ss b.fT):=by cases ss b.fT<;>cases (b.oT !=0)<;>rfl
 rw[P];show _=some (JH b.kI&&(decide ((b.fT.length:Int)<=256)&&(decide (0<=b.oT)&&(decide (b.oT<=1073745919)&&(((b.oT !=0)==ss b.fT)&&(!MH (Rm b) b.fT 0&&(decide ((n0 b.fT:Int)<=b.kI.qh)&&decide ((n1 b.fT:Int)<=b.kI.qg))))))));cases JH b.kI<;>cases decide ((b.fT.length:Int)<=256)<;>cases decide (0<=b.oT)<;>cases decide (b.oT<=1073745919)<;>cases ((b.oT !=0)==ss b.fT)<;>cases MH (Rm b) b.fT 0<;>cases decide ((n0 b.fT:Int)<=b.kI.qh)<;>cases decide ((n1 b.fT:Int)<=b.kI.qg)<;>rfl
def iQ {α H:Type}{key:α->H}{cmp:H->H->Int}(lo:LO cmp) :∀{l:I α},(∀j x y,l[j]?=some x->l[j+1]?=some y->cmp (key x) (key y)<0)->rN key cmp l
 | [],_=>List.Pairwise.nil
 | a::t,h=>by
  have J:rN key cmp t:=iQ lo λj x y M P=>h (j+1) x y M P;refine Xac.2 ⟨λb F=>?_,J⟩;cases t with
  | nil=>cases F
  | cons c s=>
   have K:=h 0 a c rfl rfl;rcases Xp.1 F with e|F
   ·rw[e];exact K
   exact lo.trans K ((Xac.1 J).1 b F)
structure VR (b:iA):Prop where
 peer:JH b.kI=true
 len:b.fT.length<=256
 u0:0<=b.oT
 u1:b.oT<=1073745919
 st:(b.oT !=0)=ss b.fT
 rN:rN kH BY b.fT
 ok :∀x∈b.fT,DC x.o3.fI=true/\uE b x=true
 f4:TE b=true
 f6:Ri b=true
def VR.of {b:iA}(h:DJ b=true):VR b:=by
 unfold DJ at h;simp only[X26,Xh,Xc0,Xbj] at h;obtain⟨M,h2,P,Q,U,H,V,Y⟩:=h;rw[IJ] at H;have J :∀j x,b.fT[j]?=some x->DC x.o3.fI=true/\(0<j->BY (kH (b.fT.getD (j-1) x)) (kH x)<0)/\uE b x=true:=by intro j x F;have:=H j x F;rw[Xaa] at this;unfold Rm at this;simp only[Bool.or_eq_false_iff,Bool.not_eq_false',Bool.and_eq_false_imp,Xh,Xar] at this;refine⟨this.1,λK=>?_,this.2.2⟩;have:=this.2.1 (by omega);omega
 refine⟨M,by omega,P,Q,U,iQ DI λj x y F Z=>?_,λx F=>?_,V,Y⟩
 ·have:=(J (j+1) y Z).2.1 (by omega);rw[Nat.add_sub_cancel,Xo,F] at this;exact this
 obtain⟨j,K,e⟩:=List.mem_iff_getElem.1 F;have:=J j x (by rw[X14 K,e]);exact⟨this.1,this.2.2⟩
def VR.to {b:iA}(h:VR b):DJ b=true:=by unfold DJ;simp only[X26,Xh,Xc0,Xbj];refine⟨h.peer,by have:=h.len;omega,h.u0,h.u1,h.st,?_,h.f4,h.f6⟩;rw[IJ];intro j x F;rw[Xaa];have H:=Xbu F;unfold Rm;simp only[Bool.or_eq_false_iff,Bool.not_eq_false',Bool.and_eq_false_imp,Xh,Xar];refine⟨(h.ok x H).1,λK=>?_,(h.ok x H).2⟩;have J:=(X15.1 F).1;rw[Xo,X14 (by omega)];have:=(List.pairwise_iff_getElem.1 h.rN) (j-1) j (by omega) J (by omega);rw[(X15.1 F).2] at this;show ¬ BY (kH b.fT[j-1]) (kH x)≥0;omega
def G7 (l:I fT)(p:fI):I fT:=l.filter λh=>!(fI.qK h.o3.fI p)
def LY (l:I fT)(h:fT):I fT:=(l.filter λx=>decide (BY (kH x) (kH h)<0))++h::l.filter λx=>decide (0<BY (kH x) (kH h))
def fy (p:fI)(y:fT):(!(fI.qK y.o3.fI p))=true↔kH y≠p:=by rw[Xbj,<- Bool.not_eq_true,fI.qm];rfl
def X9 {F H:I fT}{x:fT}{p:fI}(h:At kH BY p F H)(e:kH x=p):G7 (F++x::H) p=F++H:=Yh DI h e (fy p)
def bP {F H:I fT}{p:fI}(h:At kH BY p F H):G7 (F++H) p=F++H:=aO DI h (fy p)
def NX {H J:I fT}{h:fT}(K:At kH BY (kH h) H J):LY (H++J) h=H++h::J:=by
 unfold LY;rw[Xbm,Xbm];have M:H.filter (λx=>decide (BY (kH x) (kH h)<0))=H:=Xcp.2 λ(y:fT) F=>Xn (K.1 y F);have P:J.filter (λx=>decide (BY (kH x) (kH h)<0))=[]:=List.filter_eq_nil_iff.2 λy F=>by have:=K.2 y F;simp;omega
 have Q:H.filter (λx=>decide (0<BY (kH x) (kH h)))=[]:=List.filter_eq_nil_iff.2 λy F=>by have:=K.1 y F;simp;omega
 have U:J.filter (λx=>decide (0<BY (kH x) (kH h)))=J:=Xcp.2 λ(y:fT) F=>Xn (K.2 y F);rw[M,P,Q,U,Xb0,Xba]
def PK {F H:I fT}{x h:fT}(K:At kH BY (kH h) F H)(e:kH x=kH h):LY (F++x::H) h=F++h::H:=by have J:BY (kH x) (kH h)=0:=DI.eq.2 e;unfold LY;rw[Xbm,Xbm,Xc2 (by rw[J];simp),Xc2 (by rw[J];simp),<- Xbm,<- Xbm];exact NX K
def bV {l:I fT}{p:fI}(h:rN kH BY l):rN kH BY (G7 l p):=SA h
def UX (l:I fT)(p:fI):(G7 l p).length<=l.length:=List.length_filter_le _ _
def Wv {l:I fT}{h:fT}(H:rN kH BY l):rN kH BY (LY l h):=by
 rcases split DI H (kH h) with ⟨J,x,K,rfl,e,F⟩|⟨J,K,rfl,F⟩
 ·rw[PK F e];exact F.tu DI rfl (gW H)
 rw[NX F];exact F.tu DI rfl H
def Tu {l:I fT}{h:fT}(H:rN kH BY l):(LY l h).length<=l.length+1:=by
 rcases split DI H (kH h) with ⟨J,x,K,rfl,e,F⟩|⟨J,K,rfl,F⟩
 ·rw[PK F e];simp
 rw[NX F];simp;omega
def eV {l:I fT}{h x:fT}(F:x∈LY l h):x=h\/x∈l:=by
 unfold LY at F;rw[X22,Xp] at F;rcases F with F|F|F
 ·exact .inr (Xcv.1 F).1
 ·exact .inl F
 exact .inr (Xcv.1 F).1
def aP {l:I fT}{p:fI}{x:fT}(F:x∈G7 l p):x∈l:=(Xcv.1 F).1
def SX {l:I fT}{p:fI}(U:l.length<=1000000):Dp l p=some (G7 l p):=by
 unfold Dp;have go :∀(t:I fT) (i:Nat) (F:I fT),F.length+t.length<=1000000->AH (σ:=I fT) (λJ=>(λV=>some V) J) (λH (K:fT) i5 J=>AB (τ:=(I fT)) (λM=>if (!(fI.qK K.o3.fI p)) then Xg (gH (α:=fT) 208 J ([K]:I fT)) λY=>M Y else M J) λZ=>H Z) t i F=some (F++G7 t p):=by
  intro t;induction t with
  | nil=>intro i F _;rw[Kx];simp[G7]
  | cons x t P=>
   intro i F h;simp only[X11] at h;rw[BX,AC];cases Q:fI.qK x.o3.fI p
   ·rw[Xl (by rfl),AI (by decide) (by simp;omega),AA];refine (P _ _ (by simp;omega)).trans ?_;simp[G7,Q]
   rw[Xk (by simp)];refine (P _ _ (by omega)).trans ?_;simp[G7,Q]
 exact (go l 0 [] (by simpa using U)).trans (by simp)
end Go.AX.Q25
end
