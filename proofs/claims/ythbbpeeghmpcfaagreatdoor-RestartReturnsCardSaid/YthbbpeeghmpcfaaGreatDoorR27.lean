/-
  Texts of one proof, packed.
-/
import Derived.Test.YthbbpeeghmpcfaaGreatDoorR18
import Derived.Test.YthbbpeeghmpcfaaGreatDoorR26
set_option linter.all false
set_option maxRecDepth 100000
set_option maxHeartbeats 4000000
open List renaming length_map→X1,length_append→X2,length_cons→X3,length_nil→X10,getElem?_eq_getElem→X12,getElem?_eq_some_iff→X13,length_drop→X14,length_take→X15,mem_cons_of_mem→X16,length_replicate→X17,length_set→X18,mem_append→X20
open Bool renaming and_eq_true→X24
open Option renaming bind→Xx
open Int renaming toNat→Xa0
open List renaming take→Xb7,drop→Xb8
open Go renaming maxLen→Xc7
open ByteArray renaming empty→Xbe
open List.Pairwise renaming nil→Xdm
section
namespace Go.AX.Q33
open Go Go.AX
def orN {ρ:Type}{a b:I}{K:I->C ρ}:AC (τ:=I) (λF=>if (!a)=true then F true else F (cond false true b)) K=K (!a || b):=by rw[AB];cases a<;>rfl
def C0 {l:O Int}{n:Nat}(h:l.length<=n)(b:I)(k:Int):(l++ad b k).length<=n+1:=by have:=uw b k;rw[X2];omega
def ng {f:oX}{p:th}(l:O Int)(a b:I):l.foldl (λ(s:I×I) n=>(s.1 || pv f n,s.2 || (!(inL f.zq p.tb)&&fr f p n))) (a,b)=(a || l.any (pv f),b || (!(inL f.zq p.tb)&&l.any (fr f p))):=by
 induction l generalizing a b with
 | nil=>simp
 | cons n t F=>rw[Xaj,F,Xd9,Xd9];cases a<;>cases b<;>cases pv f n<;>cases fr f p n<;>cases inL f.zq p.tb<;>simp
def ki {f:oX}{p:th}{r:mu}(Y:Mo r.gH) : Gs f p r.gH=some ([]++ad (b1 p r) 2++ad (b2 p r) 3++ad (b3 f r) 4++ad (Pw f r) 5++ad (b5 r) 6++ad (b6 f r) 7++ad (b7 f p r) 8++ad (b8 p r) 9):=by
 have l0:([]:O Int).length<=0:=Xak _;have l1:=C0 l0 (b1 p r) 2;have l2:=C0 l1 (b2 p r) 3;have l3:=C0 l2 (b3 f r) 4;have l4:=C0 l3 (Pw f r) 5;have l5:=C0 l4 (b5 r) 6;have l6:=C0 l5 (b6 f r) 7;have l7:=C0 l6 (b7 f p r) 8;unfold Gs;rw[UN (by have:=Y.p;omega) (by have:=Y.t;omega),AA];obtain⟨u,v,hq⟩ :∃u v,TA r.gH.Path=(u,v):=⟨_,_,rfl⟩;have e1:(!v || (u !=p.tb))=b1 p r:=by unfold b1;rw[hq]
 rw[hq];show AC (τ:=I) (λk3=>if (!v)=true then k3 true else k3 (cond false true (u !=p.tb))) _=_;rw[orN,e1,QY (by omega)];refine (orJ (q:=λx=>Addr.zn x r.gH.Next) (λx k=>k (cond false true (Addr.zn x r.gH.Next))) (λ_ _ _=>rfl) false).trans ?_;have e2:(!(false || p.zd.any λx=>Addr.zn x r.gH.Next))=b2 p r:=by unfold b2;rw[Bool.false_or,UY kX]
 rw[e2,QY (by omega),Dh,AA];show AC (τ:=O Int) (λZ=>if b3 f r=true then _ else _) _=_;rw[QY (by omega),Xd (by have:=Y.t;omega),AA];show AC (τ:=O Int) (λZ=>if Pw f r=true then _ else _) _=_;rw[QY (by omega)];refine (orJ (q:=λx:r8=>x.Set) (λx k=>k (cond false true x.Set)) (λ_ _ _=>rfl) false).trans ?_;rw[F3 (by have:=Y.t;omega),AA];have hl :∀(K:I×I->C (O Int)),AC (τ:=I×I) (λa6=>AL (σ:=I×I) (λ(v37,P)=>a6 (v37,P)) (λF (H:Int) i41 (v37,P)=>AC (τ:=I×I) (λa7=>AC (τ:=I) (λa8=>AL (σ:=I) (λQ=>a8 Q ) (λJ (V:Ck) i47 Q=>AC (τ:=I) (λU=>if Q then U true else if (decide (H≥V.zQ)) then U (cond false true (cond true (decide (H<=V.To)) false)) else U false ) λaa=>J aa ) f.tv 0 v37 ) λab=>AC (τ:=I) (λM=>if P then M true else if (H !=p.tb) then Xx (GZ f.zq H) λae=>if (cond true ae false) then Xx (GZ f.zq p.tb) λaf=>M (cond false true (cond true (!af) false)) else M false else M false ) λag=>a7 (ab,ag) ) λ(v55,ah)=>F (v55,ah)) (JG r.gH.Path) 0 (false,false)) K=K (b6 f r,b7 f p r):=by
  intro K;rw[AB];refine (ZI (K:=λs:I×I=>K (s.1,s.2)) (λ(s:I×I) n=>(s.1 || pv f n,s.2 || (!(inL f.zq p.tb)&&fr f p n))) (λ_ _=>True) (λ_ _ _ _=>trivial) (JG r.gH.Path) 0 (false,false) (λnext n j s _ _ _=>?_) trivial).trans ?_
  ·obtain⟨a,b⟩:=s;dsimp only;rw[AB];refine (orJ (q:=λs:Ck=>decide (s.zQ<=n)&&decide (n<=s.To)) (λs k=>if (decide (n≥s.zQ))=true then k (cond false true (cond true (decide (n<=s.To)) false)) else k false) (λs _ k=>?_) a).trans ?_
   ·by_cases h1:s.zQ<=n
    ·rw[Xa2 (by simpa using h1),Xa4 h1];rfl
    rw[Xa1 (by simpa using h1),Xa9 h1];rfl
   rw[AB,Ot,Ot,AA,AA];unfold fr inL;show _=next (a || pv f n,_)
   unfold pv;cases b
   ·cases (n !=p.tb)
    ·simp
    cases (f.zq.any λx=>n==x)
    ·simp
    cases (f.zq.any λx=>p.tb==x)<;>rfl
   simp
  rw[ng];rfl
 refine (hl _).trans ?_;dsimp only;show AC (τ:=O Int) (λai=>if b5 r=true then _ else _) _=_;rw[QY (by omega),QY (by omega),QY (by omega)];obtain⟨⟨c,d⟩,e,he⟩:=P7 (n:=p.tb) (a:=r.gH);rw[e,AA];dsimp only at he⊢;have e8:(d==30)=b8 p r:=he;rw[e8,QY (by omega)]
def rW {f:oX}{r:mu}:Ik f r=some (b11 f r (G9 r.gH)):=by
 unfold Ik b11;rw[AB,NT];have key :∀F H J:Int,(if G9 r.gH=true then some (decide (r.fI.zk<J)) else AC (τ:=I) (λK=>if decide (r.fI.zk<F)=true then K true else K (cond false true (decide (r.fI.zk>H)))) λP=>some P)=some (cond (G9 r.gH) (decide (r.fI.zk<J)) (!(decide (F<=r.fI.zk)&&decide (r.fI.zk<=H)))):=by
  intro F H J;cases G9 r.gH
  ·rw[Xa1 (by simp),AB];by_cases h1:r.fI.zk<F
   ·rw[Xa2 (by simpa using h1),Xa9 (p:=F<=r.fI.zk) (by omega)];rfl
   rw[Xa1 (by simpa using h1),Xa4 (p:=F<=r.fI.zk) (by omega)];by_cases M:r.fI.zk>H
   ·rw[Xa4 M,Xa9 (p:=r.fI.zk<=H) (by omega)];rfl
   rw[Xa9 M,Xa4 (p:=r.fI.zk<=H) (by omega)];rfl
  rfl
 cases r.fI.Addr.V6
 ·exact key _ _ _
 exact key _ _ _
def kb {f:oX}{p:th}{r:mu}(M:FOk f)(hp:p.Set.size<=Xc7)(P:Ps r.gH):Jq f p r=some (S4 f p r):=by
 unfold Jq S4;rw[uu P,AA];cases F:NF r
 ·rfl
 have P:=pD F;have H:r.fI.Addr.ok=true:=by unfold NF at F;rw[X24] at F;exact ((HN _).1 F.1).1
 have l0:([]:O Int).length<=0:=Xak _;have l1:=C0 l0 (b1 p r) 2;have l2:=C0 l1 (b2 p r) 3;have l3:=C0 l2 (b3 f r) 4;have l4:=C0 l3 (Pw f r) 5;have l5:=C0 l4 (b5 r) 6;have l6:=C0 l5 (b6 f r) 7;have l7:=C0 l6 (b7 f p r) 8;have l8:=C0 l7 (b8 p r) 9;have l9:=C0 l8 (b9 f r) 10;have V:=C0 l9 (nm f r) 11;have Y:=C0 V (b11 f r (G9 r.gH)) 12;have ab:=C0 Y (b12 f p r (G9 r.gH)) 13;rw[Xa1 (by simp),ki P,AA];refine (orJ (q:=λx=>Nd x r.fI || Nd r.fI x) (λx k=>Xx (BF x r.fI) λv9=>if (cond false true v9)=true then k true else Xx (BF r.fI x) λZ=>k (cond false true Z)) (λx hx k=>?_) false).trans ?_
 ·rw[EZ H,EZ (M.l x hx),AA,AA];cases Nd x r.fI<;>rfl
 refine (orJ (q:=λx=>Nd x r.fI) (λx k=>Xx (BF x r.fI) λa6=>k (cond false true a6)) (λx _ k=>?_) false).trans ?_
 ·rw[EZ H,AA];rfl
 show AC (τ:=O Int) (λJ=>if b9 f r=true then _ else _) _=_;rw[QY (by omega)];show AC (τ:=O Int) (λJ=>if nm f r=true then _ else _) _=_;rw[QY (by omega),rW,AA,QY (by omega),NT,AA];have hw :∀(K:O ss×O ss->C (O Int)),AC (τ:=(O ss)×(O ss)) (λQ=>if G9 r.gH=true then Xx (EJ f.zu.r9) λa7=>Xx (EJ f.sI) λa8=>Q (a8,a7) else Q (f.sI,f.zu.r9)) K=K (wdI (G9 r.gH) f.sI,wdI (G9 r.gH) f.zu.r9):=by
  intro K;rw[AB];cases G9 r.gH
  ·rfl
  rw[Xa2 rfl,LC M.o,AA,LC M.r,AA];rfl
 refine (hw _).trans ?_;dsimp only;rw[Rq (by have:=P.p;omega) (by have:=P.t;omega),AA];have ho :∀(K:Int->C (O Int)),(match MZ r.gH.Path with|(aa,v39)=>AC (τ:=Int) (λU=>if (!v39)=true then U (-1) else U aa) K)=K (rx r.gH.Path):=by intro K;unfold rx;generalize MZ r.gH.Path=q;obtain⟨u,v⟩:=q;dsimp only;rw[AB];cases v<;>rfl
 refine (ho _).trans ?_;rw[(mN (r:=(⟨f.zu.tE,wdI (G9 r.gH) f.zu.r9⟩:zu)) M.s hp).2,AA];show AC (τ:=O Int) (λJ=>if b12 f p r (G9 r.gH)=true then _ else _) _=_;rw[QY (by omega),TF (by rw[s8];exact M.r) H,AA];show AC (τ:=O Int) (λJ=>if b13 f r (G9 r.gH)=true then _ else _) _=_;rw[QY (by omega)];show some _=some (fs (N2 f p r));unfold N2;simp only[fs,Xb9,Xah,Xb1]
def ZT {f:oX}{p:th}{r:mu}(F:FOk f)(H:p.Set.size<=Xc7)(J:Ps r.gH):Hn f p r=some (Rc f p r):=by
 unfold Hn Rc;rw[kb F H J,AA];cases S4 f p r with
 | nil=>rfl
 | cons x t=>rw[Xa2 (by simp),Jh,AA];rfl
def yP {ρ:Type}{a b c:I}{K:I->C ρ}:AC (τ:=I) (λk=>if a=true then k true else if (cond false true b)=true then k true else k (cond false true c)) K=K (a || (b || c)):=by rw[AB];cases a<;>cases b<;>rfl
def yy {ρ:Type}{a b c d e g:I}{K:I->C ρ}:AC (τ:=I) (λk=>if a=true then k true else if (cond false true b)=true then k true else if (cond false true c)=true then k true else if (cond false true d)=true then k true else if (cond false true e)=true then k true else k (cond false true g)) K=K (a || (b || (c || (d || (e || g))))):=by
 rw[AB];cases a
 ·cases b
  ·cases c
   ·cases d
    ·cases e<;>rfl
    rfl
   rfl
  rfl
 rfl
def tM {ρ:Type}{a b c d e g:I}{K:I->C ρ}:AC (τ:=I) (λk=>if a=true then if (cond true b false)=true then if (cond true c false)=true then if (cond true d false)=true then if (cond true e false)=true then k (cond true g false) else k false else k false else k false else k false else k false) K=K (a&&(b&&(c&&(d&&(e&&g))))):=by
 rw[AB];cases a
 ·rfl
 cases b
 ·rfl
 cases c
 ·rfl
 cases d
 ·rfl
 cases e<;>rfl
def wN {ρ:Type}{a b c d e g h i:I}{K:I->C ρ}:AC (τ:=I) (λk=>if a=true then if (cond true b false)=true then if (cond true c false)=true then if (cond true d false)=true then if (cond true e false)=true then if (cond true g false)=true then if (cond true h false)=true then k (cond true i false) else k false else k false else k false else k false else k false else k false else k false) K=K (a&&(b&&(c&&(d&&(e&&(g&&(h&&i))))))):=by
 rw[AB];cases a
 ·rfl
 cases b
 ·rfl
 cases c
 ·rfl
 cases d
 ·rfl
 cases e
 ·rfl
 cases g
 ·rfl
 cases h<;>rfl
def spB (s:Ck):I:=!(decide (s.zQ<0) || (decide (s.zQ>s.To) || decide (s.To>4294967295)))
def dZ (o:ss):I:=Da o.fI&&((decide (o.fI.zk<=o.Max)&&decide (o.Max<=cond o.fI.Addr.V6 128 32))&&(decide (0<=o.tb)&&decide (o.tb<=4294967295)))
def ni (l:O fI)(n:Int):IW l n=some (l.all Da&&decide ((l.length:Int)<=n)):=by
 unfold IW;rw[AB];refine (Rm (g:=Da) (r0:=some false) λnext x i _=>?_).trans ?_
 ·rw[DR,AA];cases Da x<;>rfl
 cases l.all Da<;>rfl
def YV (n:Int):Ia n=some (CS n):=Kk n
def Si (f:oX):I:=
 !(!CS f.DH || (decide ((f.Bb.length:Int)>8) || (decide ((f.wg.length:Int)>64) || (decide ((f.tv.length:Int)>64) || (decide ((f.zq.length:Int)>64) || decide ((f.sI.length:Int)>512)))))) &&(!(decide (f.CT<0) || (decide (f.CT>f.zi) || (decide (f.zi>32) || (decide (f.CR<0) || (decide (f.CR>f.zh) || (decide (f.zh>128) || (!(decide (0<=f.AJ)&&decide (f.AJ<=32)) || (!(decide (0<=f.B3)&&decide (f.B3<=128)) || !(decide (1<=f.zX)&&decide (f.zX<=60)))))))))) &&(!(!f.Bb.all Da || !f.wg.all Da)&&(!(!f.tv.all spB || !f.zq.all CS)&&(f.sI.all dZ&&T8 f.zu))))
def UP {a b:Int}:decide (a<=b)=!decide (a>b):=by
 by_cases h:a<=b
 ·rw[Xa4 h,Xa9 (by omega)];rfl
 rw[Xa9 h,Xa4 (by omega)];rfl
def eI {a b:Int}:decide (a<b)=!decide (b<=a):=by
 by_cases h:a<b
 ·rw[Xa4 h,Xa9 (by omega)];rfl
 rw[Xa9 h,Xa4 (by omega)];rfl
def Lj {f:oX}(hz :∀s∈f.zu.tE,Qr s):GO f=some (Si f):=by
 unfold GO;simp only[YV,ni,Ig hz,AA];rw[yy,AB,tM,wN];have hA:(!CS f.DH || (!(f.Bb.all Da&&decide ((f.Bb.length:Int)<=8)) || (!(f.wg.all Da&&decide ((f.wg.length:Int)<=64)) || (decide ((f.tv.length:Int)>64) || (decide ((f.zq.length:Int)>64) || decide ((f.sI.length:Int)>512))))))=!(CS f.DH&&((f.Bb.all Da&&decide ((f.Bb.length:Int)<=8))&&((f.wg.all Da&&decide ((f.wg.length:Int)<=64))&&(decide ((f.tv.length:Int)<=64)&&(decide ((f.zq.length:Int)<=64)&&decide ((f.sI.length:Int)<=512)))))):=by simp only[Bool.not_and,UP (a:=(f.tv.length:Int)),UP (a:=(f.zq.length:Int)),UP (a:=(f.sI.length:Int)),Bool.not_not]
 have hP :∀{K:Unit->C I},AL (σ:=Unit) (λ_=>K ()) (λP (U:Ck) i9 _=>AC (τ:=I) (λQ=>if (decide (U.zQ<0))=true then Q true else if (cond false true (decide (U.zQ>U.To)))=true then Q true else Q (cond false true (decide (U.To>4294967295)))) λY=>if Y=true then some false else P ()) f.tv 0 ()=cond (f.tv.all spB) (K ()) (some false):=by intro K;refine Rm (g:=spB) (r0:=some false) λnext x i _=>?_;rw[yP];unfold spB;generalize (decide (x.zQ<0) || (decide (x.zQ>x.To) || decide (x.To>4294967295)))=a;cases a<;>rfl
 have hF :∀{K:Unit->C I},AL (σ:=Unit) (λ_=>K ()) (λJ (Mf:Int) i15 _=>if (!CS Mf)=true then some false else J ()) f.zq 0 ()=cond (f.zq.all CS) (K ()) (some false):=by intro K;refine Rm (g:=CS) (r0:=some false) λnext x i _=>?_;cases CS x<;>rfl
 have Z :∀{V:C I},AL (σ:=Unit) (λ_=>V) (λM (F:ss) i20 _=>AC (τ:=I) (λH=>Xx (Am F.fI) λa6=>if (!a6)=true then H true else if (cond false true (decide (F.Max<F.fI.zk)))=true then H true else Xx (Dq F.fI.Addr.V6) λa7=>if (cond false true (decide (F.Max>a7)))=true then H true else if (cond false true (decide (F.tb<0)))=true then H true else H (cond false true (decide (F.tb>4294967295)))) λa8=>if a8=true then some false else M ()) f.sI 0 ()=cond (f.sI.all dZ) V (some false):=by
  intro V;refine Rm (K:=λ_=>V) (g:=dZ) (r0:=some false) λnext x i _=>?_;rw[AB,DR,AA,QI,AA];unfold dZ;rw[UP (a:=x.Max),UP (a:=x.tb),eI (a:=x.Max),eI (a:=x.tb)];generalize decide (x.fI.zk<=x.Max)=a;generalize decide (x.Max>cond x.fI.Addr.V6 128 32)=b;generalize decide (0<=x.tb)=c;generalize decide (x.tb>4294967295)=d;cases Da x.fI
  ·rfl
  cases a
  ·rfl
  cases b
  ·cases c
   ·rfl
   cases d<;>rfl
  rfl
 simp only[AB] at hP Z⊢;rw[hP,hF];simp only[DR,QI,AA] at Z⊢;rw[Z,hA];unfold Si;simp only[ge_iff_le,gt_iff_lt,Bool.not_or,Bool.not_not];generalize hg:(CS f.DH&&((f.Bb.all Da&&decide ((f.Bb.length:Int)<=8))&&((f.wg.all Da&&decide ((f.wg.length:Int)<=64))&&(decide ((f.tv.length:Int)<=64)&&(decide ((f.zq.length:Int)<=64)&&decide ((f.sI.length:Int)<=512))))))=g;have fin :∀{p q o n r:I},(if (!g)=true then some false else cond p (cond q (cond o (some (n&&r)) (some false)) (some false)) (some false))=some (g&&(p&&(q&&(o&&(n&&r))))):=by
  intro p q o n r;cases g
  ·rfl
  cases p
  ·rfl
  cases q
  ·rfl
  cases o<;>rfl
 refine fin.trans ?_;rw[<- hg];simp only[eI,Bool.not_not];congr 1;ac_rfl
def If (p:th):CW p=some (CS p.tb&&((decide (0<=p.zi)&&decide (p.zi<=256))&&((decide (0<=p.zh)&&decide (p.zh<=256))&&(decide ((p.zd.length:Int)<=8)&&p.zd.all Addr.ok)))):=by
 unfold CW;rw[AB];refine (Rm (g:=Addr.ok) (r0:=some false) λnext x i _=>?_).trans ?_
 ·rw[EE,AA];cases x.ok<;>rfl
 simp only[YV,AA];rw[tM];simp only[ge_iff_le];generalize decide (0<=p.zi)=a;generalize decide (p.zi<=256)=b;generalize decide (0<=p.zh)=c;generalize decide (p.zh<=256)=d;generalize decide ((p.zd.length:Int)<=8)=e;generalize p.zd.all Addr.ok=g;cases CS p.tb
 ·cases g<;>rfl
 cases a<;>cases b<;>cases c<;>cases d<;>cases e<;>cases g<;>rfl
def tZ:O Set:=[⟨wW,[101,102,103,104,105,201,202,203,301],[]⟩,⟨wX,[201],[]⟩]
def lT:ON [] tZ=true:=by kernel_rfl
def MF.reg {f:oX}(h:MF f):T8 f.zu=true:=by
 have K:f.zu.tE=tZ:=h.sets;unfold T8;rw[K,lT,Xco,Xa4 (by decide),Xd8,Xa4 (by have:=h.gM.1;omega),Xd8,Xa6];intro o M;obtain⟨⟨H,J,Q,U⟩,V⟩:=h.gM.2 o M;unfold YO;rw[X24,X24,X24];refine⟨⟨⟨(HN _).2 H.T4,?_⟩,?_⟩,?_⟩
 ·rw[Xy];rcases H.2 with ⟨P,F⟩|⟨P,F⟩<;>rcases J with ⟨q1,q2⟩|⟨q1,q2⟩
  ·omega
  ·rw[F] at q2;cases q2
  ·rw[F] at q2;cases q2
  omega
 ·rw[Xy];unfold Addr.w;rcases J with ⟨q1,q2⟩|⟨q1,q2⟩<;>rw[q1,q2]<;>decide
 unfold CS;rw[Xa4 (by omega),Xa4 (by omega)];rfl
def eG {r:zu}(h:T8 r=true) :∀s∈r.tE,Qr s:=λs F=>kP ((Tc.1 h).1.2 s F)
def MF.fok {f:oX}(h:MF f):FOk f:=by refine⟨eG h.reg,by have:=h.gM.1;omega,by have:=h.Te.1;omega,λx F=>?_⟩;rw[h.Tr] at F;simp only[Xa7,Xc3,Xez] at F;subst F;show Addr.ok _=true;kernel_rfl
def pZ {n:Nat}(h:n<=4):n<=Xc7:=Xay h (by decide)
def JO (a b:O Int):DV a b=some (decide (a=b)):=by
 unfold DV;exact eqR (e:=λv x:Int=>x !=v) λx y=>by
  by_cases h:x=y
  ·subst h;simp
  rw[Xa9 h];have:y≠x:=λe=>h e.symm;simpa using this
def uo {l:O Int}(h:l.length<=Xc7):Dk ⟨l,0⟩:=⟨Int.le_refl _,Xay h (by decide)⟩
def bZ :∀l:O (Int×I),(fs l).Sublist (l.map (·.1))
 | []=>.slnil
 | (k,b)::t=>by
  show (ad b k++fs t).Sublist (k::t.map (·.1));cases b
  ·exact (bZ t).cons _
  exact (bZ t).cons_cons _
def ip (f:oX)(p:th)(r:mu):(S4 f p r).Pairwise (·<·)/\∀x∈S4 f p r,1<=x/\x<=14:=by
 unfold S4;cases NF r
 ·exact⟨by simp,by simp⟩
 have h:=bZ (N2 f p r);have e:(N2 f p r).map (·.1)=[2,3,4,5,6,7,8,9,10,11,12,13,14]:=rfl;rw[e] at h;refine⟨Xeq h (by decide),λx F=>?_⟩;have:=h.subset F;simp only[Xa7,Xc3,Xez] at this;omega
end Go.AX.Q33
end
section
namespace Go.AX.Cw
universe u v
structure LO {κ:Type u}(cmp:κ->κ->Int):Prop where
 eq :∀{a b},cmp a b=0↔a=b
 Lz :∀{a b},cmp a b<0↔0<cmp b a
 trans :∀{a b c},cmp a b<0->cmp b c<0->cmp a c<0
section
variable {α:Type v} {κ:Type u} {key:α->κ} {cmp:κ->κ->Int}
def Cz (key:α->κ)(cmp:κ->κ->Int)(l:O α):Prop:=l.Pairwise λa b=>cmp (key a) (key b)<0
def LO.ne (h:LO cmp){a b:κ}(F:cmp a b<0):a≠b:=λe=>by have:=h.eq.2 e;omega
def LO.ne' (h:LO cmp){a b:κ}(F:0<cmp a b):a≠b:=λe=>by have:=h.eq.2 e;omega
def At (key:α->κ)(cmp:κ->κ->Int)(k:κ)(l1 l2:O α):Prop:=(∀y∈l1,cmp (key y) k<0)/\∀y∈l2,0<cmp (key y) k
def split (h:LO cmp){l:O α}(M:Cz key cmp l)(k:κ) : (∃l1 x l2,l=l1++x::l2/\key x=k/\At key cmp k l1 l2)\/(∃l1 l2,l=l1++l2/\At key cmp k l1 l2):=by
 induction l with
 | nil=>exact .inr ⟨[],[],rfl,by simp[At]⟩
 | cons a t P=>
  obtain⟨J,Q⟩:=Xab.1 M;rcases Int.lt_trichotomy (cmp (key a) k) 0 with c|c|c
  ·have K :∀l1:O α,(∀y∈l1,cmp (key y) k<0)->∀y∈a::l1,cmp (key y) k<0:=λl1 p y F=>by
    rcases Xa7.1 F with e|F
    ·rw[e];exact c
    exact p y F
   rcases P Q with ⟨l1,x,l2,H,e,p,q⟩|⟨l1,l2,H,p,q⟩
   ·exact .inl ⟨a::l1,x,l2,by rw[H];rfl,e,K l1 p,q⟩
   exact .inr ⟨a::l1,l2,by rw[H];rfl,K l1 p,q⟩
  ·refine .inl ⟨[],a,t,rfl,h.eq.1 c,by simp,λy F=>?_⟩;have:=J y F;rw[h.eq.1 c] at this;exact h.Lz.1 this
  refine .inr ⟨[],a::t,rfl,by simp,λy F=>?_⟩;rcases Xa7.1 F with e|F
  ·rw[e];exact c
  exact h.Lz.1 (h.trans (h.Lz.2 c) (J y F))
def filter_all {p:α->I}{l:O α}(h :∀x∈l,p x=true):l.filter p=l:=Xd0.2 h
def eE (h:LO cmp){k:κ}{l1 l2:O α}{x:α}(J:At key cmp k l1 l2)(e:key x=k){p:α->I}(F :∀y,p y=true↔key y≠k) : (l1++x::l2).filter p=l1++l2:=by
 have K:p x=false:=by
  cases M:p x with
  | false=>rfl
  | true=>exact absurd e ((F x).1 M)
 rw[Xbb,Xdq (by simp[K]),filter_all λy H=>(F y).2 (h.ne (J.1 y H)),filter_all λy H=>(F y).2 (h.ne' (J.2 y H))]
def jU (h:LO cmp){k:κ}{l1 l2:O α}(H:At key cmp k l1 l2){p:α->I}(J :∀y,p y=true↔key y≠k) : (l1++l2).filter p=l1++l2:=by rw[Xbb,filter_all λy F=>(J y).2 (h.ne (H.1 y F)),filter_all λy F=>(J y).2 (h.ne' (H.2 y F))]
def At.Pb (h:LO cmp){k:κ}{l1 l2:O α}{x:α}(H:At key cmp k l1 l2)(e:key x=k)(K:Cz key cmp (l1++l2)):Cz key cmp (l1++x::l2):=by
 obtain⟨M,P,Q⟩:=Xbj.1 K;refine Xbj.2 ⟨M,Xab.2 ⟨λy U=>?_,P⟩,λa J b F=>?_⟩
 ·rw[e];exact h.Lz.2 (H.2 y U)
 rcases Xa7.1 F with V|F
 ·rw[V,e];exact H.1 a J
 exact Q a J b F
def oU {l1 l2:O α}{x:α}(F:Cz key cmp (l1++x::l2)):Cz key cmp (l1++l2):=
 Xeq (List.Sublist.append_left (List.sublist_cons_self x l2) l1) F
def I2 {l:O α}{p:α->I}(F:Cz key cmp l):Cz key cmp (l.filter p):=Xeq List.filter_sublist F
def fP (h:LO cmp){l m:O α}(U:Cz key cmp l)(V:Cz key cmp m)(H :∀x,x∈l↔x∈m):l=m:=by
 induction l generalizing m with
 | nil=>cases m with
  | nil=>rfl
  | cons b t=>exact absurd ((H b).2 Xde) (by simp)
 | cons a t Y=>cases m with
  | nil=>exact absurd ((H a).1 Xde) (by simp)
  | cons b s=>
   obtain⟨M,Z⟩:=Xab.1 U;obtain⟨P,h4⟩:=Xab.1 V;have J:a=b:=by
    rcases Xa7.1 ((H a).1 Xde) with e|e
    ·exact e
    rcases Xa7.1 ((H b).2 Xde) with K|K
    ·exact K.symm
    have:=M b K;have:=h.Lz.1 (P a e);omega
   subst J;have Q :∀{u:O α} {x:α},(∀y∈u,cmp (key a) (key y)<0)->x∈u->x≠a:=λhu F e=>by have:=hu _ F;rw[e] at this;exact absurd (h.eq.2 rfl) (by omega:¬ cmp (key a) (key a)=0)
   rw[Y Z h4 λx=>⟨λF=>?_,λF=>?_⟩]
   ·rcases Xa7.1 ((H x).1 (X16 _ F)) with e|e
    ·exact absurd e (Q M F)
    exact e
   rcases Xa7.1 ((H x).2 (X16 _ F)) with e|e
   ·exact absurd e (Q P F)
   exact e
end
end Go.AX.Cw
end
section
namespace Go.AX.Q33
open Go Go.AX Go.AX.Cw
def Yp (p:fI):O Int:=IM p.Addr++[p.zk]
def Az (a b:fI):Int:=Cd (Yp a) (Yp b)
def S5 (a b:fI):(Yp a).length=(Yp b).length:=rfl
def pB {a b:fI}(h:Yp a=Yp b):a=b:=by
 have F:IM a.Addr=IM b.Addr/\a.zk=b.zk:=by have:=List.append_inj h rfl;exact⟨this.1,by simpa using this.2⟩
 cases a;cases b;simp only[fI.mk.injEq];exact⟨TY F.1,F.2⟩
def Ax:LO Az where
 eq {a b}:=⟨λh=>pB (J1 (S5 a b) h),λh=>by rw[h];exact Ju _⟩
 Lz {a b}:=by unfold Az;have:=O4 (Yp a) (Yp b);omega
 trans h1 h2:=SB (S5 _ _) (S5 _ _) h1 h2
def Ho (a b:fI):B2 a b=some (Az a b):=Of a b
def pE {p:O r8}(U:p.length<=1000000)(V:DP p<=1000000){ρ:Type}{K:O r8->C ρ} : AC (τ:=O r8) (λM=>AL (σ:=O r8) (λv2=>M v2) (λF (H:r8) i5 v2=>Xx (gO (α:=Int) 8 [] H.qv) λ_=>Xx (gO (α:=r8) 32 v2 ([H]:O r8)) λJ=>F J) p 0 []) K=K p:=by
 have go :∀(l pre:O r8) (i:Nat),pre++l=p->AL (σ:=O r8) (λv2=>K v2) (λF (H:r8) i5 v2=>Xx (gO (α:=Int) 8 [] H.qv) λ_=>Xx (gO (α:=r8) 32 v2 ([H]:O r8)) λJ=>F J) l i pre=K p:=by
  intro l;induction l with
  | nil=>intro pre i e;rw[Xb1] at e;rw[e];rfl
  | cons x t P=>
   intro pre i e;have Q:x∈p:=by rw[<- e];simp
   have:=Wh Q;have Y:pre.length+1<=p.length:=by rw[<- e];simp
   rw[A6,AD (by decide) (by simp;omega),AA,AD (by decide) (by simp;omega),AA];exact P _ _ (by rw[<- e];simp)
 exact go p [] 0 rfl
def mj {p:O gL}(V:p.length<=1000000)(P :∀u∈p,u.Data.length<=1000000){ρ:Type}{K:O gL->C ρ} : AC (τ:=O gL) (λQ=>AL (σ:=O gL) (λH=>Q H) (λF (J:gL) i13 H=>Xx (gO (α:=S) 1 [] J.Data) λ_=>Xx (gO (α:=gL) 40 H ([J]:O gL)) λM=>F M) p 0 []) K=K p:=by
 have go :∀(l pre:O gL) (i:Nat),pre++l=p->AL (σ:=O gL) (λH=>K H) (λF (J:gL) i13 H=>Xx (gO (α:=S) 1 [] J.Data) λ_=>Xx (gO (α:=gL) 40 H ([J]:O gL)) λM=>F M) l i pre=K p:=by
  intro l;induction l with
  | nil=>intro pre i e;rw[Xb1] at e;rw[e];rfl
  | cons x t U=>
   intro pre i e;have:=P x (by rw[<- e];simp);have Y:pre.length+1<=p.length:=by rw[<- e];simp
   rw[A6,AD (by decide) (by simp;omega),AA,AD (by decide) (by simp;omega),AA];exact U _ _ (by rw[<- e];simp)
 exact go p [] 0 rfl
def Ry {a:gH}(h:Mo a):BZ a=some a:=by unfold BZ;have:=h.c;have:=h.l;rw[pE h.p h.t,AD (by decide) (by simp;omega),AA,AD (by decide) (by simp;omega),AA,mj h.o h.d]
structure SmB (b:rv):Prop where
 h:b.gT.length<=1000000
 n:b.th.zd.length<=1000000
 a :∀x∈b.gT,Mo x.mu.gH
def Iy {b:rv}(h:SmB b):Dy b=some b:=by
 unfold Dy;have:=h.n;rw[AD (by decide) (by simp;omega),AA,AB];have U:=h.h;have go :∀(t pre:O gT) (i:Nat),pre++t=b.gT->AL (σ:=O gT) (λv2=>(λJ=>some ({ b with gT:=J })) v2) (λF (H:gT) i5 v2=>Xx (BZ H.mu.gH) λK=>Xx (gO (α:=gT) 208 v2 ([{ H with mu:={ H.mu with gH:=K } }]:O gT)) λM=>F M) t i pre=some b:=by
  intro t;induction t with
  | nil=>intro pre i e;rw[Xb1] at e;rw[e];rfl
  | cons x t P=>
   intro pre i e;have V:pre.length+1<=b.gT.length:=by rw[<- e];simp
   have Q:=h.a x (by rw[<- e];simp);rw[A6,Ry Q,AA,AD (by decide) (by simp;omega),AA];exact P _ _ (by rw[<- e];simp)
 exact go b.gT [] 0 rfl
def kH (h:gT):fI:=h.mu.fI
def O8 {α:Type}(bad:Nat->α->I):O α->Nat->I
 | [],_=>false
 | x::t,i=>bad i x || O8 bad t (i+1)
def KW {α:Type}{bad:Nat->α->I} :∀{l:O α} {i:Nat},O8 bad l i=false ↔∀j x,l[j]?=some x->bad (i+j) x=false
 | [],i=>by simp[O8]
 | a::t,i=>by
  unfold O8;rw[Bool.or_eq_false_iff,KW];constructor
  ·rintro⟨H,J⟩ j x F;cases j with
   | zero=>cases F;exact H
   | succ j=>have:=J j x F;rwa [show i+1+j=i+(j+1) by omega] at this
  intro h;exact⟨h 0 a rfl,λj x F=>by have:=h (j+1) x F;rwa [show i+(j+1)=i+1+j by omega] at this⟩
def oS {α σ ρ:Type}{l:O α}{bad:Nat->α->I}{st:σ->α->σ}{body:(σ->C ρ)->α->Nat->σ->C ρ}{r:C ρ}{K:σ->C ρ} (H :∀next i x s,l[i]?=some x->body next x i s=if bad i x=true then r else next (st s x)) (s:σ):AL K body l 0 s=if O8 bad l 0=true then r else K (l.foldl st s):=by
 have go :∀(t pre:O α) (s:σ),pre++t=l->AL K body t pre.length s=if O8 bad t pre.length=true then r else K (t.foldl st s):=by
  intro t;induction t with
  | nil=>intro pre s e;rfl
  | cons x t J=>
   intro pre s e;have M:l[pre.length]?=some x:=by rw[<- e];simp
   rw[A6,H _ _ _ _ M];unfold O8;cases F:bad pre.length x
   ·rw[Xa1 (by simp),Bool.false_or];have:=J (pre++[x]) (st s x) (by rw[<- e];simp);simp only[X2,X3,X10,Xbc] at this;exact this
   rw[Xa2 rfl,Bool.true_or,Xa2 rfl]
 exact go l [] s rfl
def n0 (l:O gT):Nat:=l.countP λh=>!h.mu.fI.Addr.V6
def n1 (l:O gT):Nat:=l.countP λh=>h.mu.fI.Addr.V6
def SJ {x:gT}{t:O gT}(h:x.mu.fI.Addr.V6=false):n0 (x::t)=n0 t+1/\n1 (x::t)=n1 t:=by unfold n0 n1;simp[List.countP_cons,h]
def XZ {x:gT}{t:O gT}(h:x.mu.fI.Addr.V6=true):n0 (x::t)=n0 t/\n1 (x::t)=n1 t+1:=by unfold n0 n1;simp[List.countP_cons,h]
def eT {ρ:Type}{K:Int×Int->C ρ}{l:O gT}(Z:l.length<=1000000) : AC (τ:=Int×Int) (λU=>AL (σ:=Int×Int) (λ(v2,v3)=>U (v2,v3)) (λF (M:gT) i6 (v2,v3)=>AC (τ:=Int×Int) (λH=>if M.mu.fI.Addr.V6 then H (v2,(AG (v3+1))) else H ((AG (v2+1)),v3)) λ(P,v9)=>F (P,v9)) l 0 (0,0)) K=K ((n0 l:Int),(n1 l:Int)):=by
 have go :∀(t:O gT) (i a b:Nat),a+t.length<=1000000->b+t.length<=1000000->AL (σ:=Int×Int) (λ(v2,v3)=>K (v2,v3)) (λF (M:gT) i6 (v2,v3)=>AC (τ:=Int×Int) (λH=>if M.mu.fI.Addr.V6 then H (v2,(AG (v3+1))) else H ((AG (v2+1)),v3)) λ(P,v9)=>F (P,v9)) t i ((a:Int),(b:Int))=K (((a+n0 t:Nat):Int),((b+n1 t:Nat):Int)):=by
  intro t;induction t with
  | nil=>intro i a b _ _;rfl
  | cons x t Q=>
   intro i a b V Y;simp only[X3] at V Y;rw[A6];dsimp only;rw[AB];cases J:x.mu.fI.Addr.V6
   ·rw[Xa1 (by simp)];dsimp only;rw[AK (by omega),show ((a:Int)+1)=((a+1:Nat):Int) from rfl,Q _ _ _ (by omega) (by omega)];simp only[(SJ (t:=t) J).1,(SJ (t:=t) J).2,show a+1+n0 t=a+(n0 t+1) by omega]
   rw[Xa2 rfl];dsimp only;rw[AK (by omega),show ((b:Int)+1)=((b+1:Nat):Int) from rfl,Q _ _ _ (by omega) (by omega)];simp only[(XZ (t:=t) J).1,(XZ (t:=t) J).2,show b+1+n1 t=b+(n1 t+1) by omega]
 have:=go l 0 0 0 (by omega) (by omega);simp only[Xbc] at this;exact this
def Zu {b:rv}(F:b.gT.length<=1000000):E6 b=some ((n0 b.gT:Int),(n1 b.gT:Int)):=by unfold E6;rw[eT F]
def Va (b:rv):I:=decide ((n0 b.gT:Int)<=b.th.zi)
def VK (b:rv):I:=decide ((n1 b.gT:Int)<=b.th.zh)
def Kd (l:O gT):I:=l.any λh=>h.zw
def Md (b:rv):Bg b=some { b with xS:=cond (Kd b.gT) b.xS 0 }:=by
 unfold Bg Kd;rw[AB];have go :∀(l:O gT) (i:Nat),AL (σ:=Unit) (λ_=>(λ_:Unit=>some ({ ({ b with xS:=0 }) with th:=(({ b with xS:=0 }:rv).th) }:rv)) ()) (λF (H:gT) i4 _=>if H.zw then some b else F ()) l i ()=some (cond (l.any λh=>h.zw) b { b with xS:=0 }):=by
  intro l;induction l with
  | nil=>intro i;rfl
  | cons x t J=>
   intro i;rw[A6,Xd9];cases K:x.zw
   ·rw[Xa1 (by simp)];exact J (i+1)
   rw[Xa2 rfl];rfl
 refine (go b.gT 0).trans ?_;cases b.gT.any λh=>h.zw<;>rfl
structure Uq (b:rv):Prop where
 h:b.gT.length<=1000000
 n:b.th.zd.length<=1000000
 a :∀x∈b.gT,Ps x.mu.gH
def Ps.sms {a:gH}(h:Ps a):Mo a:=⟨h.p,h.t,h.c,h.l,h.o,h.d⟩
def Uq.smb {b:rv}(h:Uq b):SmB b:=⟨h.h,h.n,λx F=>(h.a x F).sms⟩
def Ly (p:th):I:=(CW p).getD false
def vpr (p:th):CW p=some (Ly p):=by unfold Ly;rw[If];rfl
def T1 (b:rv)(x:gT):I:=Fb x.mu.gH&&(!(x.mu.zQ !=b.th.tb)&&(!(decide (x.zW<0))&&(!(decide (x.zW>14))&&!(!b.Up&&!x.zw))))
def XU (b:rv)(i:Nat)(x:gT):I:=!Da x.mu.fI || (decide ((i:Int)>0)&&decide (Az (kH (b.gT.getD (i-1) x)) (kH x)≥0) || !T1 b x)
def vT {ρ:Type}(H v F J M u s:I)(K:I->C ρ):(if (cond false true (cond true H false))=true then K true else if (cond false true (!v))=true then K true else if (cond false true F)=true then K true else if (cond false true J)=true then K true else if (cond false true M)=true then K true else if (!u)=true then K (cond false true (cond true (!s) false)) else K false)=K (!true || (true&&H || !(v&&(!F&&(!J&&(!M&&!(!u&&!s))))))):=by cases H<;>cases v<;>cases F<;>cases J<;>cases M<;>cases u<;>cases s<;>rfl
def vF {ρ:Type}(M v F H J u s:I)(K:I->C ρ):(if (cond false true (!v))=true then K true else if (cond false true F)=true then K true else if (cond false true H)=true then K true else if (cond false true J)=true then K true else if (!u)=true then K (cond false true (cond true (!s) false)) else K false)=K (!true || (false&&M || !(v&&(!F&&(!H&&(!J&&!(!u&&!s))))))):=by cases M<;>cases v<;>cases F<;>cases H<;>cases J<;>cases u<;>cases s<;>rfl
def qx {ρ:Type}{b:rv}(U:Uq b){pv:fI->C I}{pc:fI->fI->C Int}{av:gH->C I}(Y :∀p,pv p=some (Da p))(Z :∀p q,pc p q=some (Az p q))(h3 :∀a,Ps a->av a=some (Fb a)) {i:Nat} {x:gT} (V:b.gT[i]?=some x) (K:I->C ρ) : (Xx (pv x.mu.fI) λF=>if (!F)=true then K true else if (decide ((i:Int)>0))=true then Xx (gN b.gT (AG ((i:Int)-1))) λH=>Xx (pc H.mu.fI x.mu.fI) λJ=>if (cond false true (cond true (decide (J≥0)) false))=true then K true else Xx (av x.mu.gH) λM=>if (cond false true (!M))=true then K true else if (cond false true (x.mu.zQ !=b.th.tb))=true then K true else if (cond false true (decide (x.zW<0)))=true then K true else if (cond false true (decide (x.zW>14)))=true then K true else if (!b.Up)=true then K (cond false true (cond true (!x.zw) false)) else K false else Xx (av x.mu.gH) λP=>if (cond false true (!P))=true then K true else if (cond false true (x.mu.zQ !=b.th.tb))=true then K true else if (cond false true (decide (x.zW<0)))=true then K true else if (cond false true (decide (x.zW>14)))=true then K true else if (!b.Up)=true then K (cond false true (cond true (!x.zw) false)) else K false)=K (XU b i x):=by
 have hm:=Xbz V;have hi:=(X13.1 V).1;have hl:=U.h;unfold XU T1;rw[Y,AA,h3 _ (U.a x hm)];cases hg:Da x.mu.fI
 ·rw[Xa2 (by rfl)];rfl
 rw[Xa1 (by simp)];by_cases hp:0<i
 ·obtain⟨j,rfl⟩ :∃j,i=j+1:=⟨i-1,by omega⟩;have Q:decide (((j+1:Nat):Int)>0)=true:=Xa4 (by omega);rw[Q,Xa2 rfl,AK (by omega),show (((j+1:Nat):Int)-1)=(j:Int) by omega,Ae (by omega),AA,Z,AA,AA,vT];have:b.gT.getD (j+1-1) x=b.gT[j]'(by omega):=by rw[Nat.add_sub_cancel,Xa8,X12 (by omega)];rfl
  rw[this];rfl
 have Q:decide ((i:Int)>0)=false:=by simp;omega
 rw[Q,Xa1 (by simp),AA,vF]
def Eo (b:rv):I:=
 Ly b.th&&(decide ((b.gT.length:Int)<=256)&&(decide (0<=b.xS)&&(decide (b.xS<=1073745919)&&(((b.xS !=0)==Kd b.gT)&&(!O8 (XU b) b.gT 0&&(Va b&&VK b))))))
def Nj {a b:Int}:decide (a>b)=!decide (a<=b):=by
 by_cases h:a<=b
 ·rw[Xa4 h,Xa9 (by omega)];rfl
 rw[Xa9 h,Xa4 (by omega)];rfl
def Xu {a b:Int}:decide (a<b)=!decide (b<=a):=by
 by_cases h:b<=a
 ·rw[Xa4 h,Xa9 (by omega)];rfl
 rw[Xa9 h,Xa4 (by omega)];rfl
def KL {b:rv}(H:Uq b):C4 b=some (Eo b):=by
 unfold C4 Eo;simp only[Nj (a:=(b.gT.length:Int)),Nj (a:=b.xS),Xu (a:=b.xS),vpr,AA,AB]
 rw[oS (bad:=XU b) (st:=λs x=>s || x.zw) (r:=some false) (λnext i x s J=>by
  refine (qx H DR Ho (λa h=>MI h) J λF=>if F=true then some false else (if s=true then next true else next (cond false true x.zw))).trans ?_
  cases XU b i x<;>cases s<;>rfl)]
 rw[Zu H.h];have K :∀(l:O gT) (s:I),l.foldl (λs x=>s || x.zw) s=(s || Kd l):=by
  intro l;induction l with
  | nil=>intro s;simp[Kd]
  | cons x t M=>intro s;rw[Xaj,M];simp[Kd,Bool.or_assoc]
 rw[K];simp only[AA,Bool.false_or];have P:(Kd b.gT==(b.xS !=0))=((b.xS !=0)==Kd b.gT):=by cases Kd b.gT<;>cases (b.xS !=0)<;>rfl
 rw[P];show _=some (Ly b.th&&(decide ((b.gT.length:Int)<=256)&&(decide (0<=b.xS)&&(decide (b.xS<=1073745919)&&(((b.xS !=0)==Kd b.gT)&&(!O8 (XU b) b.gT 0&&(decide ((n0 b.gT:Int)<=b.th.zi)&&decide ((n1 b.gT:Int)<=b.th.zh))))))));cases Ly b.th<;>cases decide ((b.gT.length:Int)<=256)<;>cases decide (0<=b.xS)<;>cases decide (b.xS<=1073745919)<;>cases ((b.xS !=0)==Kd b.gT)<;>cases O8 (XU b) b.gT 0<;>cases decide ((n0 b.gT:Int)<=b.th.zi)<;>cases decide ((n1 b.gT:Int)<=b.th.zh)<;>rfl
def pV {α H:Type}{key:α->H}{cmp:H->H->Int}(lo:LO cmp) :∀{l:O α},(∀j x y,l[j]?=some x->l[j+1]?=some y->cmp (key x) (key y)<0)->Cz key cmp l
 | [],_=>Xdm
 | a::t,h=>by
  have J:Cz key cmp t:=pV lo λj x y M P=>h (j+1) x y M P;refine Xab.2 ⟨λb F=>?_,J⟩;cases t with
  | nil=>cases F
  | cons c s=>
   have K:=h 0 a c rfl rfl;rcases Xa7.1 F with e|F
   ·rw[e];exact K
   exact lo.trans K ((Xab.1 J).1 b F)
structure VR (b:rv):Prop where
 peer:Ly b.th=true
 len:b.gT.length<=256
 u0:0<=b.xS
 u1:b.xS<=1073745919
 st:(b.xS !=0)=Kd b.gT
 Cz:Cz kH Az b.gT
 ok :∀x∈b.gT,Da x.mu.fI=true/\T1 b x=true
 f4:Va b=true
 f6:VK b=true
def VR.of {b:rv}(h:Eo b=true):VR b:=by
 unfold Eo at h;simp only[X24,Xy,Xbh,Xbd] at h;obtain⟨M,h2,P,Q,U,H,V,Y⟩:=h;rw[KW] at H;have J :∀j x,b.gT[j]?=some x->Da x.mu.fI=true/\(0<j->Az (kH (b.gT.getD (j-1) x)) (kH x)<0)/\T1 b x=true:=by intro j x F;have:=H j x F;rw[Xbc] at this;unfold XU at this;simp only[Bool.or_eq_false_iff,Bool.not_eq_false',Bool.and_eq_false_imp,Xy,Xav] at this;refine⟨this.1,λK=>?_,this.2.2⟩;have:=this.2.1 (by omega);omega
 refine⟨M,by omega,P,Q,U,pV Ax λj x y F Z=>?_,λx F=>?_,V,Y⟩
 ·have:=(J (j+1) y Z).2.1 (by omega);rw[Nat.add_sub_cancel,Xa8,F] at this;exact this
 obtain⟨j,K,e⟩:=List.mem_iff_getElem.1 F;have:=J j x (by rw[X12 K,e]);exact⟨this.1,this.2.2⟩
def VR.to {b:rv}(h:VR b):Eo b=true:=by unfold Eo;simp only[X24,Xy,Xbh,Xbd];refine⟨h.peer,by have:=h.len;omega,h.u0,h.u1,h.st,?_,h.f4,h.f6⟩;rw[KW];intro j x F;rw[Xbc];have H:=Xbz F;unfold XU;simp only[Bool.or_eq_false_iff,Bool.not_eq_false',Bool.and_eq_false_imp,Xy,Xav];refine⟨(h.ok x H).1,λK=>?_,(h.ok x H).2⟩;have J:=(X13.1 F).1;rw[Xa8,X12 (by omega)];have:=(List.pairwise_iff_getElem.1 h.Cz) (j-1) j (by omega) J (by omega);rw[(X13.1 F).2] at this;show ¬ Az (kH b.gT[j-1]) (kH x)≥0;omega
def Gy (l:O gT)(p:fI):O gT:=l.filter λh=>!(fI.zn h.mu.fI p)
def IN (l:O gT)(h:gT):O gT:=(l.filter λx=>decide (Az (kH x) (kH h)<0))++h::l.filter λx=>decide (0<Az (kH x) (kH h))
def dD (p:fI)(y:gT):(!(fI.zn y.mu.fI p))=true↔kH y≠p:=by rw[Xbd,<- Bool.not_eq_true,fI.zb];rfl
def cA {l1 l2:O gT}{x:gT}{p:fI}(h:At kH Az p l1 l2)(e:kH x=p):Gy (l1++x::l2) p=l1++l2:=eE Ax h e (dD p)
def j0 {l1 l2:O gT}{p:fI}(h:At kH Az p l1 l2):Gy (l1++l2) p=l1++l2:=jU Ax h (dD p)
def OE {l1 l2:O gT}{h:gT}(H:At kH Az (kH h) l1 l2):IN (l1++l2) h=l1++h::l2:=by
 unfold IN;rw[Xbb,Xbb];have a1:l1.filter (λx=>decide (Az (kH x) (kH h)<0))=l1:=Xd0.2 λ(y:gT) F=>Xa4 (H.1 y F);have J:l2.filter (λx=>decide (Az (kH x) (kH h)<0))=[]:=Xcw.2 λy F=>by have:=H.2 y F;simp;omega
 have K:l1.filter (λx=>decide (0<Az (kH x) (kH h)))=[]:=Xcw.2 λy F=>by have:=H.1 y F;simp;omega
 have M:l2.filter (λx=>decide (0<Az (kH x) (kH h)))=l2:=Xd0.2 λ(y:gT) F=>Xa4 (H.2 y F);rw[a1,J,K,M,Xb1,Xah]
def MY {l1 l2:O gT}{x h:gT}(H:At kH Az (kH h) l1 l2)(e:kH x=kH h):IN (l1++x::l2) h=l1++h::l2:=by have F:Az (kH x) (kH h)=0:=Ax.eq.2 e;unfold IN;rw[Xbb,Xbb,Xdq (by rw[F];simp),Xdq (by rw[F];simp),<- Xbb,<- Xbb];exact OE H
def kB {l:O gT}{p:fI}(h:Cz kH Az l):Cz kH Az (Gy l p):=I2 h
def V8 (l:O gT)(p:fI):(Gy l p).length<=l.length:=Xeb _ _
def ZD {l:O gT}{h:gT}(H:Cz kH Az l):Cz kH Az (IN l h):=by
 rcases split Ax H (kH h) with ⟨J,x,K,rfl,e,F⟩|⟨J,K,rfl,F⟩
 ·rw[MY F e];exact F.Pb Ax rfl (oU H)
 rw[OE F];exact F.Pb Ax rfl H
def Vg {l:O gT}{h:gT}(H:Cz kH Az l):(IN l h).length<=l.length+1:=by
 rcases split Ax H (kH h) with ⟨J,x,K,rfl,e,F⟩|⟨J,K,rfl,F⟩
 ·rw[MY F e];simp
 rw[OE F];simp;omega
def mF {l:O gT}{h x:gT}(F:x∈IN l h):x=h\/x∈l:=by
 unfold IN at F;rw[X20,Xa7] at F;rcases F with F|F|F
 ·exact .inr (Xb2.1 F).1
 ·exact .inl F
 exact .inr (Xb2.1 F).1
def jV {l:O gT}{p:fI}{x:gT}(F:x∈Gy l p):x∈l:=(Xb2.1 F).1
def UX {l:O gT}{p:fI}(Q:l.length<=1000000):Dx l p=some (Gy l p):=by
 unfold Dx;have go :∀(t:O gT) (i:Nat) (F:O gT),F.length+t.length<=1000000->AL (σ:=O gT) (λv2=>(λU=>some U) v2) (λH (J:gT) i5 v2=>AC (τ:=(O gT)) (λK=>if (!(fI.zn J.mu.fI p)) then Xx (gO (α:=gT) 208 v2 ([J]:O gT)) λV=>K V else K v2) λY=>H Y) t i F=some (F++Gy t p):=by
  intro t;induction t with
  | nil=>intro i F _;rw[Le];simp[Gy]
  | cons x t M=>
   intro i F h;simp only[X3] at h;rw[A6,AB];cases P:fI.zn x.mu.fI p
   ·rw[Xa2 (by rfl),AD (by decide) (by simp;omega),AA];refine (M _ _ (by simp;omega)).trans ?_;simp[Gy,P]
   rw[Xa1 (by simp)];refine (M _ _ (by omega)).trans ?_;simp[Gy,P]
 exact (go l 0 [] (by simpa using Q)).trans (by simp)
def iw {p:Prop}[Decidable p]{ρ:Type}(h:p){K:Unit->C ρ}:(Xx (Ch p) λx=>K x)=K ():=by unfold Ch;rw[Xa2 h,AA]
def aZ {ρ:Type}{l1 l2:O gT}{p:fI}(Y:At kH Az p l1 l2)(hl:(l1++l2).length<=1000000)(K:Int->C ρ) : AC (τ:=Int) (λM=>Ad (σ:=Int) (λF H=>AC (τ:=I) (λJ=>if (decide (H<((l1++l2).length:Int))) then Xx (gN (l1++l2) H) λP=>Xx (B2 P.mu.fI p) λQ=>J (cond true (decide (Q<0)) false) else J false) λU=>if U then F (AG (H+1)) else M H) xv 0) K=K (l1.length:Int):=by
 rw[AB];have Z:(l1++l2).length=l1.length+l2.length:=by simp
 refine Bq (λv:Int=>0<=v/\v<=l1.length) (λv=>(l1.length-v).toNat) (λ_=>K (l1.length:Int)) ?_ xv 0 ⟨by omega,by omega⟩ (BE (by omega));intro next v hv ih
 obtain⟨v,rfl⟩ :∃n:Nat,v=(n:Int):=⟨v.toNat,by omega⟩;rw[AB];by_cases h:v<l1.length
 ·rw[Xa2 (by simp;omega),Ae (by omega),AA,Ho,AA];have:(l1++l2)[v]'(by omega)=l1[v]:=Xaq h;have V:=Y.1 _ (Xad h);rw[this,show decide (Az l1[v].mu.fI p<0)=true from Xa4 V];show (if true=true then _ else _)=_;rw[Xa2 rfl,AK (by omega)];exact ih _ ⟨by omega,by omega⟩ (by omega)
 have e:v=l1.length:=by omega
 subst e;cases l2 with
 | nil=>rw[Xa1 (by simp)];show (if false=true then _ else _)=_;rw[Xa1 (by simp)]
 | cons y t=>rw[Xa2 (by simp;omega),F5,AA,Ho,AA];have V:=Y.2 y (by simp);rw[show decide (Az y.mu.fI p<0)=false from Xa9 (by have:0<Az y.mu.fI p:=V;omega)];show (if false=true then _ else _)=_;rw[Xa1 (by simp)]
def tw {ρ:Type}{l:O gT}{h:gT}{p:fI}(Z:kH h=p)(hs:Cz kH Az l)(hl:l.length<=100000)(K:O gT->C ρ) : (Xx (Dx l p) λF=>AC (τ:=Int) (λa6=>Ad (σ:=Int) (λP Q=>AC (τ:=I) (λV=>if (decide (Q<(F.length:Int))) then Xx (gN F Q) λa7=>Xx (B2 a7.mu.fI p) λa8=>V (cond true (decide (a8<0)) false) else V false ) λaa=>if aa then P (AG (Q+1)) else a6 Q ) xv 0 ) λH=>Xx (Ch (0<=H/\H<=(F.length:Int)/\(F.length:Int)<=(F.length:Int))) λ_=>Xx (gO (α:=gT) 208 [] (Xb7 (Xa0 (F.length:Int)-Xa0 H) (Xb8 (Xa0 H) F))) λ_=>Xx (Ch (H<=H/\H<=(F.length:Int))) λ_=>Xx (part F 0 H) λab=>Xx (gO (α:=gT) 208 ab ([h]:O gT)) λae=>Xx (gO (α:=gT) 208 ae (Xb7 (Xa0 (F.length:Int)-Xa0 H) (Xb8 (Xa0 H) F))) λaf=>K af)=K (IN l h):=by
 subst Z;rw[UX (by omega),AA];obtain⟨J,M,hw,hi,U,ag⟩ :∃J M,Gy l (kH h)=J++M/\IN l h=J++h::M/\At kH Az (kH h) J M/\(J++M).length<=100000:=by
  rcases split Ax hs (kH h) with ⟨J,x,M,rfl,e,U⟩|⟨J,M,rfl,U⟩
  ·exact⟨J,M,cA U e,MY U e,U,by simp at hl⊢;omega⟩
  exact⟨J,M,j0 U,OE U,U,hl⟩
 rw[hw,hi,aZ U (by omega)];have Y:(J++M).length=J.length+M.length:=by simp
 have ht:Xb7 (Xa0 ((J++M).length:Int)-Xa0 (J.length:Int)) (Xb8 (Xa0 (J.length:Int)) (J++M))=M:=by rw[Xax,Xax,List.drop_left,Y,Nat.add_sub_cancel_left,Xd3]
 have Z:part (J++M) 0 (J.length:Int)=some J:=by have:=Ds (l:=J++M) (a:=0) (b:=J.length) (by omega) (by omega);simpa using this
 rw[iw ⟨by omega,by omega,by omega⟩,ht,AD (by decide) (by simp;omega),AA,iw ⟨by omega,by omega⟩,Z,AA,AD (by decide) (by simp;omega),AA,AD (by decide) (by simp;omega),AA];simp
def Pr (f:oX)(b:rv)(u:zl)(p:fI):gT:=⟨⟨p,b.th.tb,u.gH⟩,Rc f b.th ⟨p,b.th.tb,u.gH⟩,false⟩
def wdE (b:rv)(u:zl):O gT:=u.oB.foldl Gy b.gT
def Ir (f:oX)(b:rv)(u:zl):O gT:=u.gF.foldl (λl p=>IN l (Pr f b u p)) (wdE b u)
def Iq (b:rv):rv:={ b with xS:=cond (Kd b.gT) b.xS 0 }
def zR:rv:=⟨⟨0,Xbe,0,0,[]⟩,false,[],0⟩
def Eb (f:oX)(b:rv)(u:zl):rv:={ b with gT:=Ir f b u }
def Dv (f:oX)(b:rv)(u:zl):rv×Int:=
 if (Si f&&(Eo b&&CN u))=true then
  if b.Up=true then
   if (Va (Eb f b u)&&(VK (Eb f b u)&&decide (((Eb f b u).gT.length:Int)<=256)))=true then (Iq (Eb f b u),0) else (zR,34)
  else (zR,31)
 else (zR,1)
def ZH {b:rv}{u:zl}(H:Cz kH Az b.gT):Cz kH Az (wdE b u)/\(wdE b u).length<=b.gT.length/\∀x∈wdE b u,x∈b.gT:=by
 unfold wdE;have go :∀(t:O fI) (l:O gT),Cz kH Az l->Cz kH Az (t.foldl Gy l)/\(t.foldl Gy l).length<=l.length/\∀x∈t.foldl Gy l,x∈l:=by
  intro t;induction t with
  | nil=>intro l h;exact⟨h,Xak _,λx F=>F⟩
  | cons p t J=>intro l h;obtain⟨K,M,P⟩:=J (Gy l p) (kB h);exact⟨K,Xay M (V8 l p),λx F=>jV (P x F)⟩
 exact go _ _ H
def Yf {l0:O gT}(g:fI->gT)(F:Cz kH Az l0)(t:O fI):Cz kH Az (t.foldl (λl p=>IN l (g p)) l0)/\(t.foldl (λl p=>IN l (g p)) l0).length<=l0.length+t.length/\∀x∈t.foldl (λl p=>IN l (g p)) l0,x∈l0 \/∃p∈t,x=g p:=by
 induction t generalizing l0 with
 | nil=>exact⟨F,Xak _,λx H=>.inl H⟩
 | cons p t J=>
  obtain⟨K,Q,M⟩:=J (l0:=IN l0 (g p)) (ZD F);have:=Vg (h:=g p) F;refine⟨K,by simp only[Xaj,X3];omega,λx H=>?_⟩;rcases M x H with h|⟨q,P,e⟩
  ·rcases mF h with e|h
   ·exact .inr ⟨p,by simp,e⟩
   exact .inl h
  exact .inr ⟨q,by simp[P],e⟩
end Go.AX.Q33
end
