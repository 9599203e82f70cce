/-
  Texts of one proof, packed.
-/
import Derived.Test.YtppcmaidcgimpaaGreatDoorU17
import Derived.Test.YtppcmaidcgimpaaGreatDoorU18
import Derived.Test.YtppcmaidcgimpaaGreatDoorU20
import Derived.Test.YtppcmaidcgimpaaGreatDoorU21
set_option linter.all false
set_option maxRecDepth 100000
set_option maxHeartbeats 4000000
open List renaming length_map→X10,length_append→X11,length_cons→X12,length_nil→X13,mem_singleton→X14,length_drop→X17,length_take→X18,mem_cons_of_mem→X19,length_replicate→X20,length_set→X21,length_singleton→X22,mem_append→X23
open Option.some renaming inj→X25
open Bool renaming and_eq_true→X27,eq_iff_iff→X28
open Option renaming bind→Wb,getD→Xau
open Int renaming toNat→Wo,fdiv→Xas
open List renaming cons→Xa8,replicate→Xav,toArray→Xcc,nil→Xej
open BitVec renaming ofInt→Xa2
open Go renaming maxLen→Xb3
open ByteArray renaming mk→Xc5
open UInt64 renaming ofNat→Xaq
open UInt8 renaming ofNat→Xbb
open Go.ByteArray renaming toList_eq→Xdl
section
namespace Go.AX.Q25
open Go Go.AX
def Uw {l:I gH}{x:gH}(h:l.Pairwise λa b=>xh a b=true)(K:YV l x.iB=[]):(Kz xh l x).Pairwise λa b=>xh a b=true:=by
 have M :∀y∈l,y.iB≠x.iB:=by unfold YV at K;rw[Xdj] at K;exact λy J e=>K y J (by rw[Xbr];exact e)
 have h0:=h;rw[<- Xet (p:=(xh · x)) (l:=l),Xbm] at h;obtain⟨Y,P,Z⟩:=h;have hd :∀b∈l.dropWhile (xh · x),xh x b=true:=by
  cases Q:l.dropWhile (xh · x) with
  | nil=>intro b F;simp at F
  | cons y t=>
   have J:xh y x=false:=by have:=List.head?_dropWhile_not (xh · x) l;rw[Q] at this;simpa using this
   have U:y∈l:=by
    have:y∈l.dropWhile (xh · x):=by rw[Q];simp
    exact List.dropWhile_subset _ this
   have H:xh x y=true:=by have:=M y U;unfold xh at J⊢;rw[Xb0] at J;exact Wz (by omega)
   rw[Q] at P;intro b F;rcases Xa3.1 F with rfl|F
   ·exact H
   exact jq _ _ _ H ((Xb4.1 P).1 b F)
 unfold Kz;rw[Xbm];refine⟨Y,Xb4.2 ⟨hd,P⟩,λa V b F=>?_⟩;rcases Xa3.1 F with e|F
 ·rw[e];exact Ip (xh · x) V
 exact Z a V b F
def raw (u:tT):I gH:=w9 u++((if 0<(BB true u.fT).length then [yL u] else [])++if 0<(BB true u.gS).length then [zf u] else [])
def aK {u:tT}(h:Ex u):(Eb u).Pairwise (λa b=>xh a b=true)/\∀x,x∈Eb u↔x∈raw u:=by
 have V:(w9 u).Pairwise (λa b=>xh a b=true)/\YV (w9 u) 14=[]/\YV (w9 u) 15=[]:=by
  unfold w9;by_cases K:0<u.fT.length
  ·rw[Wr K];obtain⟨v,_,_⟩:=h.g.a K;obtain⟨J,F,_⟩:=pV λx Y=>(Y7 v Y).1;exact⟨(SN v.O).imp λ{p q} h=>by rw[ea] at h;exact h,J,F⟩
  rw[Wm K];exact⟨.nil,rfl,rfl⟩
 obtain⟨P,J,F⟩:=V;have Z:(Kx u).Pairwise (λa b=>xh a b=true)/\YV (Kx u) 15=[]/\∀x,x∈Kx u↔x∈w9 u\/x∈(if 0<(BB true u.fT).length then [yL u] else []):=by
  rw[ez];by_cases H:0<(BB true u.fT).length
  ·rw[Wr H,Wr H];exact⟨Uw P J,(WI (x:=yL u) rfl).trans F,λx=>by rw[Fq,X14]⟩
  rw[Wm H,Wm H];exact⟨P,F,λx=>by simp⟩
 obtain⟨Q,M,U⟩:=Z;rw[ef];unfold raw;by_cases H:0<(BB true u.gS).length
 ·rw[Wr H,Wr H];refine⟨Uw Q M,λx=>?_⟩;rw[Fq,U,X23,X23,X14,or_assoc]
 rw[Wm H,Wm H];refine⟨Q,λx=>?_⟩;rw[U,Xaj,X23]
def mK {u:tT}(h:Ex u){cmp:gH->gH->O Int}(H :∀a b,cmp a b=some (DV (LP a) (LP b)))(P:(raw u).length<=1000000)(J:jP (raw u)):Gv cmp (raw u)=some (Eb u):=by
 obtain⟨s,m⟩:=aK h;obtain⟨r,K,F,M⟩:=fg K3 H (l:=raw u) (by omega);rw[K];congr 1;refine fP K3 (Wn K3 M ?_) (s.imp λ{a b} q=>by rw[ea];exact q) λx=>?_
 ·exact ((F.pairwise_iff λh e=>h e.symm).2 J).imp λ{a b} q e=>q (by simpa[LP] using e)
 rw[F.mem_iff,m]
def kV {u:tT}(h:Ex u):jP (raw u):=by
 have K:jP (w9 u)/\∀x∈w9 u,sk x=true:=by
  unfold w9;by_cases H:0<u.fT.length
  ·rw[Wr H];obtain⟨v,_,_⟩:=h.g.a H;exact⟨pC v.O,λx J=>(Y7 v J).1⟩
  rw[Wm H];exact⟨.nil,λx J=>by cases J⟩
 obtain⟨M,P⟩:=K;have Q :∀x∈w9 u,x.iB≠14/\x.iB≠15:=λx J=>by have:=P x J;unfold sk at this;simpa using this
 unfold raw jP;rw[Xbm];refine⟨M,?_,λa H b F=>?_⟩
 ·split<;>split<;>simp[yL,zf]
 have k:=Q a H;rcases X23.1 F with F|F
 ·split at F
  ·rw[X14] at F;subst F;exact k.1
  cases F
 split at F
 ·rw[X14] at F;subst F;exact k.2
 cases F
def MB {α:Type}(l:I α):((l.length:Int) !=(([]:I α).length:Int))=!decide (l=[]):=by
 cases l with
 | nil=>rfl
 | cons x t=>rw[Xa5 (by simp),Bool.not_false,Xeo];simp only[X12,X13];omega
def sy (l:I oF):FH l []=some (decide (l=[])):=by
 unfold FH;rw[MB];cases l with
 | nil=>rfl
 | cons x t=>rw[Xa5 (by simp)];rfl
def sU (l:I qv):FM l []=some (decide (l=[])):=by
 unfold FM;rw[MB];cases l with
 | nil=>rfl
 | cons x t=>rw[Xa5 (by simp)];rfl
def sG (l:I oB):CC l []=some (decide (l=[])):=by
 unfold CC;rw[MB];cases l with
 | nil=>rfl
 | cons x t=>rw[Xa5 (by simp)];rfl
def sF (l:I gH):CS l []=some (decide (l=[])):=by
 unfold CS;rw[MB];cases l with
 | nil=>rfl
 | cons x t=>rw[Xa5 (by simp)];rfl
def fA (a:gE):zS a=((a.gO==-1)&&(decide (a.Path=[])&&(Addr.wa a.Next zI&&((a.wo==-1)&&((a.th==-1)&&((a.vS==-1)&&(decide (a.cW=[])&&(decide (a.oB=[])&&decide (a.iX=[]))))))))):=by have h:=cY a;unfold Dv at h;have e :∀x:C,cond true x false=x:=λx=>rfl;rw[AC,show eA.Path=[] from rfl,show eA.cW=[] from rfl,show eA.oB=[] from rfl,show eA.iX=[] from rfl,sy,AA,sU,AA,sG,AA,sF,AA] at h;have F:(if (a.gO==-1)=true then if decide (a.Path=[])=true then if Addr.wa a.Next zI=true then if (a.wo==-1)=true then if (a.th==-1)=true then if (a.vS==-1)=true then if decide (a.cW=[])=true then if decide (a.oB=[])=true then some (decide (a.iX=[])) else some false else some false else some false else some false else some false else some false else some false else some false)=some (zS a):=h;generalize zS a=r at F⊢;generalize (a.gO==-1)=c1 at F⊢;generalize decide (a.Path=[])=c2 at F⊢;generalize Addr.wa a.Next zI=H at F⊢;generalize (a.wo==-1)=J at F⊢;generalize (a.th==-1)=K at F⊢;generalize (a.vS==-1)=M at F⊢;generalize decide (a.cW=[])=P at F⊢;generalize decide (a.oB=[])=Q at F⊢;generalize decide (a.iX=[])=U at F⊢;cases c1<;>cases c2<;>cases H<;>cases J<;>cases K<;>cases M<;>cases P<;>cases Q<;>simpa using F.symm
def fa (a:gE):zS a=true↔a=eA:=by
 constructor
 ·intro h;rw[fA] at h;simp only[X27,Xbr,Wd] at h;obtain⟨H,J,F,K,M,P,Q,U,V⟩:=h;have F:=(Addr.vR _ _).1 F;obtain⟨Y,Z,a3,a4,a5,a6,a7,a8,a9⟩:=a;dsimp only at *;subst H J F K M P Q U V;rfl
 rintro rfl;have:=cY eA;rw[gj] at this;exact (X25 this).symm
def sP:VA eA:=Ns.1 (by decide)
def qX:yz eA=[]:=by
 unfold yz;rw[List.flatMap_eq_nil_iff];intro k _;have:G eA (k:Int)=none:=by
  unfold G;have n1:¬ (eA.gO≠-1):=λq=>q rfl;have F:¬ (eA.gO≠-1\/eA.Path≠[]):=λq=>q.elim (λq=>q rfl) λq=>q rfl;have H:¬ (Jd eA=true):=by decide
  have J:¬ (eA.wo≠-1):=λq=>q rfl;have n5:¬ (eA.th≠-1):=λq=>q rfl;have n6:¬ (eA.cW≠[]):=λq=>q rfl;have n7:¬ (eA.oB≠[]):=λq=>q rfl;have K:¬ (eA.vS≠-1):=λq=>q rfl;rw[Wm n1,Wm F,Wm H,Wm J,Wm n5,Wm n6,Wm n7,Wm K];simp only[ite_self]
 unfold xB;rw[this];rfl
def rK {x y:Nat}(F:x<2^56):x ||| 2^56*y=2^56*y+x:=by rw[Nat.or_comm];exact (Nat.two_pow_add_eq_or_of_lt F y).symm
def ki (lo F:j):(AT ((Xa2 64 ((AT (Xas (lo.toNat:Int) (2^(min (Wo 8) 64)))).toNat:Int) ||| Xa2 64 ((AT ((F.toNat:Int)*(2^(min (Wo 56) 64)))).toNat:Int)).toNat:Int)).toNat=2^56*(F.toNat%256)+lo.toNat/256/\ (AT (Xas (F.toNat:Int) (2^(min (Wo 8) 64)))).toNat=F.toNat/256:=by
 have K:=lo.toNat_lt;have M:=F.toNat_lt;have e1:Xas (lo.toNat:Int) (2^(min (Wo 8) 64))=((lo.toNat/256:Nat):Int):=fd lo.toNat 8;have e2:Xas (F.toNat:Int) (2^(min (Wo 8) 64))=((F.toNat/256:Nat):Int):=fd F.toNat 8;have e3:((F.toNat:Int)*(2^(min (Wo 56) 64)))=((F.toNat*2^56:Nat):Int):=by rw[Int.natCast_mul];rfl
 rw[e1,e2,e3,By,By,By,By];have H:(Xaq (lo.toNat/256)).toNat=lo.toNat/256:=by rw[Xag];omega
 have J:(Xaq (F.toNat/256)).toNat=F.toNat/256:=by rw[Xag];omega
 have f3:(Xaq (F.toNat*2^56)).toNat=2^56*(F.toNat%256):=by rw[Xag];omega
 refine⟨?_,J⟩;rw[H,f3,Xbn,Xbn,BitVec.toNat_or,Xda,Xda,Xb9 (by omega),Xb9 (by omega),rK (by omega),Xag];omega
def pU (x:Addr)(b:C):(Addr.n ⟨b,AT (Xas (x.Hi.toNat:Int) (2^(min (Wo 8) 64))),AT ((Xa2 64 ((AT (Xas (x.Lo.toNat:Int) (2^(min (Wo 8) 64)))).toNat:Int) ||| Xa2 64 ((AT ((x.Hi.toNat:Int)*(2^(min (Wo 56) 64)))).toNat:Int)).toNat:Int)⟩)=x.n/256:=by obtain⟨F,H⟩:=ki x.Lo x.Hi;unfold Addr.n;rw[F,H];have J:=x.Lo.toNat_lt;omega
def ly (x:Addr):A4 (x.Lo.toNat:Int)=Xbb x.n:=by rw[FP];apply bL;unfold Addr.n;omega
def NS {a:Addr}(h:a.ok=true):Ba a=some (yx a):=by
 have hB:=(MI h).2;have hL:a.L=16\/a.L=4:=by unfold Addr.L;split<;>omega
 unfold Ba;rw[EU,AA,h,Wm (by decide),AC];have key :∀n:Int,n=a.L->(Wb (wQ (0<=n/\n<=n/\n<=1048576)) λ_=>AB (τ:=(I S)) (λk4=>BD (σ:=Int×Addr×(I S)) (λF (v6,H,K)=>if (decide (v6≥0)) then Wb (mu K v6) λv9=>Wb (wj K v6 (A4 (H.Lo.toNat:Int))) λM=>F ((AO (v6-1)),(⟨H.V6,(AT (Xas (H.Hi.toNat:Int) (2^(min (Wo 8) 64)))),(AT ((Xa2 64 ((AT (Xas (H.Lo.toNat:Int) (2^(min (Wo 8) 64)))).toNat:Int) ||| Xa2 64 ((AT ((H.Hi.toNat:Int)*(2^(min (Wo 56) 64)))).toNat:Int)).toNat:Int))⟩:Addr),M) else k4 K ) tE ((AO (n-1)),a,(Xav (Wo n) (0:S))) ) λP=>some P)=some (yx a):=by
  intro n hn;have ck:wQ (0<=n/\n<=n/\n<=1048576)=some ():=by unfold wQ;rw[Wr (by omega)]
  rw[ck,AA,AC];refine (Dq (λs:Int×Addr×I S=>∃j:Nat,j<=a.L/\s.1=(a.L:Int)-1-(j:Int)/\s.2.1.n=a.n/256^j/\s.2.2.length=a.L/\∀k,a.L-j<=k->k<a.L->s.2.2[k]?=some (QV a (a.L-1-k))) (λs=>(s.1+1).toNat) (λs=>some (yx a)) ?_ tE (AO (n-1),a,Xav (Wo n) (0:S)) ?_ ?_).trans rfl
  ·rintro next ⟨i,x,l⟩ ⟨j,hj,V,Q,Y,U⟩ hk
   dsimp only at V Q Y U⊢;subst V;rcases (by omega:j=a.L\/j<a.L) with e|a1
   ·rw[Wm (by simp only[Wd];omega)];congr 1;apply List.ext_getElem?;intro k;by_cases q:k<a.L
    ·rw[U k (by omega) q,rW h q]
    rw[Xc1 (by omega),Xc1 (by omega)]
   obtain⟨y,hy,_⟩:=Ok.mu (l:=l) (i:=(a.L:Int)-1-(j:Int)) (by omega);have hs:wj l ((a.L:Int)-1-(j:Int)) (A4 (x.Lo.toNat:Int))=some (l.set (a.L-1-j) (Xbb x.n)):=by unfold wj;rw[Wr (by omega),ly];congr 2;omega
   rw[Wr (by simp only[Wd];omega),hy,AA,hs,AA,AG (by omega)];refine hk _ ⟨j+1,by omega,by dsimp only;omega,?_,by dsimp only;rw[X21];exact Y,?_⟩ (by dsimp only;omega)
   ·dsimp only;rw[pU,Q,Nat.div_div_eq_div_mul,Nat.pow_succ]
   dsimp only;intro k k1 Z;rw[List.getElem?_set];by_cases q:a.L-1-j=k
   ·rw[Wr q,Wr (by omega),<- q];have e2:a.L-1-(a.L-1-j)=j:=by omega
    rw[e2,Q];unfold QV;rw[Nat.pow_mul]
   rw[Wm q];exact U k (by omega) Z
  ·refine⟨0,by omega,by dsimp only;rw[AG (by omega)];omega,by simp,?_,λk k1 Z=>by omega⟩;dsimp only;rw[X20];omega
  dsimp only;rw[AG (by omega)];exact BW (by omega)
 unfold Addr.L at key;by_cases J:a.V6=true
 ·rw[Wr J];rw[Wr J] at key;exact key 16 rfl
 rw[Wm J];rw[Wm J] at key;exact key 4 rfl
def qP (d:I S)(h:d.length<=2048):(Dx [⟨128,15,d⟩]).2=0/\(Dx [⟨128,15,d⟩]).1=Gh [⟨128,15,d⟩]\/2044<d.length:=by
 by_cases q:2044<d.length
 ·exact .inr q
 left;have F:Gh [⟨128,15,d⟩]=TU ⟨128,15,d⟩:=by unfold Gh;rw[Xaw,List.flatMap_nil,Xaj]
 have H:=Ud ⟨128,15,d⟩;have J:([⟨128,15,d⟩]:I gH).all z8=true:=by unfold z8;simp only[Xc3,List.all_nil,Xdb];simp;omega
 dsimp only at H;unfold Dx;rw[Wr J,F,Wm (by omega)];exact⟨rfl,rfl⟩
def qj {l:I fI}(h :∀p∈l,B5 p)(P:l.length<=40):Em ⟨l,eA,[]⟩=true:=by
 have Q:=Bo (six:=true) h;have U:=Bo (six:=false) h;have F :∀a:I S,(M9 ⟨l,eA,[]⟩ a).length=4+(BB false l).length+a.length:=λa=>by unfold M9;have t :∀n,(two n).length=2:=λn=>rfl;have z:(BB false ([]:I fI)).length=0:=rfl;simp only[X11,t];rw[z];omega
 have e2:Eb ⟨l,eA,[]⟩=if 0<(BB true l).length then [zf ⟨l,eA,[]⟩] else []:=by rw[ef,ez];rfl
 have hp:(E5 ⟨l,eA,[]⟩).2=0/\(E5 ⟨l,eA,[]⟩).1.length<=4077:=by
  unfold E5;rw[e2];split
  ·have V:(zf ⟨l,eA,[]⟩).Data.length=3+(BB true l).length:=by unfold zf;simp only[X11,X12,X13]
   have H:zf ⟨l,eA,[]⟩=⟨128,15,(zf ⟨l,eA,[]⟩).Data⟩:=rfl;rw[H];rcases qP (zf ⟨l,eA,[]⟩).Data (by omega) with ⟨J,K⟩|q
   ·rw[J,Wm (by decide)];refine⟨rfl,?_⟩;dsimp only;rw[F,K];have:=Ud (zf ⟨l,eA,[]⟩);have e:Gh [⟨128,15,(zf ⟨l,eA,[]⟩).Data⟩]=TU (zf ⟨l,eA,[]⟩):=by unfold Gh;rw[Xaw,List.flatMap_nil,Xaj];rfl
    rw[e];omega
   omega
  have j:Dx []=([],0):=rfl;rw[j,Wm (by decide)];refine⟨rfl,?_⟩;dsimp only;rw[F,X13];omega
 have M:zS eA=true:=(fa eA).2 rfl;unfold Em YX;rw[hp.1];dsimp only;rw[Wz (p:=l.length<=256) (by omega),Xaj,Xa0.2 (λp hp=>(Lx p).2.2 (h p hp)),M,Wz (p:=(E5 ⟨l,eA,[]⟩).1.length<=4077) hp.2];rfl
def KK {ρ:Type}(a:gE)(K:Int×I gH->O ρ):O ρ:=
 AB (τ:=Int×(I gH)) (λk1=>Wb (Bt a) λv2=>if (!v2) then k1 (1,[]) else AB (τ:=(I gH)) (λk3=>AB (τ:=(I gH)) (λk4=>if (a.gO !=(-1)) then Wb (some (Xau (A7 EB 1) 0)) λv5=>Wb (gN (α:=gH) 40 [] ([(⟨v5,1,([(A4 a.gO)]:I S)⟩:gH)]:I gH)) λ_=>k4 ([(⟨v5,1,([(A4 a.gO)]:I S)⟩:gH)]:I gH) else k4 [] ) λv6=>k3 v6 ) λv7=>AB (τ:=(I gH)) (λk8=>if (a.gO !=(-1)) then Wb (Bn a.Path) λv9=>AB (τ:=(I gH)) (λaf=>Wb (some (Xau (A7 EB 2) 0)) λag=>Wb (gN (α:=gH) 40 v7 ([(⟨ag,2,v9⟩:gH)]:I gH)) λah=>af ah ) λai=>k8 ai else Wb (Bn a.Path) λaj=>AB (τ:=(I gH)) (λak=>AB (τ:=(I gH)) (λM=>if (cond false true (decide ((a.Path.length:Int)>0))) then Wb (some (Xau (A7 EB 2) 0)) λal=>Wb (gN (α:=gH) 40 v7 ([(⟨al,2,aj⟩:gH)]:I gH)) λan=>M an else M v7 ) λao=>ak ao ) λap=>k8 ap ) λH=>AB (τ:=(I gH)) (λP=>if (!a.Next.V6) then Wb (Ba a.Next) λaq=>AB (τ:=(I gH)) (λar=>AB (τ:=(I gH)) (λQ=>if (cond true (!(Addr.wa a.Next (⟨false,(0:j),(0:j)⟩:Addr))) false) then Wb (some (Xau (A7 EB 3) 0)) λau=>Wb (gN (α:=gH) 40 H ([(⟨au,3,aq⟩:gH)]:I gH)) λax=>Q ax else Q H ) λay=>ar ay ) λaz=>P az else Wb (Ba a.Next) λcb=>AB (τ:=Unit) (λb0=>b0 () ) λ_=>P H ) λU=>Wb (BV ([a.wo]:I Int)) λba=>AB (τ:=(I gH)) (λbb=>AB (τ:=(I gH)) (λV=>if (a.wo !=(-1)) then Wb (some (Xau (A7 EB 4) 0)) λbc=>Wb (gN (α:=gH) 40 U ([(⟨bc,4,ba⟩:gH)]:I gH)) λbd=>V bd else V U ) λbe=>bb be ) λY=>Wb (BV ([a.th]:I Int)) λbf=>AB (τ:=(I gH)) (λbg=>AB (τ:=(I gH)) (λZ=>if (a.th !=(-1)) then Wb (some (Xau (A7 EB 5) 0)) λbh=>Wb (gN (α:=gH) 40 Y ([(⟨bh,5,bf⟩:gH)]:I gH)) λbi=>Z bi else Z Y ) λbj=>bg bj ) λa1=>Wb (B7 a.cW) λbk=>AB (τ:=(I gH)) (λbl=>AB (τ:=(I gH)) (λa6=>if (decide ((a.cW.length:Int)>0)) then Wb (some (Xau (A7 EB 8) 0)) λbm=>Wb (gN (α:=gH) 40 a1 ([(⟨bm,8,bk⟩:gH)]:I gH)) λbn=>a6 bn else a6 a1 ) λbo=>bl bo ) λa7=>Wb (EG a.oB) λbp=>AB (τ:=(I gH)) (λbq=>AB (τ:=(I gH)) (λa8=>if (decide ((a.oB.length:Int)>0)) then Wb (some (Xau (A7 EB 32) 0)) λbr=>Wb (gN (α:=gH) 40 a7 ([(⟨br,32,bp⟩:gH)]:I gH)) λbu=>a8 bu else a8 a7 ) λbw=>bq bw ) λaa=>Wb (BV ([a.vS]:I Int)) λbx=>AB (τ:=(I gH)) (λbz=>AB (τ:=(I gH)) (λab=>if (a.vS !=(-1)) then Wb (some (Xau (A7 EB 35) 0)) λc0=>Wb (gN (α:=gH) 40 aa ([(⟨c0,35,bx⟩:gH)]:I gH)) λc3=>ab c3 else ab aa ) λc4=>bz c4 ) λc5=>AB (τ:=(I gH)) (λc6=>AI (σ:=(I gH)) (λJ=>c6 J ) (λF (ae:gH) i72 J=>Wb (B1 ae.Data) λc7=>Wb (gN (α:=gH) 40 J ([{ ae with Data:=c7 }]:I gH)) λc8=>F c8 ) a.iX 0 c5 ) λc9=>Wb (Gv B2 c9) λca=>k1 (0,ca)
 ) K
def bM {a:gE}(v:VA a){ρ:Type}(K:Int×I gH->Option ρ):KK a K=K (0,yz a):=by
 have hs:=KT v.p;have hc:=(Jt.1 v.c);have hl:=(Jq.1 v.l).2.2;unfold KK;rw[AC,MY v.sm,AA,Ns.2 v,Wm (by decide)];have s1 :∀{ρ:Type} (q:I gH->Option ρ),AB (τ:=(I gH)) (λk2=>AB (τ:=(I gH)) (λk3=>if (a.gO !=(-1))=true then Wb (some (Xau (A7 EB 1) 0)) λv4=>Wb (gN (α:=gH) 40 [] ([(⟨v4,1,([(A4 a.gO)]:I S)⟩:gH)]:I gH)) λ_=>k3 ([(⟨v4,1,([(A4 a.gO)]:I S)⟩:gH)]:I gH) else k3 [] ) λv5=>k2 v5 ) q=q (xB a 1):=by
  intro ρ q;have H:G a 1=if a.gO≠-1 then some [A4 a.gO] else none:=rfl;unfold xB;rw[AC,AC,QJ,H];by_cases h:a.gO=-1
  ·rw[Wm (by simp[h]),Wm (by simp[h])]
  rw[Wr (by simpa using h),Wr h,AA,AD (by decide) (by simp),AA]
 rw[s1];have F:Bn a.Path=some (Ou a.Path):=iG (by omega);have s2 :∀{ρ:Type} (w:I gH) (U:w.length<=1) (q:I gH->Option ρ),AB (τ:=(I gH)) (λk7=>if (a.gO !=(-1))=true then Wb (Bn a.Path) λv8=>AB (τ:=(I gH)) (λk9=>Wb (some (Xau (A7 EB 2) 0)) λV=>Wb (gN (α:=gH) 40 w ([(⟨V,2,v8⟩:gH)]:I gH)) λY=>k9 Y ) λZ=>k7 Z else Wb (Bn a.Path) λa1=>AB (τ:=(I gH)) (λa6=>AB (τ:=(I gH)) (λJ=>if (cond false true (decide ((a.Path.length:Int)>0)))=true then Wb (some (Xau (A7 EB 2) 0)) λa7=>Wb (gN (α:=gH) 40 w ([(⟨a7,2,a1⟩:gH)]:I gH)) λa8=>J a8 else J w ) λaa=>a6 aa ) λab=>k7 ab ) q=q (w++xB a 2):=by
  intro ρ w U q;have H:G a 2=if a.gO≠-1\/a.Path≠[] then some (Ou a.Path) else none:=rfl;have e:(a.Path≠[])↔0<a.Path.length:=Xch.symm;unfold xB;rw[AC,F,QJ,H];by_cases h:a.gO=-1
  ·rw[Wm (by simp[h]),AA,AC,AC,Xcn];by_cases h2:0<a.Path.length
   ·rw[Wr (by simp only[Wd];omega),Wr (.inr (e.2 h2)),AA,AD (by decide) (by simp;omega),AA]
   rw[Wm (by simp only[Wd];omega),Wm (by rw[e];omega),Xaj]
  rw[Wr (by simpa using h),Wr (.inl h),AA,AC,AA,AD (by decide) (by simp;omega),AA]
 have l1:=Il a 1;have l2:=Il a 2;have l3:=Il a 3;have l4:=Il a 4;have l5:=Il a 5;have l8:=Il a 8;have ao:=Il a 32;refine (s2 _ (by omega) _).trans ?_;have s3 :∀{ρ:Type} (w:I gH) (U:w.length<=2) (q:I gH->Option ρ),AB (τ:=(I gH)) (λM=>if (!a.Next.V6)=true then Wb (Ba a.Next) λae=>AB (τ:=(I gH)) (λaf=>AB (τ:=(I gH)) (λP=>if (cond true (!(Addr.wa a.Next (⟨false,(0:j),(0:j)⟩:Addr))) false)=true then Wb (some (Xau (A7 EB 3) 0)) λag=>Wb (gN (α:=gH) 40 w ([(⟨ag,3,ae⟩:gH)]:I gH)) λah=>P ah else P w ) λai=>af ai ) λaj=>M aj else Wb (Ba a.Next) λap=>AB (τ:=Unit) (λak=>ak () ) λ_=>M w ) q=q (w++xB a 3):=by
  intro ρ w U q;have H:G a 3=if Jd a=true then some (b4 a.Next.Lo.toNat) else none:=rfl;unfold xB;rw[AC,QJ,H];unfold Jd;cases h6:a.Next.V6
  ·rw[Wr (by rfl),bX v.n h6,AA,AC,AC];cases Addr.wa a.Next ⟨false,0,0⟩
   ·rw[Wr (by rfl),Wr (by rfl),AA,AD (by decide) (by simp;omega),AA]
   rw[Wm (by decide),Wm (by decide),Xaj]
  obtain⟨r,hr⟩:=lX a.Next;rw[Wm (by decide),hr,AA,AC,Wm (by simp),Xaj]
 refine (s3 _ (by rw[X11];omega) _).trans ?_;rw[O9,AA];have Q :∀(k:Int) (c:C) (d:I S),G a k=(if c=true then some d else none)->(if c=true then [(⟨fl k,k,d⟩:gH)] else [])=xB a k:=by intro k c d h;unfold xB;rw[h];cases c<;>rfl
 have c4:G a 4=if (a.wo !=(-1))=true then some (w4 a.wo) else none:=by have:G a 4=if a.wo≠-1 then some (w4 a.wo) else none:=rfl;rw[this];simp only[Xeo]
 have c5:G a 5=if (a.th !=(-1))=true then some (w4 a.th) else none:=by have:G a 5=if a.th≠-1 then some (w4 a.th) else none:=rfl;rw[this];simp only[Xeo]
 have al:G a 35=if (a.vS !=(-1))=true then some (w4 a.vS) else none:=by have:G a 35=if a.vS≠-1 then some (w4 a.vS) else none:=rfl;rw[this];simp only[Xeo]
 have c8:G a 8=if decide ((a.cW.length:Int)>0)=true then some (a.cW.flatMap OG) else none:=by
  have:G a 8=if a.cW≠[] then some (a.cW.flatMap OG) else none:=rfl;rw[this];cases a.cW with
  | nil=>rfl
  | cons x t=>rw[Wr (by simp),Wr (by simp)]
 have an:G a 32=if decide ((a.oB.length:Int)>0)=true then some (a.oB.flatMap Ky) else none:=by
  have:G a 32=if a.oB≠[] then some (a.oB.flatMap Ky) else none:=rfl;rw[this];cases a.oB with
  | nil=>rfl
  | cons x t=>rw[Wr (by simp),Wr (by simp)]
 refine (mO (f:=fl 4) rfl (by simp only[X11];omega)).trans ?_;rw[Q 4 _ _ c4,O9,AA];refine (mO (f:=fl 5) rfl (by simp only[X11];omega)).trans ?_;rw[Q 5 _ _ c5,cC hc.1 (by omega),AA];refine (mO (f:=fl 8) rfl (by simp only[X11];omega)).trans ?_;rw[Q 8 _ _ c8,bU (by omega),AA];refine (mO (f:=fl 32) rfl (by simp only[X11];omega)).trans ?_;rw[Q 32 _ _ an,O9,AA];refine (mO (f:=fl 35) rfl (by simp only[X11];omega)).trans ?_;rw[Q 35 _ _ al];have aq:=Il a 35;refine (rh (by have:=v.e;omega) v.sm.d (by simp only[X11];omega)).trans ?_;have e:xB a 1++xB a 2++xB a 3++xB a 4++xB a 5++xB a 8++xB a 32++xB a 35++a.iX=T9 a:=by unfold T9 PE;simp only[Xaw,List.flatMap_nil,Xaj,Xak]
 rw[e,XY v.O (by unfold T9;rw[X11];have:=UT a;have:=v.e;omega),AA]
def N3 (p:fI):Bw p=some (IF p):=by
 have hg:=(Lx p).2;have no:¬ B5 p->some false=some (IF p):=λq=>by
  have:IF p=false:=by rw[Bool.eq_false_iff];exact λe=>q (hg.1 e)
  rw[this]
 unfold Bw;rw[AC,EU,AA,Tq];simp only[AA,Xcq];by_cases F:p.Addr.ok=true;case neg=>rw[Wm F];exact no λq=>F q.1
 rw[Wr F];by_cases H:0<=p.vg;case neg=>rw[Wm (by simpa using H)];exact no λq=>H q.2.1
 rw[Wr (by simpa using H)];by_cases h1:p.vg<=p.Addr.w;case neg=>rw[Wm (by simpa using h1)];exact no λq=>h1 q.2.2.1
 rw[Wr (by simpa using h1)];obtain⟨k,K⟩ :∃k:Nat,p.vg=k:=⟨p.vg.toNat,by omega⟩;have J:=JL p.Addr (n:=k) (by omega);rw[<- K] at J;rw[J,AA];congr 1;rw[X28,hg,Addr.vR];have e:p.vg.toNat=k:=by omega
 exact⟨λh=>⟨F,H,h1,by rw[e];exact h⟩,λh=>by have:=h.2.2.2;rw[e] at this;exact this⟩
def PP {acc:I S}{l:I fI}(Y:acc.length<=1000000)(Z:l.length<=100000)(hg :∀p∈l,B5 p)(six:C):E7 acc l six=some (acc++BB six l):=by
 unfold E7;rw[AC];refine (Xh (λ(t:I fI) _ (s:I S)=>s.length+17*t.length<=10000000/\∀p∈t,B5 p) (λt _ s=>some (s++BB six t)) ?_ ?_ l 0 acc ⟨by omega,hg⟩).trans rfl
 ·intro i s _;show some s=some (s++[]);rw[Xaj]
 rintro next p t i s ⟨P,H⟩ J
 simp only[X12] at P;have hp:=H p (by simp);have Q:=Ry hp;have K :∀q∈t,B5 q:=λq U=>H q (X19 _ U);obtain⟨M,k2,k3,_⟩:=hp;have e2:=(MI M).2;obtain⟨w1,w2⟩:=DA p.Addr;rw[AC,KR];by_cases F:(p.Addr.V6==six)=true
 ·obtain⟨k,V⟩ :∃k:Nat,p.vg=k:=⟨p.vg.toNat,by omega⟩;have e3:AO (Int.tdiv (AO (p.vg+7)) 8)=(((p.vg.toNat+7)/8:Nat):Int):=by rw[V,Xaa,AG (x:=(k:Int)+7) (by omega),Int.tdiv_eq_ediv_of_nonneg (by omega),AG (by omega)];omega
  have e4:(p.vg.toNat+7)/8<=p.Addr.L:=by omega
  rw[Wr F,Wr F,AD (by decide) (by simp only[X22];omega),AA,NS M,AA,e3,Vk (by omega),AA, AD (by decide) (by simp only[X11,X22,X18];omega),AA];dsimp only
  rw[J _ ⟨by
   simp only[X11,X22,X18]
   omega,K⟩]
  unfold VN;simp only[Xak,List.singleton_append,List.cons_append,Xay]
 rw[Wm F,Wm F];dsimp only;rw[J _ ⟨by omega,K⟩,Xay]
def Ni {l:I fI}(F:l.length<=100000)(hg :∀p∈l,B5 p)(six:C):Es l six=some (BB six l):=PP (acc:=[]) (by simp) F hg six
def Yf (n:Nat):GO (n:Int)=some (two n):=by unfold GO;rw[AD (by decide) (by simp),AA];rfl
def lh {b:I S}(F:b.length<=1000000)(n:Nat):J6 b (n:Int)=some (b++two n):=by unfold J6;rw[AD (by decide) (by simp only[X12,X13];omega),AA];rfl
def lU (a b:gH):Gw a b=some (DV (LP a) (LP b)):=aN a b
def bO {u:tT}(g:yW u):(Eb u).length<=18/\∀x∈Eb u,x.Data.length<=20000:=by
 have K:=Bo (six:=true) g.gw;have M:=Bo (six:=true) g.ga;have Q:=g.w;have U:=g.n;have H:(w9 u).length<=16/\∀x∈w9 u,x.Data.length<=768:=by
  unfold w9;split
  ·exact (g.a ‹_›).2
  simp
 have P:(yx u.gE.Next).length<=16\/u.fT.length=0:=by
  rcases Nat.eq_zero_or_pos u.fT.length with h|h
  ·exact .inr h
  have:=(MI (g.a h).1.n).2;have:=(DA u.gE.Next).2;exact .inl (by omega)
 have J:(Kx u).length<=17/\∀x∈Kx u,x.Data.length<=20000:=by
  unfold Kx;split
  ·refine⟨by rw[Hw];omega,λx F=>?_⟩;rcases Fq.1 F with F|rfl
   ·have:=H.2 x F;omega
   have V:(yx u.gE.Next).length<=16:=P.resolve_right (by omega);simp only[X11,X12,X13];omega
  exact⟨by omega,λx F=>by have:=H.2 x F;omega⟩
 unfold Eb;split
 ·refine⟨by rw[Hw];omega,λx F=>?_⟩;rcases Fq.1 F with F|rfl
  ·exact J.2 x F
  simp only[X11,X12,X13];omega
 exact⟨by omega,J.2⟩
def gB {u:tT}(h:Ex u)(he:u.fT=[]->u.gE=eA):JG u=some (Eb u):=by
 have g:=h.g;have hw:=g.w;have hn:=g.n;have a7:=Bo (six:=true) g.gw;have a8:=Bo (six:=true) g.ga;have H:u.fT=[]↔¬ 0<u.fT.length:=by rw[Xch];exact Decidable.not_not.symm
 have v:VA u.gE:=by
  by_cases hp:0<u.fT.length
  ·exact (g.a hp).1
  rw[he (H.2 hp)];exact sP
 have e0:yz u.gE=w9 u:=by
  unfold w9;by_cases hp:0<u.fT.length
  ·rw[Wr hp]
  rw[Wm hp,he (H.2 hp),qX]
 have l0:(w9 u).length<=16:=e0▸Ur v;have c0:0<(BB true u.fT).length↔0<u.fT.length/\u.gE.Next.V6=true:=by
  rw[jD];constructor
  ·intro q;obtain⟨p,hp⟩:=List.exists_mem_of_ne_nil _ q;rw[Xbl] at hp;refine⟨List.length_pos_of_mem hp.1,?_⟩;rw[<- h.s p hp.1];simpa using hp.2
  rintro⟨q1,q2⟩;obtain⟨p,hp⟩:=List.exists_mem_of_ne_nil _ (Xch.1 q1);refine List.ne_nil_of_mem (a:=p) (Xbl.2 ⟨hp,?_⟩);rw[h.s p hp,q2];rfl
 have hL:=(MI v.n).2;have aa:=(DA u.gE.Next).2;unfold JG;show KK u.gE _=_;rw[bM v];dsimp only;rw[e0];have e1 :∀{F:Type} (K:C->O F),AB (τ:=C) (λJ=>if (decide ((u.fT.length:Int)>0)) then J (cond true u.gE.Next.V6 false) else J false) K=K (decide (0<(BB true u.fT).length)):=by
  intro F K;rw[AC];by_cases hp:0<u.fT.length
  ·rw[Wr (by simp only[Wd];omega)];congr 1;rw[X28,Wd,c0];exact⟨λq=>⟨hp,q⟩,λq=>q.2⟩
  rw[Wm (by simp only[Wd];omega)];congr 1;rw[X28,Wd,c0];exact⟨(λq=>nomatch q),λq=>absurd q.1 hp⟩
 rw[e1];have e2 :∀{F:Type} (K:I gH->O F),AB (τ:=(I gH)) (λM=>if decide (0<(BB true u.fT).length) then Wb (Ba u.gE.Next) λQ=>Wb (gN (α:=S) 1 ([(0:S),(2:S),(1:S),(16:S)]:I S) Q) λU=>Wb (gN (α:=S) 1 U ([(0:S)]:I S)) λV=>Wb (E7 V u.fT true) λY=>Wb (gN (α:=gH) 40 (w9 u) ([(⟨128,14,Y⟩:gH)]:I gH)) λZ=>M Z else M (w9 u)) K=K (w9 u++if 0<(BB true u.fT).length then [yL u] else []):=by
  intro F K;rw[AC];by_cases hp:0<(BB true u.fT).length
  ·rw[Wr (by simpa using hp),Wr hp,NS v.n,AA,AD (by decide) (by simp only[X12,X13];omega),AA, AD (by decide) (by simp only[X11,X12,X13];omega),AA, PP (by simp only[X11,X12,X13];omega) (by omega) g.ga,AA,AD (by decide) (by simp only[X12,X13];omega),AA];rfl
  rw[Wm (by simpa using hp),Wm hp,Xaj]
 rw[e2,Ni (by omega) g.gw,AA];have e3 :∀{F:Type} (w:I gH) (hw:w.length<=17) (K:I gH->O F),AB (τ:=(I gH)) (λP=>if (decide (((BB true u.gS).length:Int)>0)) then Wb (gN (α:=S) 1 ([(0:S),(2:S),(1:S)]:I S) (BB true u.gS)) λa1=>Wb (gN (α:=gH) 40 w ([(⟨128,15,a1⟩:gH)]:I gH)) λa6=>P a6 else P w) K=K (w++if 0<(BB true u.gS).length then [zf u] else []):=by
  intro F w hw K;rw[AC];by_cases hp:0<(BB true u.gS).length
  ·rw[Wr (by simp only[Wd];omega),Wr hp,AD (by decide) (by simp only[X12,X13];omega),AA,AD (by decide) (by simp only[X12,X13];omega),AA];rfl
  rw[Wm (by simp only[Wd];omega),Wm hp,Xaj]
 have l1:(w9 u++if 0<(BB true u.fT).length then [yL u] else []).length<=17:=by rw[X11];split<;>simp only[X22,X13]<;>omega
 rw[e3 _ l1,Xak];show Wb (Gv Gw (raw u)) _=_;have l2:(raw u).length<=1000000:=by
  have q1:(if 0 < (BB true u.gS).length then [zf u] else []).length<=1:=by split<;>simp
  unfold raw;rw[<- Xak,X11];omega
 rw[mK h lU l2 (kV h),AA]
def Dg (u:tT):I S×C:=(M9 u (Dx (Eb u)).1,((Dx (Eb u)).2==0)&&decide ((M9 u (Dx (Eb u)).1).length<=4077))
def iF {u:tT}(h:Ex u)(F:u.fT=[]->u.gE=eA):HY u=some (Dg u):=by
 have g:=h.g;have P:=g.w;have Q:=g.n;have H:=Bo (six:=false) g.gw;have J:=Bo (six:=false) g.ga;obtain⟨U,K⟩:=bO g;have V:=W5 (l:=Eb u);unfold HY Dg;rw[gB h F,AA,jC (by omega) (λx M=>by have:=K x M;omega),AA];dsimp only;rw[Ni (by omega) g.gw,AA,Yf,AA,AD (by decide) (by simp only[two,X12,X13];omega),AA, lh (by simp only[two,X11,X12,X13];omega),AA, AD (by decide) (by simp only[two,X11,X12,X13];omega),AA, PP (by simp only[two,X11,X12,X13];omega) (by omega) g.ga,AA,AC];show (if ((Dx (Eb u)).2==0)=true then some (M9 u (Dx (Eb u)).1,cond true (decide (((M9 u (Dx (Eb u)).1).length:Int)<=4077)) false) else some (M9 u (Dx (Eb u)).1,false))=_;have e:decide (((M9 u (Dx (Eb u)).1).length:Int)<=4077)=decide ((M9 u (Dx (Eb u)).1).length<=4077):=by rw[Xek];omega
 rw[e];cases ((Dx (Eb u)).2==0)<;>rfl
def re (a b c d:Nat)(F:a<=1000000)(H:b<=1000000)(J:c<=1000000)(K:d<=1000000):(AO (AO (AO ((a:Int)+b)+c)+d)==0)=(decide (a=0)&&(decide (b=0)&&(decide (c=0)&&decide (d=0)))):=by rw[AG (x:=(a:Int)+b) (by omega),AG (x:=(a:Int)+b+c) (by omega),AG (x:=(a:Int)+b+c+d) (by omega)];rw[X28];simp only[Xbr,X27,Wd];omega
def dN {a:gE}(h:xH a):Ho a=some (zS a):=by
 unfold Ho;rw[fA,AC,AC,re _ _ _ _ h.p h.c h.l h.o];have e :∀{F:Type} (l:I F),decide (l.length=0)=decide (l=[]):=λl=>by rw[Xek];exact Xcm
 rw[e,e,e,e];show (if (a.gO==(-1))=true then _ else _)=_;unfold zI;cases (a.gO==(-1))<;>cases (a.wo==(-1))<;>cases (a.th==(-1))<;>cases (a.vS==(-1))<;>cases (Addr.wa a.Next ⟨false,0,0⟩)<;>simp
def Ws (u:tT) :∀(l:I fI) (i:Nat),AI (σ:=tT) (λv2=>some ((-1:Int),v2)) (λF (K:fI) M v2=>Wb (FT K v2) λ(v6,H)=>if v6 then some ((M:Int),H) else F H) l i u=some (match l.findIdx? (λp=>!(p.Addr.V6==u.gE.Next.V6)) with|some j=>((i+j:Nat):Int)|none=>-1,u)
 | [],_=>rfl
 | x::t,i=>by
  show Wb (FT x u) (λ(v6,H)=>if v6 then some ((i:Int),H) else AI (σ:=tT) (λv2=>some ((-1:Int),v2)) _ t (i+1) H)=_;rw[show FT x u=some (!(x.Addr.V6==u.gE.Next.V6),u) from rfl,AA,List.findIdx?_cons];dsimp only;by_cases J:(!(x.Addr.V6==u.gE.Next.V6))=true
  ·rw[Wr J,Wr J];simp
  rw[Wm J,Wm J,Ws u t];cases t.findIdx? _ with
  | none=>rfl
  | some j=>show some (((i+1+j:Nat):Int),u)=some (((i+(j+1):Nat):Int),u);rw[show i+1+j=i+(j+1) by omega]
def AR (u:tT)(l:I fI):Ad l u=some (l.any (λp=>!(p.Addr.V6==u.gE.Next.V6)),u):=by
 unfold Ad Au;rw[AC,Ws,AA];dsimp only;congr 2;cases F:l.findIdx? (λp=>!(p.Addr.V6==u.gE.Next.V6)) with
 | none=>
  rw[List.findIdx?_eq_none_iff] at F;have:l.any (λp=>!(p.Addr.V6==u.gE.Next.V6))=false:=by rw[List.any_eq_false];intro x H;rw[F x H];simp
  rw[this];rfl
 | some j=>obtain⟨J,K,_⟩:=List.findIdx?_eq_some_iff_getElem.1 F;have:l.any (λp=>!(p.Addr.V6==u.gE.Next.V6))=true:=List.any_eq_true.2 ⟨_,Xae J,K⟩;rw[this];simp
def Xd (u:tT):C:=(!(decide (u.fT=[])) || zS u.gE)&&u.fT.all (QI u.gE)
def eJ {α:Type}{f:α->C}{c:C} :∀{l:I α},l≠[]->l.all (λx=>f x&&c)=(l.all f&&c)
 | [x],_=>by simp
 | x::y::t,_=>by rw[Xc3,eJ (l:=y::t) (by simp),Xc3 (l:=y::t)];cases f x<;>cases c<;>simp
def iE {u:tT}(h:xH u.gE):Iu u=some (Xd u):=by
 unfold Iu Xd;by_cases F:u.fT=[]
 ·rw[Wr (by rw[F];rfl),dN h,AA,F];simp
 have H:0<u.fT.length:=Xch.2 F;rw[Wm (by rw[Xbr];omega),AC,MY h,AA,AR,AA,Xa5 F];have e:u.fT.all (QI u.gE)=(u.fT.all (λp=>p.Addr.V6==u.gE.Next.V6)&&((u.gE.gO !=-1)&&(!(Addr.wa u.gE.Next zI)&&EY u.gE))):=by rw[<- eJ F];rfl
 have e2:u.fT.any (λp=>!(p.Addr.V6==u.gE.Next.V6))=!u.fT.all (λp=>p.Addr.V6==u.gE.Next.V6):=by rw[List.not_all_eq_any_not]
 rw[e,e2];show (if EY u.gE=true then _ else _)=_;unfold zI;cases EY u.gE<;>cases (u.gE.gO !=(-1))<;>cases (Addr.wa u.gE.Next ⟨false,0,0⟩)<;>cases u.fT.all (λp=>p.Addr.V6==u.gE.Next.V6)<;>rfl
def XX (l:I fI):Ac l=some (!l.all IF):=by
 have h:=M5 (f:=GH) (q:=λp=>!IF p) (l:=l) λx _=>by unfold GH;rw[N3,AA]
 rw[<- List.not_all_eq_any_not] at h;exact h
def qp {u:tT}(K:u.gS.length<=256)(M:u.fT.length<=256)(P:(u.gS++u.fT).all IF=true)(Q:u.fT.all (QI u.gE)=true):Ex u:=by
 have H :∀p∈u.gS++u.fT,B5 p:=λp hp=>(Lx p).2.1 (Xa0.1 P p hp);have F :∀p∈u.fT,p.Addr.V6=u.gE.Next.V6/\u.gE.gO≠-1/\u.gE.Next≠zI/\VA u.gE:=λp hp=>by have:=Xa0.1 Q p hp;unfold QI at this;simp only[X27,Xbr,Xeo,Xbj] at this;obtain⟨U,V,J,Y⟩:=this;exact⟨U,V,(λq=>by rw[q,(Addr.vR _ _).2 rfl] at J;cases J),Ns.1 Y⟩
 refine⟨⟨by omega,by omega,λp hp=>H p (Xcr _ hp),λp hp=>H p (Xdp _ hp),λq=>?_⟩,K,M,λp hp=>(F p hp).1,λq=>?_⟩
 ·obtain⟨p,hp⟩:=List.exists_mem_of_ne_nil _ (Xch.1 q);have v:=(F p hp).2.2.2;exact⟨v,Ur v,λx Z=>ec v Z⟩
 obtain⟨p,hp⟩:=List.exists_mem_of_ne_nil _ q;exact⟨(F p hp).2.1,(F p hp).2.2.1⟩
def oc (u:tT):YX u=(Dg u).2/\((Dg u).2=true->E5 u=((Dg u).1,0)):=by
 unfold YX E5 Dg;by_cases F:(Dx (Eb u)).2=0
 ·have H:¬ (Dx (Eb u)).2≠0:=λq=>q F;rw[Wm H];have:((Dx (Eb u)).2==0)=true:=by rw[F];rfl
  rw[this];exact⟨rfl,λ_=>rfl⟩
 rw[Wr F];have:((Dx (Eb u)).2==0)=false:=by simpa using F
 dsimp only;rw[this];exact⟨rfl,λq=>nomatch q⟩
def Yn (u:tT):Em u=(decide (u.gS.length<=256)&&(decide (u.fT.length<=256)&&((u.gS++u.fT).all IF&&(Xd u&&(Dg u).2)))):=by unfold Em Xd;rw[(oc u).1];simp only[Bool.and_assoc]
def Yd {u:tT}(K:xH u.gE):H5 u=some (Em u):=by
 unfold H5;rw[AC,Yn];by_cases h1:u.gS.length<=256;case neg=>rw[Wr (by simp only[Wd];omega),Xa5 h1];rfl
 rw[Wm (by simp only[Wd];omega),Wz h1];by_cases H:u.fT.length<=256;case neg=>rw[Wr (by rw[Xcn,Wd];omega),Xa5 H];rfl
 rw[Wm (by rw[Xcn,Wd];omega),Wz H,XX,AA,XX,AA,iE K,AA,List.all_append];cases M:u.gS.all IF
 ·rfl
 cases P:u.fT.all IF
 ·rfl
 cases F:Xd u
 ·rfl
 have J:u.fT.all (QI u.gE)=true/\(u.fT=[]->u.gE=eA):=by unfold Xd at F;simp only[X27,Xcx,Xbj,Xb0] at F;exact⟨F.2,λq=>(fa _).1 (F.1.resolve_left λw=>w q)⟩
 have Q:=qp h1 H (by rw[List.all_append,M,P];rfl) J.1;show Wb (HY u) _=_;rw[iF Q J.2,AA];rfl
instance (F:Addr):Tt (CX F):=by unfold CX;exact Tt.wT
instance (F:Addr):Tt (C6 F):=by unfold C6;exact Tt.wT
instance (F:I S):Tt (CE F):=by unfold CE;exact Tt.wT
instance (a:Addr) (n:Int):Tt (D1 a n):=by obtain⟨r,e,h,_⟩:=Im a n;exact⟨_,h⟩
def Q9 {p:fI}{x:Addr}(J:x.ok=true):D4 p x=some (Cr p x):=by
 obtain⟨r,e,K,M⟩:=Im x p.vg;unfold D4;rw[K,AA];dsimp only;rw[AC];rcases M with ⟨⟨_,F,H⟩,rfl,rfl⟩|⟨F,H⟩
 ·simp only[Xd0,Xeq];unfold Cr fI.wa Addr.wa;simp[F,H]
 simp only[Xbr,H,Xe7];unfold Cr;have:¬ (0<=p.vg/\p.vg<=x.w):=λh=>F ⟨J,h⟩;simp only[this,decide_false,Bool.false_and]
def KC (p:fI)(x:Addr):EF p x=some (Cr p x):=by
 have H:BZ x=some (x.w:Int):=by unfold BZ Addr.w;split<;>rfl
 have J:(p.Addr.V6==x.V6)=false->Addr.wa (x.cut p.vg.toNat) p.Addr=false:=by
  intro h;unfold Addr.wa;rw[qO];have:(x.V6==p.Addr.V6)=false:=by rw[Bool.beq_comm];exact h
  rw[this,Bool.false_and]
 unfold EF;rw[AC];cases K:(p.Addr.V6==x.V6)
 ·rw[Wm (by decide)];unfold Cr;rw[J K,Bool.and_false]
 rw[Wr rfl];by_cases F:0<=p.vg
 ·rw[Wr (by simpa using F),H,AA];by_cases h1:p.vg<=x.w
  ·rw[Wr (by simpa using h1)];obtain⟨k,M⟩ :∃k:Nat,p.vg=k:=⟨p.vg.toNat,by omega⟩;unfold Cr;rw[M,JL x (by omega),AA,Xaa];have:(0:Int)<=(k:Int)/\(k:Int)<=x.w:=by omega
   simp only[this,and_self,decide_true,Xce,Xcq]
  rw[Wm (by simpa using h1)];unfold Cr;simp[h1]
 rw[Wm (by simpa using F)];unfold Cr;simp[F]
instance (p:fI) (x:Addr):Tt (D4 p x):=by unfold D4;exact Tt.wT
instance (p q:fI):Tt (Bj p q):=by unfold Bj;exact Tt.wT
instance (p:fI):Tt (A8 p):=by unfold A8;exact Tt.wT
instance (p:fI) (x:Addr):Tt (EF p x):=⟨_,KC p x⟩
instance (o:kI):Tt (CV o):=by unfold CV;exact Tt.wT
instance (l:I kI) (p:fI) (n:Int):Tt (DZ l p n):=by unfold DZ;exact Tt.wT
def mr (n:Nat):C:=(decide (97<=n)&&decide (n<=122)) || (decide (65<=n)&&decide (n<=90)) || (decide (48<=n)&&decide (n<=57)) || decide (n=45) || decide (n=58)
def Ov (c:S):C:=mr c.toNat
def wR (s:T):C:=decide (1<=s.size)&&decide (s.size<=32)&&s.toList.all Ov
def dZ (s:T):s.toList.length=s.size:=by rw[Xdl,Xan];rfl
def Ot {s:T}(h:s.size<=Xb3):HB s=some (wR s):=by
 have Z:=dZ s;have hm:Xb3=9223372036854775807:=rfl;unfold HB;rw[AC];have H:AB (τ:=C) (λM=>if (decide ((s.size:Int)≥1)) then M (cond true (decide ((s.size:Int)<=32)) false) else M false) (λQ=>some Q)=some (decide (1<=s.size)&&decide (s.size<=32)):=by
  rw[AC];by_cases h1:1<=s.size
  ·rw[Wr (by simp;omega)];simp[h1];omega
  rw[Wm (by simp;omega)];simp[h1]
 rw[Dq (λv:Int=>0<=v/\v<=s.size) (λv=>(s.size-v).toNat) (λv=>cond ((s.toList.drop v.toNat).all Ov) (some (decide (1<=s.size)&&decide (s.size<=32))) (some false)) ?_ tE 0 (by omega) (BW (by omega))]
 ·unfold wR;simp only[Int.toNat_zero,List.drop_zero];cases s.toList.all Ov<;>simp
 intro next v hv U
 by_cases J:v<s.size
 ·obtain⟨k,rfl⟩ :∃k:Nat,v=k:=⟨v.toNat,by omega⟩;have P:k<s.toList.length:=by omega
  rw[Wr (by simpa using J),BY P,AA];have key :∀(c:S) (K:C->O C),AB (τ:=C) (λF=>if (decide ((c.toNat:Int)≥97)) then if (cond true (decide ((c.toNat:Int)<=122)) false) then F (!true) else if (decide ((c.toNat:Int)≥65)) then if (cond false true (cond true (decide ((c.toNat:Int)<=90)) false)) then F (!true) else if (decide ((c.toNat:Int)≥48)) then if (cond false true (cond true (decide ((c.toNat:Int)<=57)) false)) then F (!true) else if (cond false true ((c.toNat:Int)==45)) then F (!true) else F (!(cond false true ((c.toNat:Int)==58))) else if (cond false true ((c.toNat:Int)==45)) then F (!true) else F (!(cond false true ((c.toNat:Int)==58))) else if (decide ((c.toNat:Int)≥48)) then if (cond false true (cond true (decide ((c.toNat:Int)<=57)) false)) then F (!true) else if (cond false true ((c.toNat:Int)==45)) then F (!true) else F (!(cond false true ((c.toNat:Int)==58))) else if (cond false true ((c.toNat:Int)==45)) then F (!true) else F (!(cond false true ((c.toNat:Int)==58))) else if (decide ((c.toNat:Int)≥65)) then if (cond false true (cond true (decide ((c.toNat:Int)<=90)) false)) then F (!true) else if (decide ((c.toNat:Int)≥48)) then if (cond false true (cond true (decide ((c.toNat:Int)<=57)) false)) then F (!true) else if (cond false true ((c.toNat:Int)==45)) then F (!true) else F (!(cond false true ((c.toNat:Int)==58))) else if (cond false true ((c.toNat:Int)==45)) then F (!true) else F (!(cond false true ((c.toNat:Int)==58))) else if (decide ((c.toNat:Int)≥48)) then if (cond false true (cond true (decide ((c.toNat:Int)<=57)) false)) then F (!true) else if (cond false true ((c.toNat:Int)==45)) then F (!true) else F (!(cond false true ((c.toNat:Int)==58))) else if (cond false true ((c.toNat:Int)==45)) then F (!true) else F (!(cond false true ((c.toNat:Int)==58)))) K=K (!Ov c):=by
   intro c K;rw[AC];have V :∀n:Fin 256,(λn:Nat=>if (decide ((n:Int)≥97)) then if (cond true (decide ((n:Int)<=122)) false) then (!true) else if (decide ((n:Int)≥65)) then if (cond false true (cond true (decide ((n:Int)<=90)) false)) then (!true) else if (decide ((n:Int)≥48)) then if (cond false true (cond true (decide ((n:Int)<=57)) false)) then (!true) else if (cond false true ((n:Int)==45)) then (!true) else (!(cond false true ((n:Int)==58))) else if (cond false true ((n:Int)==45)) then (!true) else (!(cond false true ((n:Int)==58))) else if (decide ((n:Int)≥48)) then if (cond false true (cond true (decide ((n:Int)<=57)) false)) then (!true) else if (cond false true ((n:Int)==45)) then (!true) else (!(cond false true ((n:Int)==58))) else if (cond false true ((n:Int)==45)) then (!true) else (!(cond false true ((n:Int)==58))) else if (decide ((n:Int)≥65)) then if (cond false true (cond true (decide ((n:Int)<=90)) false)) then (!true) else if (decide ((n:Int)≥48)) then if (cond false true (cond true (decide ((n:Int)<=57)) false)) then (!true) else if (cond false true ((n:Int)==45)) then (!true) else (!(cond false true ((n:Int)==58))) else if (cond false true ((n:Int)==45)) then (!true) else (!(cond false true ((n:Int)==58))) else if (decide ((n:Int)≥48)) then if (cond false true (cond true (decide ((n:Int)<=57)) false)) then (!true) else if (cond false true ((n:Int)==45)) then (!true) else (!(cond false true ((n:Int)==58))) else if (cond false true ((n:Int)==45)) then (!true) else (!(cond false true ((n:Int)==58)))) n.val=!mr n.val:=by decide +kernel
   have Y:=V ⟨c.toNat,c.toNat_lt⟩;unfold Ov;simp only[<- apply_ite K];exact Xa4 K Y
  rw[key];rw[Xaa,Xbp P,Xc3];by_cases hg:Ov s.toList[k]=true
  ·simp only[hg,Bool.not_true,Xce,Xe7,Xds];rw[AG (by omega),U _ (by omega) (by omega)];have:((k:Int)+1).toNat=k+1:=by omega
   rw[this]
  have hg:Ov s.toList[k]=false:=by simpa using hg
  simp[hg]
 rw[Wm (by simpa using J)];have:v.toNat=s.toList.length:=by omega
 rw[this,List.drop_length];exact H
def Ii {p:S->C} :∀{l:I S},l.dropWhile p=[]↔l.all p=true
 | []=>by simp
 | x::t=>by
  rw[List.dropWhile_cons,Xc3];cases h:p x
  ·simp
  simpa using Ii (l:=t)
def iv (l F:I S):Lib.trimS l F=[]↔l.all (F.contains ·)=true:=by
 unfold Lib.trimS Lib.trimLeftS;rw[Ii];constructor
 ·intro h;have J:Lib.trimRightS l F=[]:=by
   unfold Lib.trimRightS at h⊢;cases K:l.reverse.dropWhile (F.contains ·) with
   | nil=>rfl
   | cons x t=>
    exfalso;rw[K] at h;have M:F.contains x=true:=by have:=Xa0.1 h x (by simp);exact this
    have:=List.head?_dropWhile_not (λc=>F.contains c) l.reverse;rw[K] at this;simp at this;simp[this] at M
  unfold Lib.trimRightS at J;have H:l.reverse.dropWhile (F.contains ·)=[]:=by simpa using J
  rw[Ii] at H;simpa using H
 intro h;have:Lib.trimRightS l F=[]:=by
  unfold Lib.trimRightS;have H:l.reverse.dropWhile (F.contains ·)=[]:=by rw[Ii];simpa using h
  rw[H];rfl
 rw[this];rfl
def iu {s cut:T}(P:s.size<=Xb3)(H:2<=cut.size)(J:cut.size<4294967281)(K:cut.data.toList.all (λb=>decide (b.toNat<128))=true)(hg :∀c:S,cut.data.toList.contains c=Ov c) : ∃t,XP s cut=some t/\(t.toList==(Xc5 (Xcc Xej)).toList)=s.toList.all Ov:=by
 have Q:Xb3=9223372036854775807:=rfl;unfold XP;rw[Wr ⟨by omega,H,J,K⟩];refine⟨_,rfl,?_⟩;rw[X28,Xbr,SQ,SQ];have F:=iv s.data.toList cut.data.toList;have M:s.data.toList.all (cut.data.toList.contains ·)=s.toList.all Ov:=by rw[Xdl];congr 1;funext c;exact hg c
 rw[M] at F;exact F
def NE {s:T}(h:s.size<=Xb3):GP s=some (wR s):=by
 have P:Xb3=9223372036854775807:=rfl;unfold GP;generalize F:(Xc5 (Xcc (Xa8 97 (Xa8 98 _))))=cut
 obtain⟨t,H,J⟩:=iu (s:=s) (cut:=cut) h (by rw[<- F];decide) (by rw[<- F];decide) (by rw[<- F];decide +kernel) (by
  intro c;have K :∀n:Fin 256,cut.data.toList.contains (Xbb n.val)=mr n.val:=by rw[<- F];decide +kernel
  have:=K ⟨c.toNat,c.toNat_lt⟩;simp only[UInt8.ofNat_toNat] at this
  exact this)
 rw[H,AA,AC];have M:Gu (s.size:Int) 1 32=some (decide (1<=s.size)&&decide (s.size<=32)):=by
  unfold Gu;rw[AC];by_cases H:1<=s.size
  ·rw[Wr (by simp;omega)];simp[H];omega
  rw[Wm (by simp;omega)];simp[H]
 rw[M,AA,J];unfold wR;cases decide (1<=s.size)&&decide (s.size<=32)<;>simp
def K8 (n:Int):CO n=some (Bv n):=by
 unfold CO Bv;rw[AC];by_cases h:1<=n
 ·rw[Wr (by simpa using h)];simp[h]
 rw[Wm (by simpa using h)];simp[h]
def T0 (s:Set):C:=wR s.Name&&decide (s.o3.length<=64)&&decide (s.ph.length<=64)&&s.o3.all Bv&&s.ph.all wR
def LD (s:Set):Prop:=s.Name.size<=Xb3/\∀x∈s.ph,x.size<=Xb3
def bJ {s:Set}(h:LD s):QO s=some (T0 s):=by
 have H:A9 s.o3=some (s.o3.any λn=>!Bv n):=by unfold A9 BX;exact M5 λn _=>by unfold OP;rw[K8,AA]
 have J:Av s.ph=some (s.ph.any λn=>!wR n):=by unfold Av BH;exact M5 λn K=>by unfold OU;rw[NE (h.2 n K),AA]
 unfold QO;rw[AC,NE h.1,AA,H,J];simp only[AA,Xcq];unfold T0;have e1:(s.o3.any λn=>!Bv n)=!s.o3.all Bv:=by rw[List.not_all_eq_any_not]
 have e2:(s.ph.any λn=>!wR n)=!s.ph.all wR:=by rw[List.not_all_eq_any_not]
 rw[e1,e2];have F :∀n:Nat,decide ((n:Int)<=64)=decide (n<=64):=λn=>by rw[Xek];omega
 rw[F,F];cases wR s.Name<;>cases decide (s.o3.length<=64)<;>cases decide (s.ph.length<=64)<;>cases s.o3.all Bv<;>cases s.ph.all wR<;>rfl
end Go.AX.Q25
end
