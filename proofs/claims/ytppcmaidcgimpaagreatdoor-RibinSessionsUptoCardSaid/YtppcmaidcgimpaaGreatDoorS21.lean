/-
  Texts of one proof, packed.
-/
import Derived.Test.YtppcmaidcgimpaaGreatDoorS17
import Derived.Test.YtppcmaidcgimpaaGreatDoorS18
import Derived.Test.YtppcmaidcgimpaaGreatDoorS20
set_option linter.all false
set_option maxRecDepth 100000
set_option maxHeartbeats 4000000
open List renaming length_map→X6,length_append→X10,length_cons→X11,length_nil→X12,length_drop→X16,length_take→X17,mem_cons_of_mem→X18,length_replicate→X19,length_set→X20,length_singleton→X21,mem_append→X22
open Option.some renaming inj→X24
open Bool renaming and_eq_true→X26,eq_iff_iff→X27
open Nat renaming mul_le_mul_right→X30,add_mul→X31
open Option renaming bind→Xg,getD→Xbk
open Int renaming toNat→Xi,fdiv→Xay
open List renaming take→Xbg,drop→Xbh
open BitVec renaming ofInt→Xq
open Go renaming maxLen→Xb6
open Go.ByteArray renaming toList_eq→Xdc
section
namespace Go.AX.Q25
open Go Go.AX
def ZS (a:gE)(k:Int):(sV a k).length<=1:=by unfold sV;split<;>simp
def ko (l:I gF)(k:Int):(uy l k).length<=l.length:=Qq (λx=>by split<;>simp) l
structure sc (m:List (Int×List UInt8))(a:gE)(ks:List Int):Prop where
 h :∀k,BA m k=if k∈ks then G a k else none
def sc.add {m:I (Int×I S)}{a:gE}{F:I Int}(p:sc m a F)(k:Int){b:I S}(H:G a k=some b):sc (BJ m k b) a (k::F):=⟨λj=>by
 rw[Go.AX.rF,p.h];by_cases h:j=k
 ·subst h;simp[H]
 have:(j==k)=false:=by simpa using h
 rw[this];simp[h]⟩
def sc.skip {m:I (Int×I S)}{a:gE}{F:I Int}(p:sc m a F)(k:Int)(H:G a k=none):sc m a (k::F):=⟨λj=>by
 rw[p.h];by_cases h:j=k
 ·subst h;simp[H]
 simp[h]⟩
def mZ {J ρ:Type}{w:J->I S}{k:Int}{N:Nat}{K:I (Int×I S)×I S->O ρ}{body:(I (Int×I S)×I S->O ρ)->J->Nat->I (Int×I S)×I S->O ρ}{l:I J}{m:I (Int×I S)} {R:O ρ} (U:(l.flatMap w).length<=N) (V :∀next x i m b,x∈l->b.length+(w x).length<=N->body next x i (m,b)=next (BJ m k (b++w x),b++w x)) (Y :∀F H,(∀j,BA F j=if l≠[]/\j=k then some (l.flatMap w) else BA m j)->K (F,H)=R):AH K body l 0 (m,[])=R:=by
 have key :∀(t:I J) (i:Nat) (m:I (Int×I S)) (b:I S),(∀x∈t,x∈l)->b.length+(t.flatMap w).length<=N->∃F H,AH K body t i (m,b)=K (F,H)/\∀j,BA F j=if t≠[]/\j=k then some (b++t.flatMap w) else BA m j:=by
  intro t;induction t with
  | nil=>intro i m b _ _;exact⟨m,b,rfl,λj=>by simp⟩
  | cons x t Z=>
   intro i m b M hl;rw[Xat,X10] at hl;obtain⟨F,H,e,h⟩:=Z (i+1) (BJ m k (b++w x)) (b++w x) (λy hy=>M y (X18 _ hy)) (by rw[X10];omega);refine⟨F,H,?_,λj=>?_⟩
   ·show body (λs=>AH K body t (i+1) s) x i (m,b)=_;rw[V _ x i m b (M x (by simp)) (by omega)];exact e
   rw[h j,Go.AX.rF];by_cases P:j=k
   ·subst P;by_cases Q:t=[]
    ·subst Q;simp
    simp[Q,Xat]
   simp[P]
 obtain⟨F,H,e,h⟩:=key l 0 m [] (λ_ h=>h) (by simpa using U);rw[e];exact Y F H λj=>by rw[h j,Xba]
def lJ {a:gE}{m:I (Int×I S)}{ρ:Type}{K:I gF->O ρ}(hO:a.gS.length<=1000000)(hd :∀x∈a.gS,x.Data.length<=1000000)(hg :∀k b,G a k=some b->b.length<=1000000) (hm :∀k,BA m k=G a k) : AB (τ:=(I gF)) (λa8=>A3 (σ:=Int×(I gF)) (λJ p=>match p with
    | (F,v70)=>if (decide (F<256))=true then
     AB (τ:=(I gF)) (λaa=>Xg (some (Xbk (BA m F) [])) λZ=>Xg (some (Option.isSome (BA m F))) λab=>AB (τ:=(I gF)) (λH=>if ab=true then Xg (BQ F) λQ=>Xg (gH (α:=S) 1 [] Z) λ_=>Xg (gH (α:=gF) 40 v70 ([(⟨Q,F,Z⟩:gF)]:I gF)) λU=>H U else H v70 ) λae=>AB (τ:=(I gF)) (λaf=>AH (σ:=(I gF)) (λM=>af M ) (λP (V:gF) i82 M=>AB (τ:=(I gF)) (λa1=>if (V.hB==F)=true then Xg (gH (α:=S) 1 [] V.Data) λ_=>Xg (gH (α:=gF) 40 M ([{ V with hB:=F }]:I gF)) λag=>a1 ag else a1 M ) λah=>P ah ) a.gS 0 ae ) λai=>aa ai
     ) λaj=>
     J ((AQ (F+1)),aj)
    else
     a8 v70
   ) qb (0,[])
  ) K=K (tw a):=by
 rw[AC];refine (EL (λs:Int×I gF=>∃k:Nat,s.1=k/\k<=256/\s.2.length<=k*1000001) (λs=>(256-s.1).toNat) (λs=>K (s.2++(List.range' s.1.toNat (256-s.1.toNat)).flatMap λ(k:Nat)=>sV a k++uy a.gS k)) ?_ qb (0,[]) ⟨0,rfl,by omega,by simp⟩ (CB (by simp only;omega))).trans rfl;rintro next ⟨kk,v⟩ ⟨k,rfl,al,hv⟩ hn
 dsimp only at hv⊢;by_cases hk:k<256
 ·rw[Xl (by simp only[Xh];omega),AC,AA,AA,hm];have he:=ZS a k;have a6 :∀q:I gF->O ρ,AB (τ:=(I gF)) (λH=>if (G a k).isSome=true then Xg (BQ k) λQ=>Xg (gH (α:=S) 1 [] ((G a k).getD [])) λ_=>Xg (gH (α:=gF) 40 v ([(⟨Q,k,((G a k).getD [])⟩:gF)]:I gF)) λU=>H U else H v ) q=q (v++sV a k):=by
   intro q;rw[AC];unfold sV;cases hG:G a k with
   | none=>rw[Xk (by decide),Xb0]
   | some b=>have:=hg k b hG;rw[Xl (show (some b).isSome=true from rfl),KX,AA,Xaw,AI (by decide) (by simp;omega),AA,AI (by decide) (by simp;omega),AA]
  rw[a6,AC];have a7:=ko a.gS k;refine (fb (g:=λx:gF=>if (x.hB==(k:Int))=true then [x] else []) (N:=(k+1)*1000001) (by unfold uy at a7;rw[X10];omega) λak x i w hx hw=>?_).trans ?_
  ·rw[AC];by_cases Y:(x.hB==(k:Int))=true
   ·rw[Xl Y] at hw;have:=hd x hx;simp only[X21] at hw;rw[Xl Y,Xl Y,AI (by decide) (by simp;omega),AA,AI (by decide) (by simp;omega),AA];have e:x.hB=(k:Int):=by simpa using Y
    rw[<- e]
   rw[Xk Y,Xk Y,Xb0]
  show next (AQ ((k:Int)+1),v++sV a k++uy a.gS k)=_
  rw[AM (by omega),hn _ ⟨k+1,by simp,by omega,by simp only[X10];omega⟩ (by simp only;omega)];have e1:((k:Int)+1).toNat=k+1:=by omega
  have e2:256-k=(256-(k+1))+1:=by omega
  simp only[e1,Xa3];rw[e2,List.range'_succ,Xat,Xav,Xav,Xav]
 rw[Xk (by simp only[Xh];omega)];have:256-(k:Int).toNat=0:=by omega
 rw[this];simp
structure VA (a:gE):Prop where
 O:EO a.gS=true
 o:-1<=a.gT/\a.gT<=2
 p:Ez a.Path=true
 n:a.Next.ok=true
 m:-1<=a.qW/\a.qW<=4294967295
 r:-1<=a.qd/\a.qd<=4294967295
 t:a.qz=-1\/(1<=a.qz/\a.qz<=4294967295)
 c:H4 a.cW=true
 l:H9 a.ls=true
 e:a.gS.length<=8
def gB {a:gE}:GE a=true↔VA a:=by
 unfold GE Dh;simp only[X26,Xcu,Xh];constructor
 ·rintro⟨H,J,K,M,P,Q,U,V,Y,F⟩;exact⟨H,J,K,M,P,Q,U,V,Y,F⟩
 rintro⟨H,J,K,M,P,Q,U,V,Y,F⟩;exact⟨H,J,K,M,P,Q,U,V,Y,F⟩
def Kt {p:I oA}(h:Ez p=true):p.length<=rZ p/\rZ p<=64:=by
 unfold Ez at h;simp only[X26,Xm,Xh] at h;refine⟨?_,h.2⟩;have F:=h.1.1;clear h;induction p with
 | nil=>exact Xa2 _
 | cons s t H=>rw[E5,X11];have M:=H λx J=>F x (X18 _ J);have K:=F s (by simp);simp only[OQ,X26,Xh] at K;omega
def VA.sm {a:gE}(v:VA a):tf a:=by obtain⟨H,J⟩:=Kt v.p;have K:=(Je.1 v.c).2.2;have M:=(JZ.1 v.l).2.2;have P:=v.e;exact⟨by omega,by omega,by omega,by omega,by omega,λu F=>by have:=(JP v.O F).2.2.2.2;omega⟩
def kp {a:gE}(v:VA a){k:Int}{b:I S}(h:G a k=some b):b.length<=768:=by
 obtain⟨F,H⟩:=Kt v.p;have J:=(Je.1 v.c).2.2;have K:=(JZ.1 v.l).2.2;unfold G at h;split at h
 ·split at h
  ·obtain rfl:=X24 h;simp
  cases h
 split at h
 ·split at h
  ·obtain rfl:=X24 h;rw[UI];omega
  cases h
 split at h
 ·split at h
  ·obtain rfl:=X24 h;simp[b4]
  cases h
 split at h
 ·split at h
  ·obtain rfl:=X24 h;rw[VF];omega
  cases h
 split at h
 ·split at h
  ·obtain rfl:=X24 h;rw[VF];omega
  cases h
 split at h
 ·split at h
  ·obtain rfl:=X24 h;rw[Ul];omega
  cases h
 split at h
 ·split at h
  ·obtain rfl:=X24 h;rw[UH];omega
  cases h
 split at h
 ·split at h
  ·obtain rfl:=X24 h;rw[VF];omega
  cases h
 cases h
def bE {a:gE}(v:VA a):Ft a=some (tw a,0):=by
 have hs:=Kt v.p;have hc:=(Je.1 v.c).2.2;have hl:=(JZ.1 v.l).2.2;unfold Ft;rw[Ld v.sm,AA,gB.2 v,Xk (by decide)];have p0:sc [] a []:=⟨λk=>by simp[BA]⟩;rw[JL];have p1:sc (if decide (a.gT≥0)=true then BJ ([]:I (Int×I S)) (1:Int) [Az a.gT] else []) a [1]:=by
  by_cases h:a.gT≥0
  ·rw[Xl (by simpa using h)];exact p0.add 1 (by unfold G;rw[Xl rfl,Xl (by omega)])
  rw[Xk (by simpa using h)];exact p0.skip 1 (by unfold G;rw[Xl rfl,Xk (by have:=v.o;omega)])
 generalize (if decide (a.gT≥0)=true then BJ ([]:I (Int×I S)) (1:Int) [Az a.gT] else [])=m1 at p1;rw[JL];have eb:(if decide (a.gT≥0)=true then true else (cond false true (decide ((a.Path.length:Int)>0))))=decide (a.gT≠-1\/a.Path≠[]):=by
  have:=v.o;have e:(a.Path≠[])↔0<a.Path.length:=List.length_pos_iff.symm;by_cases h:a.gT≥0
  ·rw[Xl (by simpa using h),Xn (.inl (by omega))]
  rw[Xk (by simpa using h),Xdf];have h1:a.gT=-1:=by omega
  have e2:(a.gT≠-1\/a.Path≠[])↔0<a.Path.length:=by rw[e];omega
  rw[X27,Xh,Xh,e2];omega
 rw[eb,AC];have K :∃V,sc V a [2,1]/\∀(F:Type) (q:I (Int×I S)->Option F),(if decide (a.gT≠-1\/a.Path≠[])=true then q (BJ m1 2 (UF a.Path)) else q m1)=q V:=by
  by_cases h:a.gT≠-1\/a.Path≠[]
  ·exact⟨_,p1.add 2 (by unfold G;rw[Xk (by decide),Xl rfl,Xl h]),λF q=>by rw[Xl (by simpa using h)]⟩
  exact⟨_,p1.skip 2 (by unfold G;rw[Xk (by decide),Xl rfl,Xk h]),λF q=>by rw[Xk (by simpa using h)]⟩
 rw[gQ (by omega)];obtain⟨V,p2,e2⟩:=K;refine (e2 _ (wY a)).trans ?_;unfold wY;have en :∀{F:Type} (q:C->Option F),AB (τ:=C) (λY=>if (!(Addr.qK a.Next (⟨false,(0:UInt64),(0:UInt64)⟩:Addr)))=true then Y (cond true (!a.Next.V6) false) else Y false) q=q (Ln a):=by intro F q;rw[AC];unfold Ln;cases a.Next.V6<;>cases Addr.qK a.Next ⟨false,0,0⟩<;>rfl
 refine (en _).trans ?_;rw[AC];have M :∃Z,sc Z a [3,2,1]/\∀(F:Type) (q:I (Int×I S)->Option F),(if Ln a=true then Xg (BV a.Next) λa6=>q (BJ V 3 a6) else q V)=q Z:=by
  by_cases h:Ln a=true
  ·have h6:a.Next.V6=false:=by
    unfold Ln at h;cases h6:a.Next.V6
    ·rfl
    rw[h6] at h;simp at h
   exact⟨_,p2.add 3 (by unfold G;rw[Xk (by decide),Xk (by decide),Xl rfl,Xl h]),λF q=>by rw[Xl h,cM v.n h6,AA]⟩
  exact⟨_,p2.skip 3 (by unfold G;rw[Xk (by decide),Xk (by decide),Xl rfl,Xk h]),λF q=>by rw[Xk h]⟩
 obtain⟨Z,p3,e3⟩:=M;refine (e3 _ (wT a)).trans ?_;unfold wT;rw[AC];have P :∃m4,sc m4 a [4,3,2,1]/\∀(F:Type) (q:I (Int×I S)->Option F),(if decide (a.qW≥0)=true then Xg (AO a.qW 4) λH=>q (BJ Z 4 H) else q Z)=q m4:=by
  have:=v.m;by_cases h:a.qW≥0
  ·exact⟨_,p3.add 4 (by unfold G;rw[Xk (by decide),Xk (by decide),Xk (by decide),Xl rfl,Xl (by omega)]),λF q=>by rw[Xl (by simpa using h),Qn,AA]⟩
  exact⟨_,p3.skip 4 (by unfold G;rw[Xk (by decide),Xk (by decide),Xk (by decide),Xl rfl,Xk (by omega)]),λF q=>by rw[Xk (by simpa using h)]⟩
 obtain⟨m4,p4,e4⟩:=P;refine (e4 _ (x0 a)).trans ?_;unfold x0;rw[AC];have Q :∃m5,sc m5 a [5,4,3,2,1]/\∀(F:Type) (q:I (Int×I S)->Option F),(if decide (a.qd≥0)=true then Xg (AO a.qd 4) λH=>q (BJ m4 5 H) else q m4)=q m5:=by
  have:=v.r;by_cases h:a.qd≥0
  ·exact⟨_,p4.add 5 (by unfold G;rw[Xk (by decide),Xk (by decide),Xk (by decide),Xk (by decide),Xl rfl,Xl (by omega)]),λF q=>by rw[Xl (by simpa using h),Qn,AA]⟩
  exact⟨_,p4.skip 5 (by unfold G;rw[Xk (by decide),Xk (by decide),Xk (by decide),Xk (by decide),Xl rfl,Xk (by omega)]),λF q=>by rw[Xk (by simpa using h)]⟩
 obtain⟨m5,p5,e5⟩:=Q;refine (e5 _ (wM a)).trans ?_;unfold wM;have a7:rv ((BA m5 8).isNone=true)=some ():=by
  have hn:BA m5 8=none:=by rw[p5.h,Xk (by decide)]
  unfold rv;rw[hn];rfl
 rw[AC,a7,AA]
 refine mZ (w:=Xb) (k:=8) (N:=1000000) (l:=a.cW) (by rw[Ul];omega) (λnext x i m b _ hb=>by
  rw[UP] at hb;dsimp only;rw[lD,AA,AI (by decide) (by simp[w2];omega),AA,lD,AA,AI (by decide) (by simp[w2];omega),AA,Xav]
  rfl) λm8 b8 h8=>?_
 have p8:sc m8 a [8,5,4,3,2,1]:=⟨λj=>by
  rw[h8 j,p5.h];by_cases hj:j=8
  ·subst hj;have:G a 8=if a.cW≠[] then some (a.cW.flatMap Xb) else none:=rfl;simp[this]
  simp[hj]⟩
 dsimp only;have a1:rv ((BA m8 32).isNone=true)=some ():=by
  have hn:BA m8 32=none:=by rw[p8.h,Xk (by decide)]
  unfold rv;rw[hn];rfl
 rw[AC,a1,AA]
 refine mZ (w:=SE) (k:=32) (N:=1000000) (l:=a.ls) (by rw[UH];omega) (λnext x i m b _ hb=>by
  rw[Sm] at hb;dsimp only;rw[Qn,AA,AI (by decide) (by simp[w4];omega),AA,Qn,AA,AI (by decide) (by simp[w4];omega),AA,Qn,AA,AI (by decide) (by simp[w4];omega),AA,Xav,Xav]
  rfl) λm9 b9 h9=>?_
 have p9:sc m9 a [32,8,5,4,3,2,1]:=⟨λj=>by
  rw[h9 j,p8.h];by_cases hj:j=32
  ·subst hj;have:G a 32=if a.ls≠[] then some (a.ls.flatMap SE) else none:=rfl;simp[this]
  simp[hj]⟩
 dsimp only;rw[AC];have J :∃U,sc U a [35,32,8,5,4,3,2,1]/\∀(F:Type) (q:I (Int×I S)->Option F),(if decide (a.qz≥0)=true then Xg (AO a.qz 4) λH=>q (BJ m9 35 H) else q m9)=q U:=by
  have:=v.t;have hG:G a 35=if a.qz≠-1 then some (w4 a.qz) else none:=rfl;by_cases h:a.qz≥0
  ·exact⟨_,p9.add 35 (by rw[hG,Xl (by omega)]),λF q=>by rw[Xl (by simpa using h),Qn,AA]⟩
  exact⟨_,p9.skip 35 (by rw[hG,Xk (by omega)]),λF q=>by rw[Xk (by simpa using h)]⟩
 obtain⟨U,a8,aa⟩:=J;refine (aa _ (wW a)).trans ?_;unfold wW;refine (lJ (a:=a) (by have:=v.e;omega) (λx hx=>by have:=(JP v.O hx).2.2.2.2;omega) (λk b h=>by have:=kp v h;omega) λk=>?_).trans rfl;rw[a8.h];split
 ·rfl
 rename_i hk;simp only[Xp,Xby,Xdv,not_or] at hk;unfold G;rw[Xk hk.2.2.2.2.2.2.2,Xk hk.2.2.2.2.2.2.1,Xk hk.2.2.2.2.2.1,Xk hk.2.2.2.2.1,Xk hk.2.2.2.1,Xk hk.2.2.1,Xk hk.2.1,Xk hk.1]
def aX (a b:gF):Bt a b=some (CS (M7 a) (M7 b)):=iP a b
def Q0:I Int:=[1,2,3,4,5,8,32,35]
def Vh (a:gE):I gF:=Q0.flatMap (sV a)++a.gS
def dB {a:gE}{k:Int}{y:gF}(h:y∈sV a k):k∈Q0:=by
 obtain⟨b,F,_⟩:=L1.1 h;rcases Nu k with ⟨e,_⟩|⟨e,_⟩|⟨e,_⟩|⟨e,_⟩|⟨e,_⟩|⟨e,_⟩|⟨e,_⟩|⟨e,_⟩|e;iterate 8 (subst e;decide)
 rw[Uw e.2.2.2.2.2.2.2.2] at F;cases F
def fL {a:gE}{y:gF}:y∈Vh a↔(∃k,y∈sV a k)\/y∈a.gS:=by unfold Vh;rw[X22,Xd0];exact⟨λh=>h.imp_left λ⟨k,_,h⟩=>⟨k,h⟩,λh=>h.imp_left λ⟨k,h⟩=>⟨k,dB h,h⟩⟩
def bC {a:gE}(K:EO a.gS=true):(Vh a).Pairwise λx y=>M7 x≠M7 y:=by
 unfold Vh;have H :∀{x y:gF},x.hB≠y.hB->M7 x≠M7 y:=λh e=>h (by simpa[M7] using e);refine Xb4.2 ⟨?_,(OL K).imp λ{x y} h=>H (by simp only[sx,Xh] at h;omega),λx F y J=>H λe=>?_⟩
 ·rw[List.pairwise_flatMap];refine⟨λk _=>?_,?_⟩
  ·unfold sV;split
   ·exact List.pairwise_singleton _ _
   exact .nil
  have:Q0.Pairwise (·≠·):=by decide
  exact this.imp λ{k j} h x F y J=>H (by rw[N6 F,N6 J];exact h)
 obtain⟨k,_,F⟩:=Xd0.1 F;obtain⟨b,M,_⟩:=L1.1 F;have:=fE (JP K J).1;rw[<- e,N6 F] at this;rw[Uw this] at M;cases M
def cY {a:gE}(F:EO a.gS=true)(M:(Vh a).length<=1000000):GM Bt (Vh a)=some (tw a):=by
 obtain⟨r,J,H,K⟩:=ke Qg aX (l:=Vh a) (by omega);rw[J];congr 1;refine kB Qg (Z9 Qg K ?_) (bU F) λx=>?_
 ·exact (H.pairwise_iff λh e=>h e.symm).2 (bC F)
 rw[H.mem_iff,fL,eo F]
def Vy (a:gE):(Q0.flatMap (sV a)).length<=8:=Qq (ZS a) Q0
def lc {a:gE}(v:VA a):(tw a).length<=16:=by have h:=Ls (cY v.O (by unfold Vh;rw[X10];have:=Vy a;have:=v.e;omega));rw[h];unfold Vh;rw[X10];have:=Vy a;have:=v.e;omega
def jZ {a:gE}(v:VA a){x:gF}(h:x∈tw a):x.Data.length<=768:=by
 rcases (eo v.O).1 h with ⟨k,h⟩|h
 ·obtain⟨b,F,rfl⟩:=L1.1 h;exact kp v F
 have:=(JP v.O h).2.2.2.2;omega
def vR (x:gF):C:=decide (0<=x.Flags)&&(decide (x.Flags<=255)&&(decide (0<=x.hB)&&(decide (x.hB<=255)&&decide ((x.Data.length:Int)<=65535))))
def uM (x:gF):I S:=if decide ((x.Data.length:Int)>255)=true then ([(Az ((Xq 8 ((Az ((Xq 8 ((Az x.Flags).toNat:Int) &&& Xq 8 224).toNat:Int)).toNat:Int) ||| Xq 8 16).toNat:Int)),(Az x.hB),(Az (Xay (x.Data.length:Int) (2^(min (Xi 8) 64)))),(Az (x.Data.length:Int))]:I S)
 else ([(Az ((Xq 8 ((Az x.Flags).toNat:Int) &&& Xq 8 224).toNat:Int)),(Az x.hB),(Az (x.Data.length:Int))]:I S)
def eE (x:gF):I S:=uM x++x.Data
def Pe (l:I gF):I S:=l.flatMap eE
def Nz (l:I gF):I S×Int:=if l.all vR=true then (if (Pe l).length>2048 then ([],3) else (Pe l,0)) else ([],1)
def eL (x:gF):(eE x).length<=x.Data.length+4:=by unfold eE uM;rw[X10];split<;>simp<;>omega
def UJ {N:Nat} :∀{l:I gF},(∀x∈l,x.Data.length<=N)->(Pe l).length<=l.length*(N+4)
 | [],_=>by simp[Pe]
 | x::t,h=>by have F:=UJ (l:=t) λy H=>h y (X18 _ H);have J:=eL x;have K:=h x (by simp);unfold Pe at F⊢;rw[Xat,X10,X11,X31];omega
def mW {x:gF}{v:I S}{ρ:Type}{K:I S->O ρ}(M:v.length+4<=1000000000) : AB (τ:=(I S)) (λF=>if (decide ((x.Data.length:Int)>255))=true then Xg (gH (α:=S) 1 v ([(Az ((Xq 8 ((Az ((Xq 8 ((Az x.Flags).toNat:Int) &&& Xq 8 224).toNat:Int)).toNat:Int) ||| Xq 8 16).toNat:Int)),(Az x.hB),(Az (Xay (x.Data.length:Int) (2^(min (Xi 8) 64)))),(Az (x.Data.length:Int))]:I S)) λH=>F H else Xg (gH (α:=S) 1 v ([(Az ((Xq 8 ((Az x.Flags).toNat:Int) &&& Xq 8 224).toNat:Int)),(Az x.hB),(Az (x.Data.length:Int))]:I S)) λJ=>F J ) K=K (v++uM x):=by
 rw[AC];unfold uM;split
 ·rw[AI (by decide) (by simp;omega),AA]
 rw[AI (by decide) (by simp;omega),AA]
def dx {l:I gF}(M:l.length<=1000)(P :∀x∈l,x.Data.length<=100000):H5 l=some (Nz l):=by
 have H:=UJ P;have F:l.length*(100000+4)<=1000*100004:=X30 _ M;unfold H5 Nz;rw[AC];refine (QL (g:=vR) (r0:=some ([],1)) λnext x i _=>?_).trans ?_
 ·have e:vR x=!(decide (x.Flags<0) || (decide (x.Flags>255) || (decide (x.hB<0) || (decide (x.hB>255) || decide ((x.Data.length:Int)>65535))))):=by unfold vR;rw[X27];simp only[X26,Xbj,Bool.or_eq_false_iff,Xh,Xar];omega
  rw[AC,e];cases decide (x.Flags < 0)<;>cases decide (x.Flags>255)<;>cases decide (x.hB < 0)<;>cases decide (x.hB>255)<;>cases decide ((x.Data.length:Int)>65535)<;>rfl
 cases Q:l.all vR
 ·rfl
 rw[Xcm,Xl rfl,AC];refine (fb (g:=eE) (N:=999999990) (by show [].length+(Pe l).length<=_;simp only[X12];omega) λnext x i v U J=>?_).trans ?_
 ·unfold eE at J⊢;rw[X10] at J;have V:(uM x).length<=4/\3<=(uM x).length:=by unfold uM;split<;>simp
  rw[mW (by omega),AI (by decide) (by rw[X10];omega),AA,Xav]
 show (if decide (((Pe l).length:Int)>2048)=true then _ else _)=_;by_cases K:(Pe l).length>2048
 ·rw[Xl (by simp only[Xh];omega),Xl K]
 rw[Xk (by simp only[Xh];omega),Xk K];rfl
def bG {l:I gF}:(Nz l).1.length<=2048:=by
 unfold Nz;split
 ·split
  ·simp
  dsimp only;omega
 simp
structure VB (a:gE):Prop where
 o:-1<=a.gT/\a.gT<=2
 p:Ez a.Path=true
 n:a.Next.ok=true
 m:-1<=a.qW/\a.qW<=4294967295
 r:-1<=a.qd/\a.qd<=4294967295
 t:a.qz=-1\/(1<=a.qz/\a.qz<=4294967295)
 c:H4 a.cW=true
 l:H9 a.ls=true
def VB.empty:VB eA:=⟨by decide,rfl,by decide,by decide,by decide,.inl rfl,rfl,rfl⟩
def tW (a:Addr):I S:=(BV a).getD []
def U5 {a:Addr}(h:a.ok=true):BV a=some (tW a)/\(tW a).length=a.L:=by obtain⟨r,F,H,_⟩:=LS h;unfold tW;rw[F];exact⟨rfl,H⟩
def Wz (p:fI):I S:=Az p.qo::(tW p.Addr).take ((p.qo.toNat+7)/8)
def D9 (six:C)(l:I fI):I S:=l.flatMap λp=>if (p.Addr.V6==six)=true then Wz p else []
def wx (a:Addr):a.w=8*a.L/\a.L<=16:=by unfold Addr.w Addr.L;split<;>exact⟨rfl,by omega⟩
def UN {p:fI}(h:Ds p):(Wz p).length<=17:=by obtain⟨F,H,J,_⟩:=h;obtain⟨_,e2⟩:=U5 F;have:=(wx p.Addr).2;unfold Wz;simp only[X11,X17];omega
def Px (six:C)(p:fI)(t:I fI):D9 six (p::t)=(if (p.Addr.V6==six)=true then Wz p else [])++D9 six t:=Xat
def IH {six:C} :∀{l:I fI},(∀p∈l,Ds p)->(D9 six l).length<=17*l.length
 | [],_=>by simp[D9]
 | p::t,h=>by
  have H:=UN (h p (by simp));have J:=IH (six:=six) (l:=t) λq F=>h q (X18 _ F);rw[Px,X10,X11];split
  ·omega
  simp only[X12];omega
def Lm {l:I fI}(hl:l.length<=100000)(hg :∀p∈l,Ds p)(six:C):D2 l six=some (D9 six l):=by
 unfold D2;rw[AC];refine (Yt (λ(t:I fI) _ (s:I S)=>s.length+17*t.length<=10000000/\∀p∈t,Ds p) (λt _ s=>some (s++D9 six t)) ?_ ?_ l 0 [] ⟨by simp only[X12];omega,hg⟩).trans ?_
 ·intro i s _;show some s=some (s++[]);rw[Xb0]
 ·rintro next p t i s ⟨M,H⟩ J
  simp only[X11] at M;have hp:=H p (by simp);have P:=UN hp;have K :∀q∈t,Ds q:=λq Q=>H q (X18 _ Q);obtain⟨U,k2,k3,_⟩:=hp;obtain⟨e1,e2⟩:=U5 U;obtain⟨w1,w2⟩:=wx p.Addr;rw[AC,Px];by_cases F:(p.Addr.V6==six)=true
  ·obtain⟨k,V⟩ :∃k:Nat,p.qo=k:=⟨p.qo.toNat,by omega⟩;have e3:AQ (Int.tdiv (AQ (p.qo+7)) 8)=(((p.qo.toNat+7)/8:Nat):Int):=by rw[V,Xa3,AM (x:=(k:Int)+7) (by omega),Int.tdiv_eq_ediv_of_nonneg (by omega),AM (by omega)];omega
   have e4:(p.qo.toNat+7)/8<=p.Addr.L:=by omega
   have Y:rv (0<=(0:Int)/\(0:Int)<=(((p.qo.toNat+7)/8:Nat):Int)/\(((p.qo.toNat+7)/8:Nat):Int)<=((tW p.Addr).length:Int))=some ():=Xl (by rw[e2];omega);have Z:Xbg (Xi (((p.qo.toNat+7)/8:Nat):Int)-Xi 0) (Xbh (Xi 0) (tW p.Addr))=(tW p.Addr).take ((p.qo.toNat+7)/8):=by rw[Xa3];rfl
   rw[Xl F,Xl F,AI (by decide) (by simp only[X21];omega),AA,e1,AA,e3,Y,AA,Z, AI (by decide) (by simp only[X10,X21,X17];omega),AA];dsimp only
   rw[J _ ⟨by
    simp only[X10,X21,X17]
    omega,K⟩]
   unfold Wz;simp only[Xav,List.singleton_append,List.cons_append,Xba]
  rw[Xk F,Xk F];dsimp only;rw[J _ ⟨by omega,K⟩,Xba]
 rw[Xba]
def Yw {l:I gF}(U:l.length<=1000000)(x:gF):FW l x=some (NK sx l x):=by unfold FW;have P:=j0 (p:=(sx · x)) (l:=l) (by omega) (g:=λy k=>k (cond true (decide (y.hB<x.hB)) false)) (λy _ k=>rfl) (K:=λJ=>Xg (part l 0 J) λM=>Xg (gH (α:=gF) 40 [] M) λ_=>Xg (gH (α:=gF) 40 M ([x]:I gF)) λQ=>Xg (part l J (l.length:Int)) λF=>Xg (gH (α:=gF) 40 Q F) λH=>some H);refine Eq.trans P ?_;exact eu (K:=some) (b:=40) (lt:=sx) (l:=l) (x:=x) (by decide) (by omega)
def ri (u:qC):I gF:=if 0<u.gO.length then tw u.gE else []
def VV (u:qC):I gF:=if 0<(D9 true u.gO).length then NK sx (ri u) ⟨128,14,[0,2,1,16]++tW u.gE.Next++[0]++D9 true u.gO⟩ else ri u
def SD (u:qC):I gF:=if 0<(D9 true u.mu).length then NK sx (VV u) ⟨128,15,[0,2,1]++D9 true u.mu⟩ else VV u
def two (n:Nat):I S:=[Az (Xay (n:Int) (2^(min (Xi 8) 64))),Az (n:Int)]
def nT (u:qC)(a:I S):I S:=two (D9 false u.mu).length++D9 false u.mu++two a.length++a++D9 false u.gO
def HJ (u:qC):I S×Int:=if (Nz (SD u)).2≠0 then ([],(Nz (SD u)).2) else (nT u (Nz (SD u)).1,0)
structure tU (u:qC):Prop where
 w:u.mu.length<=1000
 n:u.gO.length<=1000
 gw :∀p∈u.mu,Ds p
 ga :∀p∈u.gO,Ds p
 a:0<u.gO.length->VA u.gE/\(tw u.gE).length<=16/\∀x∈tw u.gE,x.Data.length<=768
def Ub {u:qC}(g:tU u):Fe u=some (HJ u):=by
 have a1:=IH (six:=true) g.gw;have a6:=IH (six:=false) g.gw;have a7:=IH (six:=true) g.ga;have a8:=IH (six:=false) g.ga;have hw:=g.w;have hn:=g.n;have Z:(ri u).length<=16/\∀x∈ri u,x.Data.length<=768:=by
  unfold ri;split
  ·exact (g.a ‹_›).2
  simp
 unfold Fe;have e0 :∀(K:I gF->O (I S×Int)),AB (τ:=(I gF)) (λk1=>if (decide ((u.gO.length:Int)>0)) then Xg (Ft u.gE) λ(v2,v3)=>if (v3 !=0) then some ([],v3) else k1 v2 else k1 []) K=K (ri u):=by
  intro K;rw[AC];unfold ri;by_cases h:0<u.gO.length
  ·rw[Xl (by simp only[Xh];omega),Xl h,bE (g.a h).1,AA];exact Xk (by simp)
  rw[Xk (by simp only[Xh];omega),Xk h]
 rw[e0];rw[Lm (by omega) g.ga,AA];have hL:(tW u.gE.Next).length<=16\/u.gO.length=0:=by
  rcases Nat.eq_zero_or_pos u.gO.length with h|h
  ·exact .inr h
  have:=(U5 (g.a h).1.n).2;have:=(wx u.gE.Next).2;exact .inl (by omega)
 have e1 :∀{H:Type} (K:I gF->O H),AB (τ:=(I gF)) (λk6=>if (decide (((D9 true u.gO).length:Int)>0)) then Xg (BV u.gE.Next) λv7=>Xg (gH (α:=S) 1 ([(0:S),(2:S),(1:S),(16:S)]:I S) v7) λv8=>Xg (gH (α:=S) 1 v8 ([(0:S)]:I S)) λv9=>Xg (gH (α:=S) 1 v9 (D9 true u.gO)) λP=>Xg (FW (ri u) (⟨128,14,P⟩:gF)) λQ=>k6 Q else k6 (ri u)) K=K (VV u):=by
  intro H K;rw[AC];unfold VV;by_cases h:0<(D9 true u.gO).length
  ·have J:0<u.gO.length:=by omega
   have hl:(tW u.gE.Next).length<=16:=hL.resolve_right (by omega);rw[Xl (by simp only[Xh];omega),Xl h,(U5 (g.a J).1.n).1,AA,AI (by decide) (by simp only[X11,X12];omega),AA, AI (by decide) (by simp only[X10,X11,X12];omega),AA,AI (by decide) (by simp only[X10,X11,X12];omega),AA,Yw (by omega),AA]
  rw[Xk (by simp only[Xh];omega),Xk h]
 rw[e1,Lm (by omega) g.gw,AA];have h1:(VV u).length<=17/\∀x∈VV u,x.Data.length<=20000:=by
  unfold VV;split
  ·refine⟨by rw[K8];omega,λx F=>?_⟩;rcases KT.1 F with F|rfl
   ·have:=Z.2 x F;omega
   have hl:(tW u.gE.Next).length<=16:=hL.resolve_right (by omega);simp only[X10,X11,X12];omega
  exact⟨by omega,λx F=>by have:=Z.2 x F;omega⟩
 have e2 :∀{H:Type} (K:I gF->O H),AB (τ:=(I gF)) (λM=>if (decide (((D9 true u.mu).length:Int)>0)) then Xg (gH (α:=S) 1 ([(0:S),(2:S),(1:S)]:I S) (D9 true u.mu)) λU=>Xg (FW (VV u) (⟨128,15,U⟩:gF)) λV=>M V else M (VV u)) K=K (SD u):=by
  intro H K;rw[AC];unfold SD;by_cases h:0<(D9 true u.mu).length
  ·rw[Xl (by simp only[Xh];omega),Xl h,AI (by decide) (by simp only[X11,X12];omega),AA,Yw (by omega),AA]
  rw[Xk (by simp only[Xh];omega),Xk h]
 rw[e2];have h2:(SD u).length<=18/\∀x∈SD u,x.Data.length<=20000:=by
  unfold SD;split
  ·refine⟨by rw[K8];omega,λx F=>?_⟩;rcases KT.1 F with F|rfl
   ·exact h1.2 x F
   simp only[X10,X11,X12];omega
  exact⟨by omega,h1.2⟩
 rw[dx (by omega) (λx F=>by have:=h2.2 x F;omega),AA];have hj:=bG (l:=SD u);unfold HJ;dsimp only;by_cases he:(Nz (SD u)).2=0
 ·have Y:¬ (Nz (SD u)).2≠0:=λq=>q he;rw[Xk (by rw[he];decide),Xk Y,Lm (by omega) g.gw,AA,AI (by decide) (by simp only[X11,X12];omega),AA, AI (by decide) (by simp only[X10,X11,X12];omega),AA,AI (by decide) (by simp only[X10,X11,X12];omega),AA, Lm (by omega) g.ga,AA,AI (by decide) (by simp only[X10,X11,X12];omega),AA];rfl
 rw[Xl (by simpa using he),Xl he]
def filter_all {l:I fI}{b:C}(h :∀p∈l,p.Addr.V6=b):(l.filter λp=>p.Addr.V6==false)++(l.filter λp=>p.Addr.V6==true)=l:=by
 cases b with
 | false=>rw[Xcp.2 (λp hp=>by rw[h p hp];rfl),List.filter_eq_nil_iff.2 (λp hp=>by rw[h p hp];decide),Xb0]
 | true=>rw[List.filter_eq_nil_iff.2 (λp hp=>by rw[h p hp];decide),Xcp.2 (λp hp=>by rw[h p hp];rfl),Xba]
def KH (p:fI):C:=(An p).getD false
def TF (p:fI):An p=some (KH p)/\(KH p=true↔Ds p):=by obtain⟨b,F,H⟩:=F2 p;unfold KH;rw[F];exact⟨rfl,H⟩
def w8 (a:gE):C:=(EZ a eA).getD false
theorem lv (a:gE):EZ a eA=some (w8 a):=by obtain⟨b,h⟩:=(inferInstance:Tt (EZ a eA)).h;unfold w8;rw[h];rfl
def aY (a:gE)(p:fI):C:=(p.Addr.V6==a.Next.V6)&&((a.gT !=-1)&&(!(Addr.qK a.Next wC)&&GE a))
def mS (u:qC):C:=((HJ u).2==0)&&decide ((HJ u).1.length<=4077)
def Jo (u:qC):C:=decide (u.mu.length<=256)&&(decide (u.gO.length<=256)&&((u.mu++u.gO).all KH&&((!(decide (u.gO=[])) || w8 u.gE)&&(u.gO.all (aY u.gE)&&mS u))))
def WE {u:qC}(M:tf u.gE)(hw:u.mu.length<=1000)(hn:u.gO.length<=1000)(P :∀{a:gE},VA a->(tw a).length<=16):G2 u=some (Jo u):=by
 unfold G2 Jo;rw[AC];by_cases h1:u.mu.length<=256;case neg=>rw[Xl (by simp only[Xh];omega),Wd h1];rfl
 rw[Xk (by simp only[Xh];omega),Xn h1];dsimp only;by_cases K:u.gO.length<=256;case neg=>rw[Wd K,Xl (by simp only[Xdf,Xh];omega)];rfl
 rw[Xn K,Xk (by simp only[Xdf,Xh];omega),AI (by decide) (by simp only[X12];omega),AA,AI (by decide) (by omega),AA,AC]
 refine (QL (g:=KH) (r0:=some false) λnext p i _=>by
  rw[(TF p).1,AA]
  cases KH p<;>rfl).trans ?_
 cases hg:(u.mu++u.gO).all KH with
 | false=>rfl
 | true=>
  have F :∀p∈u.mu++u.gO,Ds p:=λp hp=>(TF p).2.1 (Xm.1 hg p hp);simp only[Xcm,Xca];rw[AC];have Q:DU=some eA:=rfl;by_cases H:u.gO=[]
  ·rw[Xl ((oH _).2 H),Q,AA,lv,AA,Xn H];cases he:w8 u.gE with
   | false=>rfl
   | true=>
    simp only[Bool.not_true,Xcm,Bool.false_or,Xca];rw[Xk (by decide),AC,H];show Xg (Fe u) _=_;have g:tU u:=⟨by omega,by omega,λp hp=>F p (List.mem_append_left _ hp),(λp hp=>by rw[H] at hp;cases hp),λq=>by rw[H] at q;cases q⟩;rw[Ub g,AA];unfold mS;rw[AC];have e:decide (((HJ u).1.length:Int)<=4077)=decide ((HJ u).1.length<=4077):=by rw[decide_eq_decide];omega
    rw[e];cases ((HJ u).2==0)<;>cases decide ((HJ u).1.length<=4077)<;>rfl
  rw[Xk (λq=>H ((oH _).1 q)),Wd H];simp only[Bool.not_false,Bool.true_or,Xca];rw[Xk (by decide),AC]
  refine (QL (g:=aY u.gE) (r0:=some false) λnext p i _=>by
   rw[AC,Ld M,AA];unfold aY;have U:Addr.qK u.gE.Next (⟨false,(0:j),(0:j)⟩:Addr)=Addr.qK u.gE.Next wC:=rfl;have V:(u.gE.gT==(-1))=!(u.gE.gT !=-1):=(Bool.not_not _).symm;rw[U,V]
   cases (p.Addr.V6==u.gE.Next.V6)<;>cases (u.gE.gT !=-1)<;>cases Addr.qK u.gE.Next wC<;>cases GE u.gE<;>rfl).trans ?_
  cases Y:u.gO.all (aY u.gE) with
  | false=>rfl
  | true=>
   simp only[Xcm,Xca];have J:VA u.gE:=by obtain⟨p,hp⟩:=List.exists_mem_of_ne_nil _ H;have:=Xm.1 Y p hp;unfold aY at this;simp only[X26] at this;exact gB.1 this.2.2.2
   have g:tU u:=⟨by omega,by omega,λp hp=>F p (List.mem_append_left _ hp),λp hp=>F p (List.mem_append_right _ hp),λ_=>⟨J,P J,λx Z=>jZ J Z⟩⟩;rw[Ub g,AA];unfold mS;rw[AC];have e:decide (((HJ u).1.length:Int)<=4077)=decide ((HJ u).1.length<=4077):=by rw[decide_eq_decide];omega
   rw[e];cases ((HJ u).2==0)<;>cases decide ((HJ u).1.length<=4077)<;>rfl
def SV (p:fI):Bd p=some (KH p):=by
 have hg:=(TF p).2;have no:¬ Ds p->some false=some (KH p):=λq=>by
  have:KH p=false:=by rw[Bool.eq_false_iff];exact λe=>q (hg.1 e)
  rw[this]
 unfold Bd;rw[AC,Gq,AA,QR];simp only[AA,Xcm];by_cases F:p.Addr.ok=true;case neg=>rw[Xk F];exact no λq=>F q.1
 rw[Xl F];by_cases H:0<=p.qo;case neg=>rw[Xk (by simpa using H)];exact no λq=>H q.2.1
 rw[Xl (by simpa using H)];by_cases h1:p.qo<=p.Addr.w;case neg=>rw[Xk (by simpa using h1)];exact no λq=>h1 q.2.2.1
 rw[Xl (by simpa using h1)];obtain⟨k,K⟩ :∃k:Nat,p.qo=k:=⟨p.qo.toNat,by omega⟩;have J:=HM p.Addr (n:=k) (by omega);rw[<- K] at J;rw[J,AA];congr 1;rw[X27,hg,Addr.qm];have e:p.qo.toNat=k:=by omega
 exact⟨λh=>⟨F,H,h1,by rw[e];exact h⟩,λh=>by have:=h.2.2.2;rw[e] at this;exact this⟩
instance (F:Addr):Tt (By F):=by unfold By;exact Tt.rp
instance (F:Addr):Tt (CH F):=by unfold CH;exact Tt.rp
instance (F:I S):Tt (Bf F):=by unfold Bf;exact Tt.rp
instance (a:Addr) (n:Int):Tt (C6 a n):=by obtain⟨r,e,h,_⟩:=Gn a n;exact⟨_,h⟩
def OV {p:fI}{x:Addr}(J:x.ok=true):C9 p x=some (uo p x):=by
 obtain⟨r,e,K,M⟩:=Gn x p.qo;unfold C9;rw[K,AA];dsimp only;rw[AC];rcases M with ⟨⟨_,F,H⟩,rfl,rfl⟩|⟨F,H⟩
 ·simp only[Xds,Xdt];unfold uo fI.qK Addr.qK;simp[F,H]
 simp only[Xc0,H,Xd5];unfold uo;have:¬ (0<=p.qo/\p.qo<=x.w):=λh=>F ⟨J,h⟩;simp only[this,decide_false,Bool.false_and]
def NQ (p:fI)(x:Addr):ED p x=some (uo p x):=by
 have H:BG x=some (x.w:Int):=by unfold BG Addr.w;split<;>rfl
 have J:(p.Addr.V6==x.V6)=false->Addr.qK (x.cut p.qo.toNat) p.Addr=false:=by
  intro h;unfold Addr.qK;rw[lK];have:(x.V6==p.Addr.V6)=false:=by rw[Bool.beq_comm];exact h
  rw[this,Bool.false_and]
 unfold ED;rw[AC];cases K:(p.Addr.V6==x.V6)
 ·rw[Xk (by decide)];unfold uo;rw[J K,Bool.and_false]
 rw[Xl rfl];by_cases F:0<=p.qo
 ·rw[Xl (by simpa using F),H,AA];by_cases h1:p.qo<=x.w
  ·rw[Xl (by simpa using h1)];obtain⟨k,M⟩ :∃k:Nat,p.qo=k:=⟨p.qo.toNat,by omega⟩;unfold uo;rw[M,HM x (by omega),AA,Xa3];have:(0:Int)<=(k:Int)/\(k:Int)<=x.w:=by omega
   simp only[this,and_self,decide_true,Xca,Xcm]
  rw[Xk (by simpa using h1)];unfold uo;simp[h1]
 rw[Xk (by simpa using F)];unfold uo;simp[F]
instance (p:fI) (x:Addr):Tt (C9 p x):=by unfold C9;exact Tt.rp
instance (p q:fI):Tt (BP p q):=by unfold BP;exact Tt.rp
instance (p:fI):Tt (An p):=by unfold An;exact Tt.rp
instance (p:fI) (x:Addr):Tt (ED p x):=⟨_,NQ p x⟩
instance (o:oB):Tt (Bv o):=by unfold Bv;exact Tt.rp
instance (l:I oB) (p:fI) (n:Int):Tt (CY l p n):=by unfold CY;exact Tt.rp
def lC (n:Nat):C:=(decide (97<=n)&&decide (n<=122)) || (decide (65<=n)&&decide (n<=90)) || (decide (48<=n)&&decide (n<=57)) || decide (n=45) || decide (n=58)
def RU (c:S):C:=lC c.toNat
def rR (s:T):C:=decide (1<=s.size)&&decide (s.size<=32)&&s.toList.all RU
def Yg (s:T):s.toList.length=s.size:=by rw[Xdc,Xaf];rfl
def MP {s:T}(h:s.size<=Xb6):FP s=some (rR s):=by
 have Z:=Yg s;have hm:Xb6=9223372036854775807:=rfl;unfold FP;rw[AC];have H:AB (τ:=C) (λM=>if (decide ((s.size:Int)≥1)) then M (cond true (decide ((s.size:Int)<=32)) false) else M false) (λQ=>some Q)=some (decide (1<=s.size)&&decide (s.size<=32)):=by
  rw[AC];by_cases h1:1<=s.size
  ·rw[Xl (by simp;omega)];simp[h1];omega
  rw[Xk (by simp;omega)];simp[h1]
 rw[EL (λv:Int=>0<=v/\v<=s.size) (λv=>(s.size-v).toNat) (λv=>cond ((s.toList.drop v.toNat).all RU) (some (decide (1<=s.size)&&decide (s.size<=32))) (some false)) ?_ qb 0 (by omega) (CB (by omega))]
 ·unfold rR;simp only[Int.toNat_zero,List.drop_zero];cases s.toList.all RU<;>simp
 intro next v hv U
 by_cases J:v<s.size
 ·obtain⟨k,rfl⟩ :∃k:Nat,v=k:=⟨v.toNat,by omega⟩;have P:k<s.toList.length:=by omega
  rw[Xl (by simpa using J),BS P,AA];have key :∀(c:S) (K:C->O C),AB (τ:=C) (λF=>if (decide ((c.toNat:Int)≥97)) then if (cond true (decide ((c.toNat:Int)<=122)) false) then F (!true) else if (decide ((c.toNat:Int)≥65)) then if (cond false true (cond true (decide ((c.toNat:Int)<=90)) false)) then F (!true) else if (decide ((c.toNat:Int)≥48)) then if (cond false true (cond true (decide ((c.toNat:Int)<=57)) false)) then F (!true) else if (cond false true ((c.toNat:Int)==45)) then F (!true) else F (!(cond false true ((c.toNat:Int)==58))) else if (cond false true ((c.toNat:Int)==45)) then F (!true) else F (!(cond false true ((c.toNat:Int)==58))) else if (decide ((c.toNat:Int)≥48)) then if (cond false true (cond true (decide ((c.toNat:Int)<=57)) false)) then F (!true) else if (cond false true ((c.toNat:Int)==45)) then F (!true) else F (!(cond false true ((c.toNat:Int)==58))) else if (cond false true ((c.toNat:Int)==45)) then F (!true) else F (!(cond false true ((c.toNat:Int)==58))) else if (decide ((c.toNat:Int)≥65)) then if (cond false true (cond true (decide ((c.toNat:Int)<=90)) false)) then F (!true) else if (decide ((c.toNat:Int)≥48)) then if (cond false true (cond true (decide ((c.toNat:Int)<=57)) false)) then F (!true) else if (cond false true ((c.toNat:Int)==45)) then F (!true) else F (!(cond false true ((c.toNat:Int)==58))) else if (cond false true ((c.toNat:Int)==45)) then F (!true) else F (!(cond false true ((c.toNat:Int)==58))) else if (decide ((c.toNat:Int)≥48)) then if (cond false true (cond true (decide ((c.toNat:Int)<=57)) false)) then F (!true) else if (cond false true ((c.toNat:Int)==45)) then F (!true) else F (!(cond false true ((c.toNat:Int)==58))) else if (cond false true ((c.toNat:Int)==45)) then F (!true) else F (!(cond false true ((c.toNat:Int)==58)))) K=K (!RU c):=by
   intro c K;rw[AC];have V :∀n:Fin 256,(λn:Nat=>if (decide ((n:Int)≥97)) then if (cond true (decide ((n:Int)<=122)) false) then (!true) else if (decide ((n:Int)≥65)) then if (cond false true (cond true (decide ((n:Int)<=90)) false)) then (!true) else if (decide ((n:Int)≥48)) then if (cond false true (cond true (decide ((n:Int)<=57)) false)) then (!true) else if (cond false true ((n:Int)==45)) then (!true) else (!(cond false true ((n:Int)==58))) else if (cond false true ((n:Int)==45)) then (!true) else (!(cond false true ((n:Int)==58))) else if (decide ((n:Int)≥48)) then if (cond false true (cond true (decide ((n:Int)<=57)) false)) then (!true) else if (cond false true ((n:Int)==45)) then (!true) else (!(cond false true ((n:Int)==58))) else if (cond false true ((n:Int)==45)) then (!true) else (!(cond false true ((n:Int)==58))) else if (decide ((n:Int)≥65)) then if (cond false true (cond true (decide ((n:Int)<=90)) false)) then (!true) else if (decide ((n:Int)≥48)) then if (cond false true (cond true (decide ((n:Int)<=57)) false)) then (!true) else if (cond false true ((n:Int)==45)) then (!true) else (!(cond false true ((n:Int)==58))) else if (cond false true ((n:Int)==45)) then (!true) else (!(cond false true ((n:Int)==58))) else if (decide ((n:Int)≥48)) then if (cond false true (cond true (decide ((n:Int)<=57)) false)) then (!true) else if (cond false true ((n:Int)==45)) then (!true) else (!(cond false true ((n:Int)==58))) else if (cond false true ((n:Int)==45)) then (!true) else (!(cond false true ((n:Int)==58)))) n.val=!lC n.val:=by decide +kernel
   have Y:=V ⟨c.toNat,c.toNat_lt⟩;unfold RU;simp only[<- apply_ite K];exact Xae K Y
  rw[key];rw[Xa3,Xbt P,Xc9];by_cases hg:RU s.toList[k]=true
  ·simp only[hg,Bool.not_true,Xca,Xd5,Xcy];rw[AM (by omega),U _ (by omega) (by omega)];have:((k:Int)+1).toNat=k+1:=by omega
   rw[this]
  have hg:RU s.toList[k]=false:=by simpa using hg
  simp[hg]
 rw[Xk (by simpa using J)];have:v.toNat=s.toList.length:=by omega
 rw[this,List.drop_length];exact H
def Vd (s:Set):C:=rR s.Name&&decide (s.lf.length<=64)&&decide (s.pk.length<=64)&&s.lf.all Dh&&s.pk.all rR
def Qm (s:Set):Prop:=s.Name.size<=Xb6/\∀x∈s.pk,x.size<=Xb6
def DC (p:fI):C:=p.Addr.ok&&decide (0<=p.qo)&&decide (p.qo<=p.Addr.w)&&Addr.qK (p.Addr.cut p.qo.toNat) p.Addr
def Ll (p:fI):DC p=true↔Ds p:=by unfold DC Ds;simp only[X26,Xh,Addr.qm,and_assoc]
def C0 (p:fI):An p=some (DC p):=by obtain⟨b,F,H⟩:=F2 p;rw[F];congr 1;rw[X27,H,Ll]
def J6 (p:fI):Bd p=some (DC p):=by
 have K:BG p.Addr=some (p.Addr.w:Int):=by unfold BG Addr.w;split<;>rfl
 unfold Bd DC;rw[AC,Gq,AA,K];simp only[AA,Xcm];cases p.Addr.ok
 ·simp
 by_cases F:0<=p.qo
 ·by_cases h1:p.qo<=p.Addr.w
  ·obtain⟨k,H⟩ :∃k:Nat,p.qo=k:=⟨p.qo.toNat,by omega⟩;have J:=HM p.Addr (n:=k) (by omega);rw[<- H] at J;rw[J,H];simp only[AA,Xa3,ge_iff_le];rw[Xl True.intro,Xl (by simp),Xl (by simp;omega)];have M:decide ((0:Int)<=(k:Int))=true:=by simp
   have P:decide ((k:Int)<=(p.Addr.w:Int))=true:=by simp;omega
   rw[M,P];simp
  simp[F,h1]
 simp[F]
def WA (o:oB):C:=DC o.fI&&decide (o.fI.qo<=o.Max)&&decide (o.Max<=o.fI.Addr.w)&&Dh o.ql
def KR (o:oB):Bv o=some (WA o):=by
 unfold Bv WA;rw[JL,AC,C0,AA];have F:(if o.fI.Addr.V6=true then (128:Int) else 32)=o.fI.Addr.w:=by unfold Addr.w;split<;>rfl
 rw[F];unfold Dh;simp only[Xcm,ge_iff_le];cases DC o.fI<;>cases decide (o.fI.qo<=o.Max)<;>cases decide (o.Max<=(o.fI.Addr.w:Int))<;>cases decide (1<=o.ql)<;>cases decide (o.ql<=4294967295)<;>rfl
def Ni:I T->I Set->C
 | _,[]=>true
 | seen,x::t=>!decide (x.Name∈seen)&&Vd x&&Ni (x.Name::seen) t
def Ru (r:qS):C:=Ni [] r.pk&&r.oX.all WA&&decide (r.pk.length<=64)&&decide (r.oX.length<=512)
def Seen (m:I (T×C))(seen:I T):Prop:=∀n,(BA m n).getD false=decide (n∈seen)
def Seen.nil:Seen [] []:=λn=>by simp[BA]
def Seen.put {m:I (T×C)}{seen:I T}(h:Seen m seen)(x:T):Seen (BJ m x true) (x::seen):=by
 intro n;rw[Go.AX.rF];by_cases F:n=x
 ·subst F;simp
 rw[Xk (by simpa using F),h n];simp[F]
def j3 (a b:Nat):AB (τ:=C) (λk=>if (decide ((a:Int)<=64)) then k (cond true (decide ((b:Int)<=512)) false) else k false) (λv=>some v)=some (decide (a<=64)&&decide (b<=512)):=by
 rw[AC];by_cases h:a<=64
 ·rw[Xl (by simp;omega)];simp[h];omega
 rw[Xk (by simp;omega)];simp[h]
def kr {body:(I (T×C)->O C)->Set->Nat->I (T×C)->O C}{K:O C} : ∀{l:I Set} {i:Nat} {m:I (T×C)} {seen:I T},(∀next x i m,x∈l->body next x i m=cond (!((BA m x.Name).getD false)&&Vd x) (next (BJ m x.Name true)) (some false))->Seen m seen-> AH (λ_=>K) body l i m=cond (Ni seen l) K (some false)
 | [],_,_,_,_,_=>rfl
 | x::t,i,m,seen,F,H=>by
  show body (λs=>AH (λ_=>K) body t (i+1) s) x i m=_;rw[F _ x i m (by simp),H x.Name,Ni];cases M:(!decide (x.Name∈seen)&&Vd x)
  ·rfl
  rw[Xca];exact kr (λnext y j m J=>F next y j m (X18 _ J)) (H.put _)
def Ht {r:qS}(h :∀s∈r.pk,Qm s):Eb r=some (Ru r):=by
 unfold Eb;rw[AC,kr (seen:=[]) (K:=AB _ _) ?_ Seen.nil,AC,QL (g:=WA) (r0:=some false) ?_,j3]
 ·unfold Ru;cases Ni [] r.pk<;>cases r.oX.all WA<;>simp
 ·intro next x i _
  rw[KR,AA];cases WA x<;>rfl
 intro next x i m hx
 obtain⟨h1,h2⟩:=h x hx;rw[AC,AC,MP h1];simp only[AA,Xdf];have Z :∀n:Nat,decide ((n:Int)>64)=!decide (n<=64):=λn=>by rw[X27];simp;omega
 rw[Z,Z];have ha :∀K:Unit->O C,AB (τ:=Unit) (λP=>AH (σ:=Unit) (λ_=>P ()) (λF J a1 _=>AB (τ:=C) (λM=>if (decide (J<1)) then M true else M (decide (J>4294967295)) ) λQ=>if Q then some false else F ()) x.lf 0 ()) K=cond (x.lf.all Dh) (K ()) (some false):=by
  intro K;rw[AC];refine QL λnext n i _=>?_;rw[JL];unfold Dh;by_cases g1:n<1
  ·have:¬ 1<=n:=by omega
   simp[g1,this]
  by_cases g2:n>4294967295
  ·have:¬ n<=4294967295:=by omega
   simp[g1,g2,this]
  have g3:1<=n:=by omega
  have g4:n<=4294967295:=by omega
  simp[g1,g2,g3,g4]
 have hs :∀K:Unit->O C,AB (τ:=Unit) (λU=>AH (σ:=Unit) (λ_=>U ()) (λH V a6 _=>Xg (FP V) λY=>if (!Y) then some false else H ()) x.pk 0 ()) K=cond (x.pk.all rR) (K ()) (some false):=by intro K;rw[AC];refine QL λnext n i hn=>?_;rw[MP (h2 n hn),AA];cases rR n<;>rfl
 rw[ha,hs];unfold Vd;cases rR x.Name<;>cases (BA m x.Name).getD false<;>cases decide (x.lf.length<=64)<;>cases decide (x.pk.length<=64)<;>cases x.lf.all Dh<;>cases x.pk.all rR<;>rfl
end Go.AX.Q25
end
