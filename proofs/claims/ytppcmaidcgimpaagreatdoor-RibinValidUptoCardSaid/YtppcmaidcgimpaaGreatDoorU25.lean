/-
  Texts of one proof, packed.
-/
import Derived.Test.YtppcmaidcgimpaaGreatDoorU24
set_option linter.all false
set_option maxRecDepth 100000
set_option maxHeartbeats 4000000
open List renaming length_map→X10,length_append→X11,length_cons→X12,getElem?_eq_getElem→X15,length_drop→X17,length_take→X18,mem_cons_of_mem→X19,length_replicate→X20,length_set→X21
open Bool renaming and_eq_true→X27,eq_iff_iff→X28
open Option renaming bind→Wb
open Go renaming maxLen→Xb3
section
namespace Go.AX.Q25
open Go Go.AX
def oa {α ρ:Type}{l:I α}{q:α->C}(g:α->(C->O ρ)->O ρ){K:C->O ρ}(hg :∀x∈l,∀k,g x k=k (q x)) : AB (τ:=C) (λU=>AB (τ:=Int) (λQ=>AB (τ:=Unit) (λV=>AI (σ:=Unit) (λ_=>V ()) (λF J M _=>AB (τ:=C) (λY=>g J Y) λH=>if H=true then Q (M:Int) else F ()) l 0 ()) λ_=>Q (-1)) λP=>U (decide (P≥0))) K=K (l.any q):=by
 simp only[AC];have key :∀(l:I α) (i:Nat),(∀x∈l,∀k,g x k=k (q x))->AI (σ:=Unit) (λ_=>K (decide ((-1:Int)≥0))) (λF J M _=>g J λH=>if H=true then K (decide ((M:Int)≥0)) else F ()) l i ()=K (l.any q):=by
  intro l;induction l with
  | nil=>intro i _;rfl
  | cons x t Z=>
   intro i h;show g x (λH=>if H=true then K (decide ((i:Int)≥0)) else AI _ _ t (i+1) ())=_;rw[h x (by simp),Z (i+1) λy hy=>h y (X19 _ hy),Xdz];cases q x
   ·rfl
   rw[Wr rfl,Wz (by omega)];rfl
 exact key l 0 hg
def Fu {α ρ:Type}{l:I α}{q:α->C}(g:α->(C->O ρ)->O ρ){K:C->O ρ}(hg :∀x∈l,∀k,g x k=k (q x))(b:C) : AB (τ:=C) (λV=>AI (σ:=C) (λJ=>V J) (λF M _ J=>AB (τ:=C) (λP=>if J=true then P true else g M P) λH=>F H) l 0 b) K=K (b || l.any q):=by
 simp only[AC];have key :∀(l:I α) (i:Nat) (b:C),(∀x∈l,∀k,g x k=k (q x))->AI (σ:=C) (λJ=>K J) (λF M _ J=>if J=true then F true else g M λH=>F H) l i b=K (b || l.any q):=by
  intro l;induction l with
  | nil=>intro i b _;rw[List.any_nil,Bool.or_false];rfl
  | cons x t Q=>intro i b h;show (if b=true then AI _ _ t (i+1) true else g x (λH=>AI _ _ t (i+1) H))=_;have U :∀y∈t,∀k,g y k=k (q y):=λy Y=>h y (X19 _ Y);rw[h x (by simp),Q (i+1) true U,Q (i+1) (q x) U,Xdz];cases b<;>rfl
 exact key l 0 b hg
def VO {α σ ρ:Type}{K:σ->O ρ}{body:(σ->O ρ)->α->Nat->σ->O ρ}(st:σ->α->σ)(I:Nat->σ->Prop) (F :∀n s x,I (n+1) s->I n (st s x)) :∀(l:List α) (i:Nat) (s:σ),(∀next x j s n,x∈l->I (n+1) s->body next x j s=next (st s x))->I l.length s->AI K body l i s=K (l.foldl st s)
 | [],_,_,_,_=>rfl
 | x::t,i,s,H,h=>by show body (λJ=>AI K body t (i+1) J) x i s=_;rw[H _ x i s t.length (by simp) h];exact VO st I F t (i+1) (st s x) (λnext y j s n M=>H next y j s n (X19 _ M)) (F _ _ _ h)
def ad (b:C)(n:Int):I Int:=cond b [n] []
def Qu {ρ:Type}{b:C}{n:Int}{v:I Int}{K:I Int->O ρ}(J:v.length<=1000) : AB (τ:=I Int) (λF=>if b=true then Wb (gN (α:=Int) 8 v ([n]:I Int)) λH=>F H else F v) K=K (v++ad b n):=by
 rw[AC];cases b
 ·rw[Wm (by simp)];show _=K (v++[]);rw[Xaj]
 rw[Wr rfl,AD (by decide) (by simp;omega),AA];rfl
def rI (b:C)(n:Int):(ad b n).length<=1:=by cases b<;>simp[ad]
def IG (p:I oF):I Int:=p.flatMap (·.o3)
def nD (p:I oF):(IG p).length=xm p:=by
 induction p with
 | nil=>rfl
 | cons s t F=>rw[Fe,<- F];simp[IG]
def qB {ρ:Type}{K:I Int->O ρ} :∀(p:I oF) (i:Nat) (acc:I Int),acc.length+xm p<=1000000000-> AI (σ:=I Int) (λv2=>K v2) (λF (J:oF) _ v2=>Wb (gN (α:=Int) 8 v2 J.o3) λH=>F H) p i acc=K (acc++IG p)
 | [],_,acc,_=>by show K acc=K (acc++[]);rw[Xaj]
 | s::t,i,acc,h=>by rw[Fe] at h;show Wb (gN (α:=Int) 8 acc s.o3) (λH=>AI _ _ t (i+1) H)=_;rw[AD (by decide) (by omega),AA,qB t (i+1) _ (by rw[X11];omega)];show K _=K (acc++(s.o3++IG t));rw[Xak]
def OH {p:I oF}(h:xm p<=1000000000):I7 p=some (IG p):=by unfold I7;rw[AC];exact qB p 0 [] (by simpa using h)
def K0 {p:I oF}(h:xm p<=1000000000):G6 p=some (IG p):=OH h
def Qh {p:I oF}(h:Dc p=true){s:oF}(F:s∈p):s.o3≠[]:=by unfold Dc at h;rw[X27,X27,Xa0] at h;have:=h.1.1 s F;unfold N4 at this;rw[X27,Wd] at this;intro e;rw[e] at this;exact this.1 rfl
def PK:I oF->Int×C
 | []=>(0,false)
 | s::t=>if (Dc (s::t)&&!s.Set)=true then (s.o3.headD 0,true) else (0,false)
def TJ (s:oF)(t:I oF):PK (s::t)=if (Dc (s::t)&&!s.Set)=true then (s.o3.headD 0,true) else (0,false):=rfl
def LH {α:Type}(x:α)(t:I α):mu (x::t) 0=some x:=JY [] x t
def ZH {l:I Int}(h:l≠[]):mu l 0=some (l.headD 0):=by
 cases l with
 | nil=>exact absurd rfl h
 | cons x t=>exact LH x t
def Tn {p:I oF}(J:p.length<=1000000000)(K:xm p<=1000000000):Hy p=some (PK p):=by
 unfold Hy;rw[JJ (by omega) (by omega),AC];cases p with
 | nil=>rfl
 | cons s t=>
  rw[Wm (by simp;omega),AA,LH,AA,AA];rw[TJ];cases F:Dc (s::t)
  ·rfl
  have hg:=ZH (Qh F (Xcd ..));cases M:s.Set
  ·show (Wb (mu s.o3 0) λH=>some (H,true))=_;rw[hg,AA];rfl
  rfl
def Vd {p:I oF}(K:p.length<=1000000000)(M:xm p<=1000000000):I4 p=some (PK p):=by
 unfold I4;rw[Jr (by omega) (by omega),AC,AA];cases p with
 | nil=>cases Dc []<;>rfl
 | cons s t=>
  rw[LH,AA,AA];rw[TJ];have F:((((s::t).length:Nat):Int)==0)=false:=by rw[X12];simp only[Xep,ne_eq];omega
  rw[F];cases H:Dc (s::t)
  ·rfl
  have hg:=ZH (Qh H (Xcd ..));cases P:s.Set
  ·show (Wb (mu s.o3 0) λJ=>some (J,true))=_;rw[hg,AA];rfl
  rfl
def XW (l:I Int):Int:=l.getLastD 0
def Ir (p:I oF):Int×C:=
 match p.getLast? with
 | none=>(0,false)
 | some s=>if (Dc p&&!s.Set)=true then (XW s.o3,true) else (0,false)
def Qr {α:Type}{l:I α}{x:α}(h:l.getLast?=some x)(H:l.length<=1000000000):mu l (AO ((l.length:Int)-1))=some x:=by
 have F:l≠[]:=by intro e;rw[e] at h;simp at h
 have J:0<l.length:=Xch.2 F;rw[AG (by omega),show (l.length:Int)-1=((l.length-1:Nat):Int) by omega,BY (by omega)];rw[List.getLast?_eq_getElem?,X15 (by omega)] at h;exact h
def Wi {l:I Int}(h:l≠[]):l.getLast?=some (XW l):=by unfold XW;rw[List.getLastD_eq_getLast?,List.getLast?_eq_some_getLast h];rfl
def V5 {α:Type}(l:I α):(((l.length:Nat):Int)==0)=l.isEmpty:=by
 cases l with
 | nil=>rfl
 | cons x t=>show _=false;rw[X12];simp only[Xep,ne_eq];omega
def Z8 {α:Type}{l:I α}{x:α}(h:l.getLast?=some x):x∈l:=by rw[List.getLast?_eq_some_iff] at h;obtain⟨ys,rfl⟩:=h;simp
def SX {p:I oF}(H:p.length<=1000000000)(P:xm p<=1000000000):Gt p=some (Ir p):=by
 unfold Gt Ir;rw[JJ (by omega) (by omega),AC,V5];cases hp:p.getLast? with
 | none=>have:p=[]:=List.getLast?_eq_none_iff.1 hp;subst this;rfl
 | some s=>
  show _=some (if (Dc p&&!s.Set)=true then (XW s.o3,true) else (0,false));have F:=Z8 hp;have J:p.isEmpty=false:=by cases p with
   | nil=>cases F
   | cons _ _=>rfl
  rw[J,Wm (by simp),AA,Qr hp H,AA,AA];cases K:Dc p
  ·rfl
  have hg:=Wi (Qh K F);have:=P0 F;cases Q:s.Set
  ·show (Wb (mu s.o3 (AO ((s.o3.length:Int)-1))) λM=>some (M,true))=_;rw[Qr hg (by omega),AA];rfl
  rfl
def iR {p:I oF}{s:oF}(h:p.getLast?=some s)(F:s.o3≠[]):(IG p).getLast?=some (XW s.o3):=by
 rw[List.getLast?_eq_some_iff] at h;obtain⟨ys,rfl⟩:=h;show (List.flatMap _ _).getLast?=_;rw[List.flatMap_append,List.getLast?_append];have:(List.flatMap (λx:oF=>x.o3) [s])=s.o3:=by simp
 rw[this,Wi F];rfl
def Tm {p:I oF}(J:p.length<=1000000000)(K:xm p<=1000000000):Hu p=some (Ir p):=by
 unfold Hu Ir;rw[Jr (by omega) (by omega),AC,AA,V5];cases hp:p.getLast? with
 | none=>have:p=[]:=List.getLast?_eq_none_iff.1 hp;subst this;cases Dc []<;>rfl
 | some s=>
  show _=some (if (Dc p&&!s.Set)=true then (XW s.o3,true) else (0,false));have F:=Z8 hp;have M:p.isEmpty=false:=by cases p with
   | nil=>cases F
   | cons _ _=>rfl
  rw[M,Qr hp J,AA];cases P:Dc p
  ·rfl
  have hg:=iR hp (Qh P F);cases U:s.Set
  ·show (Wb (G6 p) λH=>Wb (mu H (AO ((H.length:Int)-1))) λQ=>some (Q,true))=_;rw[K0 K,AA,Qr hg (by rw[nD];omega),AA];rfl
  rfl
def Zs (p:I oF) :∃v,Dj p=some v:=by
 have h:Ok (Dj p) λ_=>True:=by unfold Dj;refine .join (λ_=>True) (λk H=>.for_ (λs=>H s trivial) λnext x i s _ _ J=>?_) λ_ _=>.ret trivial;exact .join (λ_=>True) (λK F=>.ite (λ_=>F _ trivial) λ_=>F _ trivial) λv _=>J v
 obtain⟨v,e,_⟩:=h;exact⟨v,e⟩
def fU (p:I oF):Int:=(Dj p).getD 0
def LI (p:I oF):Dj p=some (fU p):=by obtain⟨v,h⟩:=Zs p;unfold fU;rw[h];rfl
def TW (p:I oF):Jf p=some (fU p):=LI p
def Qw {α:Type}{l:I α}{e:α->α->C}(h :∀a b,e a b=e b a)(x:α):(l.any λy=>e x y)=l.any λy=>e y x:=by congr 1;funext y;exact h x y
def Y5 (a b:Int):(a==b)=(b==a):=Bool.beq_comm
def jE (a b:Addr):Addr.wa a b=Addr.wa b a:=by rw[X28,Addr.vR,Addr.vR];exact⟨Eq.symm,Eq.symm⟩
def YN {p:I oF}(F:xm p<=1000000000)(n:Int):Lp p n=some ((IG p).any λx=>n==x):=by unfold Lp;rw[K0 F,AA,AC,Qw Y5];exact pn (e:=λx y:Int=>x==y) (IG p) 0
def Qb (l:I Int)(n:Int):HV l n=some (l.any λx=>n==x):=by unfold HV;rw[AC,Qw Y5];exact pn (e:=λx y:Int=>x==y) l 0
def Xp (l:I Addr)(a:Addr):BL l a=some (l.any λx=>Addr.wa a x):=by unfold BL B0;exact M5 (f:=λx=>some (Addr.wa a x)) λ_ _=>rfl
def YR (l:I oF):AU l=some (l.any λs=>s.Set):=by unfold AU An;exact M5 (f:=Gf) λ_ _=>rfl
def IN (a b c:Int):BK a b c=some (decide (b<=a)&&decide (a<=c)):=HJ a b c
def EA (a:gE):C:=a.cW.any λy=>qv.wa y ⟨65535,666⟩
def ia (a b:qv):qv.wa a b=qv.wa b a:=by rw[X28,rc,rc];exact⟨Eq.symm,Eq.symm⟩
def O2 (a:gE):Ic a=some (EA a):=by unfold Ic;rw[Xn,AA];rfl
def VW (a:gE):Iz a=some (EA a):=by unfold Iz Ij BC BJ;have h:(Wb (AB (τ:=Unit) (λF=>AI (λ_=>F ()) (λnext x i _=>Wb (some (qv.wa ⟨65535,666⟩ x)) λv=>if v then some (i:Int) else next ()) a.cW 0 ()) λ_=>some (-1)) λv1=>some (decide (v1≥0)))=some (a.cW.any λx=>qv.wa ⟨65535,666⟩ x):=M5 (f:=λx=>some (qv.wa ⟨65535,666⟩ x)) λ_ _=>rfl;refine (Xa4 (λm=>Wb (Wb m λv=>some v) λv=>some v) h).trans ?_;unfold EA;rw[Qw ia];rfl
def wd (o:kI):kI:={ o with Max:=cond o.fI.Addr.V6 128 32 }
def W4 (a:Addr):GY a=some (cond a.V6 128 32):=by unfold GY;cases a.V6<;>rfl
def SD (b:C):ER b=some (cond b 128 32):=by unfold ER;cases b<;>rfl
def NP {l:I kI}(M:l.length<=1000000):E2 l=some (l.map wd):=by
 unfold E2;rw[AC];have h:=VO (K:=λv2:I kI=>some v2) (body:=λH (J:kI) (_:Nat) v2=>Wb (ER J.fI.Addr.V6) λP=>Wb (gN (α:=kI) 48 v2 ([{ J with Max:=P }]:I kI)) λQ=>H Q)
  (λv x=>v++[wd x]) (λn v=>v.length+n<=1000000) (λn s x h=>by simp;omega) l 0 []
  (λnext x j s n _ h=>by
   show Wb (ER x.fI.Addr.V6) _=_
   rw[SD,AA,AD (by decide) (by simp;omega),AA];rfl)
  (by simpa using M)
 refine h.trans ?_;have key :∀(l F:I kI),l.foldl (λv x=>v++[wd x]) F=F++l.map wd:=by
  intro l;induction l with
  | nil=>intro F;simp
  | cons x t U=>intro F;rw[Xbh,U];simp
 rw[key,Xay]
def Tu {l:I kI}(V:l.length<=1000000):FD l=some (l.map wd):=by
 unfold FD D9;rw[AD (by decide) (by simp;omega),AA,AA,AC];refine Dq (λp:Int×I kI=>0<=p.1/\p.1<=l.length/\p.2=(l.take p.1.toNat).map wd++l.drop p.1.toNat) (λp=>(l.length-p.1).toNat) (λ_=>some (l.map wd)) ?_ tE (0,l) ⟨Int.le_refl _,by omega,rfl⟩ (BW (by dsimp only;omega));rintro next ⟨i,v⟩ ⟨K,M,F⟩ P
 obtain⟨k,rfl⟩ :∃k:Nat,i=(k:Int):=⟨i.toNat,by omega⟩;dsimp only at K M F⊢;rw[Xaa] at F;by_cases hk:k<l.length
 ·rw[Wr (by simpa using hk)];have Q:v.length=l.length:=by rw[F];simp;omega
  have J:l.drop k=l[k]::l.drop (k+1):=Xbp hk;have hg:mu v (k:Int)=some l[k]:=by have:=JY ((l.take k).map wd) l[k] (l.drop (k+1));rw[X10,X18,Xcw (by omega)] at this;rw[F,J];exact this
  rw[hg,AA,W4,AA,AA,AG (by omega)];have U:wj v (k:Int) (wd l[k])=some (v.set k (wd l[k])):=by unfold wj;rw[Wr (by omega),Xaa]
  have H:wj v (k:Int) { l[k] with Max:=cond l[k].fI.Addr.V6 128 32 }=some (v.set k (wd l[k])):=U;rw[H,AA];refine P _ ⟨by dsimp only;omega,by dsimp only;omega,?_⟩ (by dsimp only;omega);dsimp only;rw[show ((k:Int)+1).toNat=k+1 by omega,F,J,List.set_append_right _ _ (by simp;omega),X10,X18,Xcw (by omega),Nat.sub_self,List.set_cons_zero,List.take_succ_eq_append_getElem hk,List.map_append,Xak];rfl
 rw[Wm (by simpa using hk)];have:k=l.length:=by omega
 rw[F,this,Xcj,List.drop_length,Xaj]
def oS (n:Int):KZ n=some (Bv n):=xI n
def XT {l:I Int}(h:l.length<=1000000):Dz l=some l:=by unfold Dz;rw[AD (by decide) (by simp;omega),AA]
def Wu {l:I S}(h:l.length<=1000000):DR l=some l:=by unfold DR;rw[AD (by decide) (by simp;omega),AA]
def nA {a:gE}(h:yG a):Ok (EM a) λ_=>True:=by
 have U:=h.p;have V:=h.t;have Y:=h.o;unfold EM;refine .join (λ_=>True) (λk F=>?_) λZ _=>.join (λ_=>True) (λk F=>?_) λP _=>?_
 ·refine .z7 (λj s=>s.length=j) rfl (λs _=>F s trivial) λnext x i s Q H J K=>?_;have:=P0 H;rw[XT (by omega),AA];exact .bind (.gN (by decide) (by simp;omega)) λw M=>K w (by rw[M];simp[J])
 ·refine .z7 (λj s=>s.length=j) rfl (λs _=>F s trivial) λnext x i s Q H J K=>?_;have:=h.d x H;rw[Wu (by omega),AA];exact .bind (.gN (by decide) (by simp;omega)) λw M=>K w (by rw[M];simp[J])
 unfold B9 C2;have:=h.c;have:=h.l;rw[AD (by decide) (by simp;omega),AA,AA,AD (by decide) (by simp;omega),AA,AA];exact .ret trivial
def ZS (n:Int)(a:gE):C:=Bv n&&(a.vS !=-1)
def dC {n:Int}{a:gE}(h:yG a):Ok (H7 1 n a) λr=>(r.2==30)=ZS n a:=by
 unfold H7 ZS;rw[show M4 1=some true from rfl,oS];simp only[AC,AA];rw[Wm (by simp)];cases Bv n
 ·exact .ret rfl
 rw[Wm (by simp),Wm (by decide),show (cond false true ((1:Int)==1))=true from rfl,Wr rfl];cases F:(a.vS !=-1)
 ·rw[Wm (by simp),Wm (by decide),Wm (by simp)];obtain⟨c,e,_⟩:=nA h;rw[e,AA,Wr (by rfl),Wm (by decide)];exact .ret rfl
 rw[Wr (by simp),Wr trivial];exact .ret rfl
def Rr {n:Int}{a:gE}:Ok (Gx 1 n a) λr=>(r.2==30)=ZS n a:=by
 unfold Gx ZS;have J:Lt 1 n=some (!Bv n):=by
  unfold Lt Bv;rw[show Is 1=some 2 from rfl,AC,AA,Wm (by decide)];by_cases h1:n<1
  ·rw[Wr (by simpa using h1),Xa5 (p:=1<=n) (by omega)];rfl
  rw[Wm (by simpa using h1),Wz (p:=1<=n) (by omega)];by_cases F:n>4294967295
  ·rw[Wz F,Xa5 (p:=n<=4294967295) (by omega)];rfl
  rw[Xa5 F,Wz (p:=n<=4294967295) (by omega)];rfl
 rw[J,AA];simp only[AC];cases Bv n
 ·exact .ret rfl
 rw[Wm (by simp),Wm (by decide),show (cond false true ((1:Int)==2))=false from rfl];cases H:(a.vS !=-1)
 ·rw[Wm (by simp),Wm (by simp)];have:(a.vS==-1)=true:=by rw[bne] at H;simpa using H
  rw[this,Wr rfl,Wm (by simp),show (cond true (cond false true ((1:Int)==4)) false)=false from rfl,Wm (by simp)];exact .ret rfl
 rw[Wr rfl,Wr (by rfl),Wr (by decide),Wr trivial];exact .ret rfl
def Ch (p:fI)(n:Int)(s:Int×I kI)(o:kI):Int×I kI:=
 cond (yg o.fI p) (cond (o.tS==n&&(n !=0&&decide (o.Max≥p.vg))) 1 (cond (s.1==0) 2 s.1),s.2++[o]) s
def MT (l:I kI)(p:fI)(n:Int):Int:=(l.foldl (Ch p n) (0,[])).1
def fY (p:fI)(n:Int)(s:Int×I kI)(o:kI):(Ch p n s o).2.length<=s.2.length+1:=by
 unfold Ch;cases yg o.fI p
 ·exact Nat.le_succ _
 show (s.2++[o]).length<=_;simp
def kL {l:I kI}{p:fI}{n:Int}(F:l.length<=1000000):Hq l p n=some (l.foldl (Ch p n) (0,[])):=by
 unfold Hq;simp only[AC];refine VO (K:=λs:Int×I kI=>some (s.1,s.2)) (Ch p n) (λk s=>s.2.length+k<=1000000) (λk s x h=>by have:=fY p n s x;omega) l 0 (0,[]) (λnext x j s k _ h=>?_) (by simpa using F);obtain⟨a,b⟩:=s;dsimp only at h⊢;rw[Ep,AA];unfold Ch;cases yg x.fI p
 ·rfl
 rw[Wm (by simp),AD (by decide) (by simp;omega),AA];dsimp only;simp only[Xcq];cases (x.tS==n)
 ·cases (a==0)<;>rfl
 cases (n !=0)
 ·cases (a==0)<;>rfl
 cases decide (x.Max≥p.vg)
 ·cases (a==0)<;>rfl
 rfl
def Um {l:I kI}{p:fI}{n:Int}(F:l.length<=1000000)(hp:p.Addr.ok=true):Iy l p n=some (l.foldl (Ch p n) (0,[])):=by
 unfold Iy;simp only[AC];refine VO (K:=λs:Int×I kI=>some (s.1,s.2)) (Ch p n) (λk s=>s.2.length+k<=1000000) (λk s x h=>by have:=fY p n s x;omega) l 0 (0,[]) (λnext x j s k _ h=>?_) (by simpa using F);obtain⟨a,b⟩:=s;dsimp only at h⊢;rw[FQ hp,AA];unfold Ch;cases yg x.fI p
 ·rfl
 rw[Wm (by simp),AD (by decide) (by simp;omega),AA];dsimp only;simp only[Xcq];cases (x.tS==n)
 ·cases (a==0)<;>rfl
 cases (n !=0)
 ·cases (a==0)<;>rfl
 cases decide (x.Max≥p.vg)
 ·cases (a==0)<;>rfl
 cases (a==0)<;>rfl
def fq (r:we)(h:Int)(n:T)(p:fI)(o:Int):Int:=(Dl r h n p o).getD 1
def ZQ {r:we}{h:Int}{n:T}{p:fI}{o:Int}(F :∀s∈r.ph,LD s)(H:n.size<=Xb3) : Dl r h n p o=some (fq r h n p o)/\DJ r h n p o=some (fq r h n p o):=by obtain⟨v,J,K⟩:=UU (h:=h) (p:=p) (o:=o) F H;unfold fq;rw[J];exact⟨rfl,K⟩
end Go.AX.Q25
end
section
namespace Go.AX.Q25
open Go Go.AX
structure Co (f:vV):Prop where
 s :∀s∈f.we.ph,LD s
 o:f.we.pk.length<=1000000
 r:f.tF.length<=1000000
 l :∀x∈f.wF,x.Addr.ok=true
def Cv (b:C)(l:I kI):I kI:=cond b (l.map wd) l
def fw (b:C)(l:I kI):(Cv b l).length=l.length:=by cases b<;>simp[Cv]
def YJ (p:I oF):Int:=cond (Ir p).2 (Ir p).1 (-1)
def rk (f:vV)(h:C):we:=⟨f.we.ph,Cv h f.we.pk⟩
def b1 (p:lf)(r:oA):C:=!(PK r.gE.Path).2 || ((PK r.gE.Path).1 !=p.tS)
def b2 (p:lf)(r:oA):C:=!(p.oT.any λx=>Addr.wa r.gE.Next x)
def b3 (f:vV)(r:oA):C:=decide (fU r.gE.Path>f.xl)
def yJ (f:vV)(r:oA):C:=(IG r.gE.Path).any λx=>f.yM==x
def b5 (r:oA):C:=r.gE.Path.any λs=>s.Set
def pv (f:vV)(n:Int):C:=f.vh.any λs=>decide (s.vY<=n)&&decide (n<=s.To)
def b6 (f:vV)(r:oA):C:=(IG r.gE.Path).any (pv f)
def Cg (l:I Int)(n:Int):C:=l.any λx=>n==x
def fr (f:vV)(p:lf)(n:Int):C:=(n !=p.tS)&&Cg f.wm n
def b7 (f:vV)(p:lf)(r:oA):C:=!(Cg f.wm p.tS)&&(IG r.gE.Path).any (fr f p)
def b8 (p:lf)(r:oA):C:=ZS p.tS r.gE
def b9 (f:vV)(r:oA):C:=f.wF.any λx=>yg x r.fI || yg r.fI x
def yK (f:vV)(r:oA):C:=f.vt.any λx=>yg x r.fI
def zU (f:vV)(r:oA)(h:C):C:=
 cond h (decide (r.fI.vg<cond r.fI.Addr.V6 f.wY f.wW)) (!(decide (cond r.fI.Addr.V6 f.xr f.xu<=r.fI.vg)&&decide (r.fI.vg<=cond r.fI.Addr.V6 f.tv f.tb)))
def zb (f:vV)(p:lf)(r:oA)(h:C):C:=fq (rk f h) p.tS p.Set r.fI (YJ r.gE.Path) !=0
def zp (f:vV)(r:oA)(h:C):C:=MT (Cv h f.tF) r.fI (YJ r.gE.Path)==2
def H2 (f:vV)(p:lf)(r:oA):I (Int×C):=
 [(2,b1 p r),(3,b2 p r),(4,b3 f r),(5,yJ f r),(6,b5 r),(7,b6 f r),(8,b7 f p r),(9,b8 p r),(10,b9 f r),(11,yK f r),(12,zU f r (EA r.gE)),(13,zb f p r (EA r.gE)),(14,zp f r (EA r.gE))]
def fs:I (Int×C)->I Int
 | []=>[]
 | (k,b)::t=>ad b k++fs t
def Jo (r:oA):C:=CU r.fI&&(EY r.gE&&((r.gE.gO !=-1)&&(!(r.gE.Path.isEmpty)&&(!(Addr.wa r.gE.Next ⟨false,0,0⟩)&&(r.gE.Next.V6==r.fI.Addr.V6)))))
def TX (f:vV)(p:lf)(r:oA):I Int:=cond (Jo r) (fs (H2 f p r)) [1]
def aD {r:oA}(h:Jo r=true):yG r.gE:=by unfold Jo at h;rw[X27,X27] at h;exact yG.of h.2.1
def iT {r:oA}(h:xH r.gE):Gq r=some (Jo r):=by
 unfold Gq Jo;rw[DG,AC,AA,MY h,AA];have e:decide ((r.gE.Path.length:Int)>0)=!(r.gE.Path.isEmpty):=by
  cases r.gE.Path with
  | nil=>rfl
  | cons _ _=>simp
 rw[e];generalize (r.gE.Path.isEmpty)=c;generalize (r.gE.gO !=-1)=d;generalize (Addr.wa r.gE.Next ⟨false,0,0⟩)=g;cases CU r.fI
 ·rfl
 cases EY r.gE
 ·rfl
 cases d
 ·rfl
 cases c
 ·cases g<;>rfl
 rfl
def rG {r:oA}(h:xH r.gE):LN r=some (!Jo r):=by
 unfold LN Jo;rw[Du,AC,AA,OK h,AA,V5];have e:(r.gE.gO==-1)=!(r.gE.gO !=-1):=by rw[bne,Bool.not_not]
 rw[e];generalize (r.gE.Path.isEmpty)=c;generalize (r.gE.gO !=-1)=d;generalize (Addr.wa r.gE.Next ⟨false,0,0⟩)=g;generalize (r.gE.Next.V6==r.fI.Addr.V6)=q;cases CU r.fI
 ·rfl
 cases EY r.gE
 ·rfl
 cases d
 ·rfl
 cases c
 ·cases g<;>cases q<;>rfl
 rfl
section
variable {x:vZ}
def tJ (h:yG x.r.gE):Ek x=some (b1 x.p x.r,x):=by unfold Ek b1;rw[Tn (by have:=h.p;omega) (by have:=h.t;omega),AA];generalize PK x.r.gE.Path=q;obtain⟨u,v⟩:=q;dsimp only;rw[AC];cases v<;>rfl
def Fw:Eu x=some (b2 x.p x.r,x):=by unfold Eu b2;rw[Xp,AA]
def sx:Ej x=some (b3 x.f x.r,x):=by unfold Ej b3;rw[LI,AA]
def tR (hp:x.path=IG x.r.gE.Path):Et x=some (yJ x.f x.r,x):=by unfold Et yJ;rw[JF,AA,hp]
def t7:Ee x=some (b5 x.r,x):=by unfold Ee b5;rw[YR,AA]
def Mx (s:wz)(n:Int):BO s n=some (decide (s.vY<=n)&&decide (n<=s.To),n):=by unfold BO;rw[IN,AA]
def hM (l:I wz)(n:Int):AP l n=some (l.any λs=>decide (s.vY<=n)&&decide (n<=s.To),n):=by
 unfold AP Ai;simp only[AC];have key :∀(l:I wz) (i:Nat),AI (σ:=Int) (λv2=>some ((-1:Int),v2)) (λF (M:wz) P v2=>Wb (BO M v2) λ(v6,K)=>if v6=true then some ((P:Int),K) else F K) l i n
   = some (match l.findIdx? (λs=>decide (s.vY<=n)&&decide (n<=s.To)) with|some j=>((i+j:Nat):Int)|none=>-1,n):=by
  intro l;induction l with
  | nil=>intro i;rfl
  | cons s t Q=>
   intro i;show Wb (BO s n) _=_;rw[Mx,AA,List.findIdx?_cons];show (if (decide (s.vY<=n)&&decide (n<=s.To))=true then some ((i:Int),n) else AI _ _ t (i+1) n)=_;by_cases H:(decide (s.vY<=n)&&decide (n<=s.To))=true
   ·rw[Wr H,Wr H];simp
   rw[Wm H,Wm H,Q (i+1)];cases t.findIdx? (λs=>decide (s.vY<=n)&&decide (n<=s.To)) with
   | none=>rfl
   | some j=>simp only[Xbf];rw[show i+1+j=i+(j+1) by omega]
 rw[key l 0,AA];dsimp only;congr 2;cases J:l.findIdx? (λs=>decide (s.vY<=n)&&decide (n<=s.To)) with
 | none=>
  rw[List.findIdx?_eq_none_iff] at J;have:(l.any λs=>decide (s.vY<=n)&&decide (n<=s.To))=false:=by rw[List.any_eq_false];intro s U;rw[J s U];simp
  rw[this];rfl
 | some j=>obtain⟨V,H,_⟩:=List.findIdx?_eq_some_iff_getElem.1 J;have:(l.any λs=>decide (s.vY<=n)&&decide (n<=s.To))=true:=List.any_eq_true.2 ⟨_,Xae V,H⟩;rw[this];simp
def sZ (hp:x.path=IG x.r.gE.Path):CH x=some (b6 x.f x.r,x):=by unfold CH b6;rw[hp];refine (oa (q:=pv x.f) (λn k=>Wb (AP x.f.vh n) λ(F,_)=>k F) (K:=λv=>some (v,x)) λn _ k=>?_);rw[hM,AA];rfl
def s7 (hp:x.path=IG x.r.gE.Path):C7 x=some (b7 x.f x.p x.r,x):=by
 unfold C7 b7;rw[JF,AA,hp];show (if Cg x.f.wm x.p.tS=true then _ else _)=_;cases Cg x.f.wm x.p.tS
 ·rw[Wm (by simp)];refine (oa (q:=fr x.f x.p) (λn k=>AB (τ:=C) (λJ=>if (n !=x.p.tS)=true then Wb (Aw x.f.wm n) λF=>J (cond true F false) else J false) λH=>k H) (K:=λv=>some (v,x)) λn _ k=>?_);rw[AC,JF,AA];unfold fr;cases (n !=x.p.tS)<;>rfl
 rfl
def sh (h:yG x.r.gE):Eh x=some (b8 x.p x.r,x):=by unfold Eh b8;obtain⟨r,e,F⟩:=dC (n:=x.p.tS) h;rw[e,AA,<- F]
def rp:Eg x=some (b9 x.f x.r,x):=by unfold Eg b9;refine (oa (q:=λy=>yg y x.r.fI || yg x.r.fI y) (λy k=>AB (τ:=C) (λJ=>Wb (Br y x.r.fI) λM=>if M=true then J true else Wb (Br x.r.fI y) λF=>J (cond false true F)) λH=>k H) (K:=λv=>some (v,x)) λy _ k=>?_);rw[AC,Ep,Ep,AA,AA];cases yg y x.r.fI<;>rfl
def qH:En x=some (yK x.f x.r,x):=by unfold En yK;refine (oa (q:=λy=>yg y x.r.fI) (λy k=>Wb (Br y x.r.fI) λF=>k F) (K:=λv=>some (v,x)) λy _ k=>?_);rw[Ep,AA]
def rZ:CW x=some (zU x.f x.r x.hole,x):=by
 unfold CW zU;have key :∀F H J:Int,(if x.hole=true then some (decide (x.r.fI.vg<J),x) else Wb (BK x.r.fI.vg F H) λK=>some (!K,x))=some (cond x.hole (decide (x.r.fI.vg<J)) (!(decide (F<=x.r.fI.vg)&&decide (x.r.fI.vg<=H))),x):=by intro F H J;rw[IN,AA];cases x.hole<;>rfl
 rw[AC];cases x.r.fI.Addr.V6
 ·exact key _ _ _
 exact key _ _ _
def ru {ρ:Type}{L:I kI}{b:C}{K:I kI->O ρ}(H:L.length<=1000000):AB (τ:=I kI) (λF=>if b=true then Wb (FD L) λv2=>F v2 else F L) K=K (Cv b L):=by rw[AC,Tu H];cases b<;>rfl
def qJ (h:Co x.f)(F:x.p.Set.size<=Xb3)(H:x.origin=YJ x.r.gE.Path):Ed x=some (zb x.f x.p x.r x.hole,x):=by unfold Ed zb rk;rw[ru h.o,H,(ZQ (r:=⟨x.f.we.ph,Cv x.hole x.f.we.pk⟩) h.s F).1,AA]
def ql (h:Co x.f)(F:x.origin=YJ x.r.gE.Path):ED x=some (zp x.f x.r x.hole,x):=by unfold ED zp;rw[ru h.r,F,kL (by rw[fw];exact h.r),AA];rfl
end
def KE (m:Int)(out:I Int)(u:Int×C):I Int:=cond (decide ((out.length:Int)<m)&&u.2) (out++[u.1]) out
def UK (m:Nat) :∀(l:I (Int×C)) (out:I Int),out.length<=m->l.foldl (KE m) out=(out++fs l).take m
 | [],out,h=>by rw[List.foldl_nil];show out=(out++[]).take m;rw[Xaj,List.take_of_length_le h]
 | (k,b)::t,out,h=>by
  rw[Xbh];unfold KE;show List.foldl (KE m) (cond (decide ((out.length:Int)<m)&&b) (out++[k]) out) t=(out++(ad b k++fs t)).take m;by_cases hm:out.length<m
  ·rw[Wz (by omega:(out.length:Int)<m)];cases b
   ·show List.foldl (KE m) out t=(out++([]++fs t)).take m;rw[UK m t out h,Xay]
   show List.foldl (KE m) (out++[k]) t=(out++([k]++fs t)).take m;rw[UK m t _ (by simp;omega),Xak]
  rw[Xa5 (by omega:¬ (out.length:Int)<m)];show List.foldl (KE m) out t=_;rw[UK m t out h,List.take_append_of_le_length (by omega),List.take_append_of_le_length (by omega)]
end Go.AX.Q25
end
section
namespace Go.AX.Q25
open Go Go.AX
def bQ {ρ:Type}{body:(vZ×I Int->O ρ)->xN->Nat->vZ×I Int->O ρ}{K:vZ×I Int->O ρ}{x:vZ}{m:Nat}{c1 c2 c3 c4 c5 c6 c7 c8 c9 c10 c11 c12 c13:C} (P :∀next j out,body next ⟨2,245⟩ j (x,out)=next (x,KE m out (2,c1))) (Q :∀next j out,body next ⟨3,247⟩ j (x,out)=next (x,KE m out (3,c2))) (U :∀next j out,body next ⟨4,249⟩ j (x,out)=next (x,KE m out (4,c3))) (V :∀next j out,body next ⟨5,251⟩ j (x,out)=next (x,KE m out (5,c4))) (Y :∀next j out,body next ⟨6,253⟩ j (x,out)=next (x,KE m out (6,c5))) (Z :∀next j out,body next ⟨7,256⟩ j (x,out)=next (x,KE m out (7,c6))) (h7 :∀next j out,body next ⟨8,257⟩ j (x,out)=next (x,KE m out (8,c7))) (h8 :∀next j out,body next ⟨9,258⟩ j (x,out)=next (x,KE m out (9,c8))) (h9 :∀next j out,body next ⟨10,260⟩ j (x,out)=next (x,KE m out (10,c9))) (F :∀next j out,body next ⟨11,263⟩ j (x,out)=next (x,KE m out (11,c10))) (H :∀next j out,body next ⟨12,265⟩ j (x,out)=next (x,KE m out (12,c11))) (J :∀next j out,body next ⟨13,266⟩ j (x,out)=next (x,KE m out (13,c12))) (M :∀next j out,body next ⟨14,269⟩ j (x,out)=next (x,KE m out (14,c13))) : AI K body [⟨2,245⟩,⟨3,247⟩,⟨4,249⟩,⟨5,251⟩,⟨6,253⟩,⟨7,256⟩,⟨8,257⟩,⟨9,258⟩,⟨10,260⟩,⟨11,263⟩,⟨12,265⟩,⟨13,266⟩,⟨14,269⟩] 0 (x,[]) = K (x,[(2,c1),(3,c2),(4,c3),(5,c4),(6,c5),(7,c6),(8,c7),(9,c8),(10,c9),(11,c10),(12,c11),(13,c12),(14,c13)].foldl (KE m) []):=by have e :∀(u:xN) (t:I xN) (i:Nat) (s:vZ×I Int),AI K body (u::t) i s=body (AI K body t (i+1)) u i s:=λ_ _ _ _=>rfl;rw[e,P,e,Q,e,U,e,V,e,Y,e,Z,e,h7,e,h8,e,h9,e,F,e,H,e,J,e,M];rfl
def after {ρ:Type}{x:vZ}{m:Nat}(M:m<=1000){b c:C}{k:Int}{out:I Int}{next:vZ×I Int->O ρ}(K:c=decide ((out.length:Int)<m)) : (if c=true then AB (τ:=I Int) (λF=>if b=true then Wb (gN (α:=Int) 8 out ([k]:I Int)) λH=>F H else F out) (λJ=>next (x,J)) else next (x,out))=next (x,KE m out (k,b)):=by
 unfold KE;subst K;by_cases h:(out.length:Int)<m
 ·rw[Wz h,Wr rfl,Qu (by omega)];cases b
  ·show next (x,out++[])=next (x,out)
   rw[Xaj]
  rfl
 rw[Xa5 h,Wm (by simp)];rfl
def dz {f:vV}{p:lf}{r:oA}{m:Nat}(H:m<=1000)(Y:Co f)(hp:p.Set.size<=Xb3)(J:xH r.gE) : Fz f p r (m:Int)=some (cond (Jo r) ((fs (H2 f p r)).take m) [1]):=by
 unfold Fz;rw[iT J,AA];cases M:Jo r
 ·rfl
 have J:=aD M;rw[Wm (by simp),OH (by have:=J.t;omega),AA,VW,AA,SX (by have:=J.p;omega) (by have:=J.t;omega),AA];have ho :∀(K:Int->O (I Int)),(match Ir r.gE.Path with|(v4,v5)=>AB (τ:=Int) (λZ=>if v5=true then Z v4 else Z (-1)) K)=K (YJ r.gE.Path):=by intro K;unfold YJ;generalize Ir r.gE.Path=q;obtain⟨u,v⟩:=q;dsimp only;rw[AC];cases v<;>rfl
 refine (ho _).trans ?_;unfold Jc;rw[AA];simp only[AC];let x:vZ:=⟨f,p,r,IG r.gE.Path,YJ r.gE.Path,EA r.gE⟩;have q1:Ek x=some (b1 p r,x):=tJ J;have q2:Eu x=some (b2 p r,x):=Fw;have q3:Ej x=some (b3 f r,x):=sx;have q4:Et x=some (yJ f r,x):=tR rfl;have q5:Ee x=some (b5 r,x):=t7;have q6:CH x=some (b6 f r,x):=sZ rfl;have q7:C7 x=some (b7 f p r,x):=s7 rfl;have q8:Eh x=some (b8 p r,x):=sh J;have q9:Eg x=some (b9 f r,x):=rp;have P:En x=some (yK f r,x):=qH;have Q:CW x=some (zU f r (EA r.gE),x):=rZ;have U:Ed x=some (zb f p r (EA r.gE),x):=qJ Y hp rfl;have V:ED x=some (zp f r (EA r.gE),x):=ql Y rfl;refine (bQ (x:=x) (m:=m) (c1:=b1 p r) (c2:=b2 p r) (c3:=b3 f r) (c4:=yJ f r) (c5:=b5 r) (c6:=b6 f r) (c7:=b7 f p r) (c8:=b8 p r) (c9:=b9 f r) (c10:=yK f r) (c11:=zU f r (EA r.gE)) (c12:=zb f p r (EA r.gE)) (c13:=zp f r (EA r.gE)) ?_ ?_ ?_ ?_ ?_ ?_ ?_ ?_ ?_ ?_ ?_ ?_ ?_).trans ?_
 ·intro next j out
  refine Xev ?_ (after (x:=x) H rfl);by_cases F:decide ((out.length:Int)<m)=true
  ·rw[Wr F,Wr F,Wr (by rfl),q1,AA];rfl
  rw[Wm F,Wm F];rfl
 ·intro next j out
  refine Xev ?_ (after (x:=x) H rfl);by_cases F:decide ((out.length:Int)<m)=true
  ·rw[Wr F,Wr F,Wm (by decide),Wr (by rfl),q2,AA];rfl
  rw[Wm F,Wm F];rfl
 ·intro next j out
  refine Xev ?_ (after (x:=x) H rfl);by_cases F:decide ((out.length:Int)<m)=true
  ·rw[Wr F,Wr F,Wm (by decide),Wm (by decide),Wr (by rfl),q3,AA];rfl
  rw[Wm F,Wm F];rfl
 ·intro next j out
  refine Xev ?_ (after (x:=x) H rfl);by_cases F:decide ((out.length:Int)<m)=true
  ·rw[Wr F,Wr F,Wm (by decide),Wm (by decide),Wm (by decide),Wr (by rfl),q4,AA];rfl
  rw[Wm F,Wm F];rfl
 ·intro next j out
  refine Xev ?_ (after (x:=x) H rfl);by_cases F:decide ((out.length:Int)<m)=true
  ·rw[Wr F,Wr F,Wm (by decide),Wm (by decide),Wm (by decide),Wm (by decide),Wr (by rfl),q5,AA];rfl
  rw[Wm F,Wm F];rfl
 ·intro next j out
  refine Xev ?_ (after (x:=x) H rfl);by_cases F:decide ((out.length:Int)<m)=true
  ·rw[Wr F,Wr F,Wm (by decide),Wm (by decide),Wm (by decide),Wm (by decide),Wm (by decide),Wr (by rfl),q6,AA];rfl
  rw[Wm F,Wm F];rfl
 ·intro next j out
  refine Xev ?_ (after (x:=x) H rfl);by_cases F:decide ((out.length:Int)<m)=true
  ·rw[Wr F,Wr F,Wm (by decide),Wm (by decide),Wm (by decide),Wm (by decide),Wm (by decide),Wm (by decide),Wr (by rfl),q7,AA];rfl
  rw[Wm F,Wm F];rfl
 ·intro next j out
  refine Xev ?_ (after (x:=x) H rfl);by_cases F:decide ((out.length:Int)<m)=true
  ·rw[Wr F,Wr F,Wm (by decide),Wm (by decide),Wm (by decide),Wm (by decide),Wm (by decide),Wm (by decide),Wm (by decide),Wr (by rfl),q8,AA];rfl
  rw[Wm F,Wm F];rfl
 ·intro next j out
  refine Xev ?_ (after (x:=x) H rfl);by_cases F:decide ((out.length:Int)<m)=true
  ·rw[Wr F,Wr F,Wm (by decide),Wm (by decide),Wm (by decide),Wm (by decide),Wm (by decide),Wm (by decide),Wm (by decide),Wm (by decide),Wr (by rfl),q9,AA];rfl
  rw[Wm F,Wm F];rfl
 ·intro next j out
  refine Xev ?_ (after (x:=x) H rfl);by_cases F:decide ((out.length:Int)<m)=true
  ·rw[Wr F,Wr F,Wm (by decide),Wm (by decide),Wm (by decide),Wm (by decide),Wm (by decide),Wm (by decide),Wm (by decide),Wm (by decide),Wm (by decide),Wr (by rfl),P,AA];rfl
  rw[Wm F,Wm F];rfl
 ·intro next j out
  refine Xev ?_ (after (x:=x) H rfl);by_cases F:decide ((out.length:Int)<m)=true
  ·rw[Wr F,Wr F,Wm (by decide),Wm (by decide),Wm (by decide),Wm (by decide),Wm (by decide),Wm (by decide),Wm (by decide),Wm (by decide),Wm (by decide),Wm (by decide),Wr (by rfl),Q,AA];rfl
  rw[Wm F,Wm F];rfl
 ·intro next j out
  refine Xev ?_ (after (x:=x) H rfl);by_cases F:decide ((out.length:Int)<m)=true
  ·rw[Wr F,Wr F,Wm (by decide),Wm (by decide),Wm (by decide),Wm (by decide),Wm (by decide),Wm (by decide),Wm (by decide),Wm (by decide),Wm (by decide),Wm (by decide),Wm (by decide),Wr (by rfl),U,AA];rfl
  rw[Wm F,Wm F];rfl
 ·intro next j out
  refine Xev ?_ (after (x:=x) H rfl);by_cases F:decide ((out.length:Int)<m)=true
  ·rw[Wr F,Wr F,Wm (by decide),Wm (by decide),Wm (by decide),Wm (by decide),Wm (by decide),Wm (by decide),Wm (by decide),Wm (by decide),Wm (by decide),Wm (by decide),Wm (by decide),Wm (by decide),Wr (by rfl),V,AA];rfl
  rw[Wm F,Wm F];rfl
 have:=UK m (H2 f p r) [] (by simp);rw[Xay] at this;rw[show ([(2,b1 p r),(3,b2 p r),(4,b3 f r),(5,yJ f r),(6,b5 r),(7,b6 f r),(8,b7 f p r),(9,b8 p r),(10,b9 f r),(11,yK f r),(12,zU f r (EA r.gE)),(13,zb f p r (EA r.gE)),(14,zp f r (EA r.gE))]:I (Int×C))=H2 f p r from rfl,this];rfl
def zu (f:vV)(p:lf)(r:oA):Int:=(TX f p r).headD 0
def j4 {f:vV}{p:lf}{r:oA}(F:Co f)(hp:p.Set.size<=Xb3)(H:xH r.gE):Hm f p r=some (zu f p r):=by
 unfold Hm zu TX;have h:=dz (m:=1) (by decide) F hp H;refine (Xa4 (λm=>Wb m λv1=>if (decide ((v1.length:Int)>0))=true then Wb (mu v1 0) λv2=>some v2 else some 0) h).trans ?_;rw[AA];cases Jo r
 ·rfl
 show (if (decide ((((fs (H2 f p r)).take 1).length:Int)>0))=true then Wb (mu ((fs (H2 f p r)).take 1) 0) λv2=>some v2 else some 0)=some ((fs (H2 f p r)).headD 0);cases fs (H2 f p r) with
 | nil=>rfl
 | cons x t=>rw[List.take_succ_cons,List.take_zero,Wr (by simp),LH,AA];rfl
def Ps {ρ:Type}{a b:C}{K:C->O ρ}:AB (τ:=C) (λF=>if (!a)=true then F true else F (cond false true b)) K=K (!a || b):=by rw[AC];cases a<;>rfl
def DW {l:I Int}{n:Nat}(h:l.length<=n)(b:C)(k:Int):(l++ad b k).length<=n+1:=by have:=rI b k;rw[X11];omega
def ll {f:vV}{p:lf}(l:I Int)(a b:C):l.foldl (λ(s:C×C) n=>(s.1 || pv f n,s.2 || (!(Cg f.wm p.tS)&&fr f p n))) (a,b)=(a || l.any (pv f),b || (!(Cg f.wm p.tS)&&l.any (fr f p))):=by
 induction l generalizing a b with
 | nil=>simp
 | cons n t F=>rw[Xbh,F,Xdz,Xdz];cases a<;>cases b<;>cases pv f n<;>cases fr f p n<;>cases Cg f.wm p.tS<;>simp
def jQ {f:vV}{p:lf}{r:oA}(Y:yG r.gE) : Hn f p r.gE=some ([]++ad (b1 p r) 2++ad (b2 p r) 3++ad (b3 f r) 4++ad (yJ f r) 5++ad (b5 r) 6++ad (b6 f r) 7++ad (b7 f p r) 8++ad (b8 p r) 9):=by
 have l0:([]:I Int).length<=0:=Xam _;have l1:=DW l0 (b1 p r) 2;have l2:=DW l1 (b2 p r) 3;have l3:=DW l2 (b3 f r) 4;have l4:=DW l3 (yJ f r) 5;have l5:=DW l4 (b5 r) 6;have l6:=DW l5 (b6 f r) 7;have l7:=DW l6 (b7 f p r) 8;unfold Hn;rw[Vd (by have:=Y.p;omega) (by have:=Y.t;omega),AA];obtain⟨u,v,hq⟩ :∃u v,PK r.gE.Path=(u,v):=⟨_,_,rfl⟩;have e1:(!v || (u !=p.tS))=b1 p r:=by unfold b1;rw[hq]
 rw[hq];show AB (τ:=C) (λk3=>if (!v)=true then k3 true else k3 (cond false true (u !=p.tS))) _=_;rw[Ps,e1,Qu (by omega)];refine (Fu (q:=λx=>Addr.wa x r.gE.Next) (λx k=>k (cond false true (Addr.wa x r.gE.Next))) (λ_ _ _=>rfl) false).trans ?_;have e2:(!(false || p.oT.any λx=>Addr.wa x r.gE.Next))=b2 p r:=by unfold b2;rw[Bool.false_or,Qw jE]
 rw[e2,Qu (by omega),TW,AA];show AB (τ:=I Int) (λZ=>if b3 f r=true then _ else _) _=_;rw[Qu (by omega),YN (by have:=Y.t;omega),AA];show AB (τ:=I Int) (λZ=>if yJ f r=true then _ else _) _=_;rw[Qu (by omega)];refine (Fu (q:=λx:oF=>x.Set) (λx k=>k (cond false true x.Set)) (λ_ _ _=>rfl) false).trans ?_;rw[K0 (by have:=Y.t;omega),AA];have hl :∀(K:C×C->O (I Int)),AB (τ:=C×C) (λa1=>AI (σ:=C×C) (λ(v37,P)=>a1 (v37,P)) (λF (H:Int) i41 (v37,P)=>AB (τ:=C×C) (λa6=>AB (τ:=C) (λa7=>AI (σ:=C) (λQ=>a7 Q ) (λJ (V:wz) i47 Q=>AB (τ:=C) (λU=>if Q then U true else if (decide (H≥V.vY)) then U (cond false true (cond true (decide (H<=V.To)) false)) else U false ) λa8=>J a8 ) f.vh 0 v37 ) λaa=>AB (τ:=C) (λM=>if P then M true else if (H !=p.tS) then Wb (HV f.wm H) λab=>if (cond true ab false) then Wb (HV f.wm p.tS) λae=>M (cond false true (cond true (!ae) false)) else M false else M false ) λaf=>a6 (aa,af) ) λ(v55,ag)=>F (v55,ag)) (IG r.gE.Path) 0 (false,false)) K=K (b6 f r,b7 f p r):=by
  intro K;rw[AC];refine (VO (K:=λs:C×C=>K (s.1,s.2)) (λ(s:C×C) n=>(s.1 || pv f n,s.2 || (!(Cg f.wm p.tS)&&fr f p n))) (λ_ _=>True) (λ_ _ _ _=>trivial) (IG r.gE.Path) 0 (false,false) (λnext n j s _ _ _=>?_) trivial).trans ?_
  ·obtain⟨a,b⟩:=s;dsimp only;rw[AC];refine (Fu (q:=λs:wz=>decide (s.vY<=n)&&decide (n<=s.To)) (λs k=>if (decide (n≥s.vY))=true then k (cond false true (cond true (decide (n<=s.To)) false)) else k false) (λs _ k=>?_) a).trans ?_
   ·by_cases h1:s.vY<=n
    ·rw[Wr (by simpa using h1),Wz h1];rfl
    rw[Wm (by simpa using h1),Xa5 h1];rfl
   rw[AC,Qb,Qb,AA,AA];unfold fr Cg;show _=next (a || pv f n,_)
   unfold pv;cases b
   ·cases (n !=p.tS)
    ·simp
    cases (f.wm.any λx=>n==x)
    ·simp
    cases (f.wm.any λx=>p.tS==x)<;>rfl
   simp
  rw[ll];rfl
 refine (hl _).trans ?_;dsimp only;show AB (τ:=I Int) (λah=>if b5 r=true then _ else _) _=_;rw[Qu (by omega),Qu (by omega),Qu (by omega)];obtain⟨⟨c,d⟩,e,he⟩:=Rr (n:=p.tS) (a:=r.gE);rw[e,AA];dsimp only at he⊢;have e8:(d==30)=b8 p r:=he;rw[e8,Qu (by omega)]
def ov {f:vV}{r:oA}:Jp f r=some (zU f r (EA r.gE)):=by
 unfold Jp zU;rw[AC,O2];have key :∀F H J:Int,(if EA r.gE=true then some (decide (r.fI.vg<J)) else AB (τ:=C) (λK=>if decide (r.fI.vg<F)=true then K true else K (cond false true (decide (r.fI.vg>H)))) λP=>some P)=some (cond (EA r.gE) (decide (r.fI.vg<J)) (!(decide (F<=r.fI.vg)&&decide (r.fI.vg<=H)))):=by
  intro F H J;cases EA r.gE
  ·rw[Wm (by simp),AC];by_cases h1:r.fI.vg<F
   ·rw[Wr (by simpa using h1),Xa5 (p:=F<=r.fI.vg) (by omega)];rfl
   rw[Wm (by simpa using h1),Wz (p:=F<=r.fI.vg) (by omega)];by_cases M:r.fI.vg>H
   ·rw[Wz M,Xa5 (p:=r.fI.vg<=H) (by omega)];rfl
   rw[Xa5 M,Wz (p:=r.fI.vg<=H) (by omega)];rfl
  rfl
 cases r.fI.Addr.V6
 ·exact key _ _ _
 exact key _ _ _
def jJ {f:vV}{p:lf}{r:oA}(M:Co f)(hp:p.Set.size<=Xb3)(P:xH r.gE):LU f p r=some (TX f p r):=by
 unfold LU TX;rw[rG P,AA];cases F:Jo r
 ·rfl
 have P:=aD F;have H:r.fI.Addr.ok=true:=by unfold Jo at F;rw[X27] at F;exact ((Jj _).1 F.1).1
 have l0:([]:I Int).length<=0:=Xam _;have l1:=DW l0 (b1 p r) 2;have l2:=DW l1 (b2 p r) 3;have l3:=DW l2 (b3 f r) 4;have l4:=DW l3 (yJ f r) 5;have l5:=DW l4 (b5 r) 6;have l6:=DW l5 (b6 f r) 7;have l7:=DW l6 (b7 f p r) 8;have l8:=DW l7 (b8 p r) 9;have l9:=DW l8 (b9 f r) 10;have V:=DW l9 (yK f r) 11;have Y:=DW V (zU f r (EA r.gE)) 12;have aa:=DW Y (zb f p r (EA r.gE)) 13;rw[Wm (by simp),jQ P,AA];refine (Fu (q:=λx=>yg x r.fI || yg r.fI x) (λx k=>Wb (Bj x r.fI) λv9=>if (cond false true v9)=true then k true else Wb (Bj r.fI x) λZ=>k (cond false true Z)) (λx hx k=>?_) false).trans ?_
 ·rw[FQ H,FQ (M.l x hx),AA,AA];cases yg x r.fI<;>rfl
 refine (Fu (q:=λx=>yg x r.fI) (λx k=>Wb (Bj x r.fI) λa1=>k (cond false true a1)) (λx _ k=>?_) false).trans ?_
 ·rw[FQ H,AA];rfl
 show AB (τ:=I Int) (λJ=>if b9 f r=true then _ else _) _=_;rw[Qu (by omega)];show AB (τ:=I Int) (λJ=>if yK f r=true then _ else _) _=_;rw[Qu (by omega),ov,AA,Qu (by omega),O2,AA];have hw :∀(K:I kI×I kI->O (I Int)),AB (τ:=(I kI)×(I kI)) (λQ=>if EA r.gE=true then Wb (E2 f.we.pk) λa6=>Wb (E2 f.tF) λa7=>Q (a7,a6) else Q (f.tF,f.we.pk)) K=K (Cv (EA r.gE) f.tF,Cv (EA r.gE) f.we.pk):=by
  intro K;rw[AC];cases EA r.gE
  ·rfl
  rw[Wr rfl,NP M.o,AA,NP M.r,AA];rfl
 refine (hw _).trans ?_;dsimp only;rw[Tm (by have:=P.p;omega) (by have:=P.t;omega),AA];have ho :∀(K:Int->O (I Int)),(match Ir r.gE.Path with|(a8,v39)=>AB (τ:=Int) (λU=>if (!v39)=true then U (-1) else U a8) K)=K (YJ r.gE.Path):=by intro K;unfold YJ;generalize Ir r.gE.Path=q;obtain⟨u,v⟩:=q;dsimp only;rw[AC];cases v<;>rfl
 refine (ho _).trans ?_;rw[(ZQ (r:=(⟨f.we.ph,Cv (EA r.gE) f.we.pk⟩:we)) M.s hp).2,AA];show AB (τ:=I Int) (λJ=>if zb f p r (EA r.gE)=true then _ else _) _=_;rw[Qu (by omega),Um (by rw[fw];exact M.r) H,AA];show AB (τ:=I Int) (λJ=>if zp f r (EA r.gE)=true then _ else _) _=_;rw[Qu (by omega)];show some _=some (fs (H2 f p r));unfold H2;simp only[fs,Xak,Xay,Xaj]
def TM {f:vV}{p:lf}{r:oA}(F:Co f)(hp:p.Set.size<=Xb3)(H:xH r.gE):HI f p r=some (zu f p r):=by
 unfold HI zu;rw[jJ F hp H,AA];cases TX f p r with
 | nil=>rfl
 | cons x t=>rw[Wr (by simp),LH,AA];rfl
end Go.AX.Q25
end
