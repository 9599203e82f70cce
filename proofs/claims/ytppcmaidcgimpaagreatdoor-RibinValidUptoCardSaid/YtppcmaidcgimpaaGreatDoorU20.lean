/-
  Texts of one proof, packed.
-/
import Derived.Test.YtppcmaidcgimpaaGreatDoorU19
set_option linter.all false
set_option maxRecDepth 100000
set_option maxHeartbeats 4000000
open List renaming length_map→X10,length_append→X11,length_cons→X12,length_nil→X13,mem_singleton→X14,length_drop→X17,length_take→X18,length_replicate→X20,length_set→X21,length_singleton→X22,mem_append→X23
open Bool renaming and_eq_true→X27,eq_iff_iff→X28
open Option renaming bind→Wb
open Int renaming toNat→Wo,fdiv→Xas,tmod→Xed
open List renaming replicate→Xav
open BitVec renaming ofInt→Xa2
open Nat renaming ble→Xee
open UInt64 renaming ofNat→Xaq
open UInt8 renaming ofNat→Xbb
section
namespace Go.AX.Q25
open Go Go.AX
def YC (a b:Int):rv a b=some (bT a b):=by unfold rv cmp_isNaN_int bT;simp only[AA,Xd5,Xds,Xe7,Wd,gt_iff_lt];split<;>(try split)<;>rfl
def lv (l:I Int):FB l=some (zG l):=by
 unfold FB;rw[AC];have key :∀(l:I Int) (i:Nat),AI (σ:=Unit) (λ_=>some (0:Int)) (λnext x _ _=>if (x !=0)=true then some x else next ()) l i ()=some (zG l):=by
  intro l;induction l with
  | nil=>intro i;rfl
  | cons x t F=>intro i;show (if (x !=0)=true then some x else AI _ _ t (i+1) ())=_;rw[F];rw[aS];by_cases h:x=0<;>simp[h]
 exact key l 0
def oV (c:qv):I Int:=[c.A,c.B]
def oU (c:oB):I Int:=[c.A,c.B,c.C]
def lq (a b:qv):(oV a).length=(oV b).length:=rfl
def kC (a b:oB):(oU a).length=(oU b).length:=rfl
def ZZ:qv->qv->C:=xK oV
def Z5:oB->oB->C:=xK oU
def pF (a b c:qv)(F:ZZ a b=true)(H:ZZ b c=true):ZZ a c=true:=SY lq a b c F H
def nr (a b c:oB)(F:Z5 a b=true)(H:Z5 b c=true):Z5 a c=true:=SY kC a b c F H
def rc (a b:qv):qv.wa a b=true↔a=b:=by
 unfold qv.wa;simp only[X27,Xdb,Xbr];constructor
 ·rintro⟨F,H⟩;cases a;cases b;simp_all
 rintro rfl;exact⟨rfl,rfl⟩
def vI (a b:oB):oB.wa a b=true↔a=b:=by
 unfold oB.wa;simp only[X27,Xdb,Xbr];constructor
 ·rintro⟨F,H,J⟩;cases a;cases b;simp_all
 rintro rfl;exact⟨rfl,rfl,rfl⟩
def PJ (a b:qv):Hv a b=some (DV (oV a) (oV b)):=by unfold Hv;rw[YC,AA,YC,AA,lv,AA,fb,fb];rfl
def Qt (a b:oB):FI a b=some (DV (oU a) (oU b)):=by unfold FI;rw[YC,AA,YC,AA,YC,AA,lv,AA,fb,fb,fb];rfl
def jn (a b:qv):G4 a b=some (ZZ a b):=by unfold G4 ZZ xK oV;rw[AC];simp only[DV,Wd,Xbr,Xcq,Xcn];by_cases F:a.A < b.A<;>by_cases a2:a.A=b.A<;>by_cases a3:b.A < a.A<;>by_cases b1:a.B < b.B<;>by_cases b3:b.B < a.B<;>first|(exfalso;omega)|simp[F,a2,a3,b1,b3]
def lg (a b:oB):DK a b=some (Z5 a b):=by unfold DK Z5 xK oU;simp only[AC];simp only[DV,Wd,Xbr,Xcq,Xcn];by_cases F:a.A < b.A<;>by_cases a2:a.A=b.A<;>by_cases a3:b.A < a.A<;>by_cases b1:a.B < b.B<;>by_cases b2:a.B=b.B<;>by_cases b3:b.B < a.B<;>by_cases c1:a.C < b.C<;>by_cases H:b.C < a.C<;>first|(exfalso;omega)|simp[F,a2,a3,b1,b2,b3,c1,H]
def Ay (m x:Int):C:=decide (0<=x)&&decide (x<=m)
def Bb (c:qv):C:=Ay 65535 c.A&&Ay 65535 c.B
def DP (c:oB):Bool:=Ay 4294967295 c.A&&(Ay 4294967295 c.B&&Ay 4294967295 c.C)
def gg (c:qv):Fg c=some (Bb c):=by unfold Fg Bb Ay;rw[AC];simp only[Wd,Xcq,ge_iff_le];by_cases F:0<=c.A<;>by_cases a2:c.A<=65535<;>by_cases a3:0<=c.B<;>by_cases a4:c.B<=65535<;>simp[F,a2,a3,a4]
def ix (c:oB):Ce c=some (DP c):=by unfold Ce DP Ay;rw[AC];simp only[Wd,Xcq,ge_iff_le];by_cases F:0<=c.A<;>by_cases a2:c.A<=4294967295<;>by_cases a3:0<=c.B<;>by_cases a4:c.B<=4294967295<;>by_cases a5:0<=c.C<;>by_cases H:c.C<=4294967295<;>simp[F,a2,a3,a4,a5,H]
def Mq {g:Int->Int->Int}{x:Int}{t:I Int}(Q:t.length<=1000000000) : AB (τ:=Int) (λJ=>BD (σ:=Int×Int) (λF p=>match p with
   | (v4,v5)=>if (decide (v5<((x::t).length:Int)))=true then Wb (mu (x::t) v5) λK=>F (g v4 K,(AO (v5+1))) else J v4) tE (x,1)) (λv=>some v)=some (t.foldl g x):=by
 rw[AC];refine (Dq (λs:Int×Int=>∃j:Nat,s.2=(j+1:Nat)/\j<=t.length) (λs=>((x::t).length-s.2).toNat) (λs=>some ((t.drop (s.2.toNat-1)).foldl g s.1)) ?_ tE (x,1) ⟨0,rfl,Xd7 _⟩ (BW (by simp;omega))).trans rfl;rintro next ⟨m,i⟩ ⟨j,H,U⟩ M
 dsimp only at H;subst H;dsimp only;have e1:((j+1:Nat):Int).toNat-1=j:=by omega
 rw[e1];by_cases P:j<t.length
 ·rw[Wr (by simp only[X12,Wd];omega),BY (by simp;omega),AA,AG (by omega)];rw[M _ ⟨j+1,by simp,by omega⟩ (by simp only[X12];omega)];have e2:(((j+1:Nat):Int)+1).toNat-1=j+1:=by omega
  simp only[e2,List.getElem_cons_succ];rw[Xbp P,Xbh]
 rw[Wm (by simp only[X12,Wd];omega),List.drop_eq_nil_of_le (by omega)];rfl
def mn (a b:Int):Int:=if b<a then b else a
def mx (a b:Int):Int:=if b>a then b else a
def qn {x:Int}{t:I Int}(F:t.length<=1000000000):Dy (x::t)=some (t.foldl mn x):=by unfold Dy;rw[Wm (by simp;omega),show mu (x::t) 0=some x from BY (l:=x::t) (i:=0) (by simp),AA];exact Mq (g:=mn) F
def rV {x:Int}{t:I Int}(F:t.length<=1000000000):D2 (x::t)=some (t.foldl mx x):=by unfold D2;rw[Wm (by simp;omega),show mu (x::t) 0=some x from BY (l:=x::t) (i:=0) (by simp),AA];exact Mq (g:=mx) F
def j6 (n:Int) :∀(t:I Int) (x:Int),decide (n<=t.foldl mn x)=(x::t).all λy=>decide (n<=y)
 | [],x=>by rw[Xc3,List.all_nil,Xdb];rfl
 | y::t,x=>by
  rw[Xbh,j6 n t (mn x y)];simp only[Xc3];unfold mn;rw[X28];simp only[X27,Wd];constructor
  ·rintro⟨F,H⟩;split at F<;>exact⟨by omega,by omega,H⟩
  rintro⟨F,H,J⟩;split<;>exact⟨by omega,J⟩
def mM (n:Int) :∀(t:I Int) (x:Int),decide (t.foldl mx x<=n)=(x::t).all λy=>decide (y<=n)
 | [],x=>by rw[Xc3,List.all_nil,Xdb];rfl
 | y::t,x=>by
  rw[Xbh,mM n t (mx x y)];simp only[Xc3];unfold mx;rw[X28];simp only[X27,Wd];constructor
  ·rintro⟨F,H⟩;split at F<;>exact⟨by omega,by omega,H⟩
  rintro⟨F,H,J⟩;split<;>exact⟨by omega,J⟩
def Ua {m x:Int}{t:I Int}(H:t.length<=1000000000):Do m (x::t)=some ((x::t).all (Ay m)):=by
 unfold Do;rw[AC,qn H,AA,rV H];have e:(x::t).all (Ay m)=(decide (0<=t.foldl mn x)&&decide (t.foldl mx x<=m)):=by rw[j6,mM,X28,X27];simp only[Xa0,Ay,X27];exact⟨λh=>⟨λy F=>(h y F).1,λy F=>(h y F).2⟩,λh y F=>⟨h.1 y F,h.2 y F⟩⟩
 rw[e];by_cases h:0<=t.foldl mn x
 ·rw[Wr (by simpa using h),AA,Wz h];rfl
 rw[Wm (by simpa using h),Xa5 h];rfl
def lT (c:qv):GB c=some (Bb c):=by unfold GB;rw[Ua (by simp),AA];simp[Bb]
def kM (c:oB):DU c=some (DP c):=by unfold DU;rw[Ua (by simp),AA];simp[DP]
def IW (l:I qv):C:=l.all Bb&&vQ ZZ l&&decide (l.length<=64)
def Ib (l:I oB):C:=l.all DP&&vQ Z5 l&&decide (l.length<=64)
def py {X:Type}{key:X->I Int}(a b:X):decide (DV (key a) (key b)≥0)=!xK key a b:=by unfold xK;rw[X28];simp
def oC {α:Type}{ok:α->C}{lt:α->α->C}{l:I α}(U:l.length<=1000000000){body:(Unit->O C)->α->Nat->Unit->O C} (h :∀next x i,body next x i ()=AB (τ:=C) (λH=>Wb (some (ok x)) λJ=>if (!J)=true then H true else if (decide ((i:Int)>0))=true then Wb (mu l (AO ((i:Int)-1))) λK=>Wb (some (lt K x)) λM=>H (cond false true (cond true (!M) false)) else H false) λP=>if P=true then some false else next ()) :
  (AB (τ:=Unit) (λQ=>AI (σ:=Unit) (λ_=>Q ()) body l 0 ()) λ_=>some (decide ((l.length:Int)<=64)))=some (l.all ok&&vQ lt l&&decide (l.length<=64)):=by
 rw[AC,nt (ok:=ok) (lt:=lt) (F:=some false) (by omega)]
 ·have e:decide ((l.length:Int)<=64)=decide (l.length<=64):=by rw[X28];simp;omega
  rw[e];generalize (l.all ok&&vQ lt l)=b;cases b<;>rfl
 ·intro next x _
  rw[h,AC,AA];cases ok x<;>rfl
 intro next x y i _ _ hg
 rw[h,AC,AA,hg,AA,AA,Wr (show decide (((i+1:Nat):Int)>0)=true by simp)];cases ok x<;>cases lt y x<;>rfl
def UX {l:I qv}(F:l.length<=1000000000):HO l=some (IW l):=by unfold HO IW;exact oC F λnext x i=>by simp only[gg,jn]
def Oi {l:I oB}(F:l.length<=1000000000):Ds l=some (Ib l):=by unfold Ds Ib;exact oC F λnext x i=>by simp only[ix,lg]
def PM {l:I qv}(F:l.length<=1000000000):EI l=some (IW l):=by unfold EI Ae IW;rw[oC (ok:=Bb) (lt:=ZZ) F λnext x i=>by simp only[lT,PJ,AA,py];rfl];rfl
def Ld {l:I oB}(F:l.length<=1000000000):CJ l=some (Ib l):=by unfold CJ AW Ib;rw[oC (ok:=DP) (lt:=Z5) F λnext x i=>by simp only[kM,Qt,AA,py];rfl];rfl
def Jt {l:I qv}:IW l=true↔(∀c∈l,Bb c=true)/\(l.Pairwise λa b=>ZZ a b=true)/\l.length<=64:=by unfold IW;rw[X27,X27,ON pF,Xa0,Wd,Xes]
def Jq {l:I oB}:Ib l=true↔(∀c∈l,DP c=true)/\(l.Pairwise λa b=>Z5 a b=true)/\l.length<=64:=by unfold Ib;rw[X27,X27,ON nr,Xa0,Wd,Xes]
def pn {α:Type}{e:α->α->C}{x:α} :∀(l:I α) (i:Nat),AI (σ:=Unit) (λ_=>some false) (λ(next:Unit->O C) (y:α) _ _=>if e y x=true then some true else next ()) l i ()=some (l.any λy=>e y x)
 | [],_=>rfl
 | y::t,i=>by show (if e y x=true then some true else AI _ _ t (i+1) ())=_;rw[pn t (i+1),Xdz];cases e y x<;>rfl
def Xn (l:I qv)(c:qv):IX l c=some (l.any λy=>qv.wa y c):=by unfold IX;rw[AC];exact pn l 0
def Vk {α:Type}{l:I α}{n:Nat}(h:n<=l.length):part l 0 (n:Int)=some (l.take n):=by have:=Ls (l:=l) (a:=0) (b:=n) (by omega) h;simpa using this
def QH {α:Type}{l:I α}{n:Nat}(h:n<=l.length):part l (n:Int) (l.length:Int)=some (l.drop n):=by rw[Ls h (Xam _),List.take_of_length_le (by simp)]
def ko {α:Type}{b:Nat}{lt:α->α->C}{l:I α}{x:α}(H:Xee b 65536=true)(U:l.length+1<=1000000000){ρ:Type}{K:I α->O ρ} : (Wb (part l 0 ((l.takeWhile (lt · x)).length:Int)) λF=>Wb (gN (α:=α) b [] F) λ_=>Wb (gN (α:=α) b F ([x]:I α)) λJ=>Wb (part l ((l.takeWhile (lt · x)).length:Int) (l.length:Int)) λM=>Wb (gN (α:=α) b J M) K)=K (Kz lt l x):=by have V:=Dp (lt · x) l;obtain⟨P,Q⟩:=wH (lt · x) l;rw[Vk (by omega),AA,AD H (by simp;omega),AA,AD H (by simp;omega),AA,QH (by omega),AA,AD H (by simp;omega),AA,P,Q];unfold Kz;simp
end Go.AX.Q25
end
section
end
section
namespace Go.AX.Q25
open Go Go.AX
section
variable {ρ:Type} {F:O ρ} {next:Int×C×j×j×Int×Int×Int×(I oF)×(I qv)×(I oB)->O ρ} {x:gH} {a:gE}
end
end Go.AX.Q25
end
section
namespace Go.AX.Q25
open Go Go.AX
def Bv (n:Int):C:=decide (1<=n)&&decide (n<=4294967295)
def N4 (s:oF):C:=decide (s.o3.length≠0)&&(s.o3.all Bv&&vQ (λa b=>!s.Set || xF a b) s.o3)
def Gc (a b:oF):C:=b.Set || a.Set
def xm (p:I oF):Nat:=p.foldl (λn s=>n+s.o3.length) 0
def jo (p:I oF)(n:Nat):p.foldl (λn s=>n+s.o3.length) n=n+xm p:=by
 unfold xm;induction p generalizing n with
 | nil=>rfl
 | cons s t H=>rw[Xbh,Xbh,H,H (0+_)];omega
def Fe (s:oF)(p:I oF):xm (s::p)=s.o3.length+xm p:=by
 conv=>lhs;unfold xm
 rw[Xbh,jo];omega
def P0 {p:I oF}{s:oF}(h:s∈p):s.o3.length<=xm p:=by
 induction p with
 | nil=>simp at h
 | cons x t H=>
  rw[Fe];rcases Xa3.1 h with rfl|h
  ·omega
  have:=H h;omega
def Dc (p:I oF):C:=p.all N4&&vQ Gc p&&decide (xm p<=64)
def eX :∀(p:I oF) (n:Nat),n+xm p<=1000000000->p.foldl (λ(v:Int) s=>AO (v+(s.o3.length:Int))) (n:Int)=((n+xm p:Nat):Int)
 | [],n,_=>rfl
 | s::t,n,h=>by rw[Fe] at h;rw[Xbh,Fe,AG (by omega),show (n:Int)+(s.o3.length:Int)=((n+s.o3.length:Nat):Int) by omega,eX t _ (by omega)];congr 1;omega
def ij {s:oF}(Q:s.o3.length<=1000000000){K:Unit->O C}{body:(Unit->O C)->Int->Nat->Unit->O C} (P :∀next x i,body next x i ()=AB (τ:=C) (λH=>if (!Bv x)=true then H true else if s.Set=true then if (cond true (decide ((i:Int)>0)) false)=true then Wb (mu s.o3 (AO ((i:Int)-1))) λJ=>H (cond false true (cond true (decide (J≥x)) false)) else H false else H false) λM=>if M=true then some false else next ()) :
  AI K body s.o3 0 ()=if s.o3.all Bv&&vQ (λa b=>!s.Set || xF a b) s.o3 then K () else some false:=by
 refine nt (by omega) (λnext x _=>?_) λnext x y i _ _ hg=>?_
 ·rw[P,AC];cases Bv x<;>cases s.Set<;>rfl
 rw[P,AC,hg,AA];have e:decide (((i+1:Nat):Int)>0)=true:=by simp
 have e2:decide (y≥x)=!xF y x:=by unfold xF;rw[X28];simp
 rw[e,e2];cases Bv x<;>cases s.Set<;>cases xF y x<;>rfl
def XG {p:I oF}(hl:p.length<=1000000000)(ht:xm p<=1000000000){body:(Int->O C)->oF->Nat->Int->O C}{H:oF->(Unit->O C)->Int->Nat->Unit->O C} (hb :∀next x i v,body next x i v=AB (τ:=Unit) (λk6=>AB (τ:=C) (λU=>if ((x.o3.length:Int)==0)=true then U true else if (decide ((i:Int)>0))=true then if (cond true (!x.Set) false)=true then Wb (mu p (AO ((i:Int)-1))) λv8=>U (cond false true (cond true (!v8.Set) false)) else U false else U false) λv9=>if v9=true then some false else AB (τ:=Unit) (λV=>AI (σ:=Unit) (λ_=>V ()) (H x) x.o3 0 ()) λ_=>k6 ()) λ_=>next (AO (v+(x.o3.length:Int))))
  (hi :∀s next x i,H s next x i ()=AB (τ:=C) (λJ=>if (!Bv x)=true then J true else if s.Set=true then if (cond true (decide ((i:Int)>0)) false)=true then Wb (mu s.o3 (AO ((i:Int)-1))) λY=>J (cond false true (cond true (decide (Y≥x)) false)) else J false else J false) λZ=>if Z=true then some false else next ()) :
  (AB (τ:=Int) (λk1=>AI (σ:=Int) (λv=>k1 v) body p 0 0) λv=>some (decide (v<=64)))=some (Dc p):=by
 rw[AC];have Q :∀s∈p,∀K:Unit->O C,AI K (H s) s.o3 0 ()=if s.o3.all Bv&&vQ (λa b=>!s.Set || xF a b) s.o3 then K () else some false:=λs P K=>ij (by have:=P0 P;omega) (hi s);refine (t8 (g:=λ(v:Int) s=>AO (v+(s.o3.length:Int))) (ok:=N4) (lt:=Gc) (F:=some false) (by omega) (λnext x v hx=>?_) λnext x y i v hx _ hg=>?_).trans ?_
 ·rw[hb,AC,AC];unfold N4;by_cases M:x.o3.length=0
  ·have e:((x.o3.length:Int)==0)=true:=by simp[M]
   rw[Wr e];simp[M]
  have e:¬ ((x.o3.length:Int)==0)=true:=by simpa using M
  rw[Wm e,Wm (by simp)];show (if false=true then _ else _)=_;rw[Wm (by decide),AC,Q x hx];simp only[M,ne_eq,not_false_eq_true,decide_true,Xce]
 ·rw[hb,AC,AC,hg];unfold N4 Gc;by_cases M:x.o3.length=0
  ·have e:((x.o3.length:Int)==0)=true:=by simp[M]
   rw[Wr e];simp[M]
  have e:¬ ((x.o3.length:Int)==0)=true:=by simpa using M
  have e2:decide (((i+1:Nat):Int)>0)=true:=by simp
  rw[Wm e,Wr e2,AA,AC,Q x hx];simp only[M,ne_eq,not_false_eq_true,decide_true,Xce];generalize (x.o3.all Bv&&vQ (λa b=>!x.Set || xF a b) x.o3)=c;cases x.Set<;>cases y.Set<;>cases c<;>rfl
 have P:=eX p 0 (by omega);rw[Xbk] at P;have P:p.foldl (λ(v:Int) s=>AO (v+(s.o3.length:Int))) 0=(xm p:Int):=P;rw[P];unfold Dc;have e:decide ((xm p:Int)<=64)=decide (xm p<=64):=by rw[X28];simp;omega
 simp only[e];generalize (p.all N4&&vQ Gc p)=c;cases c<;>rfl
def Jr {p:I oF}(H:p.length<=1000000000)(J:xm p<=1000000000):F3 p=some (Dc p):=by
 unfold F3;refine XG H J (λnext x i v=>rfl) λs next x i=>?_
 have e:(!Bv x)=(decide (x < 1) || decide (x>4294967295)):=by unfold Bv;rw[X28];simp<;>omega
 rw[AC,AC,e];cases decide (x < 1)<;>cases decide (x>4294967295)<;>rfl
def JJ {p:I oF}(H:p.length<=1000000000)(J:xm p<=1000000000):FG p=some (Dc p):=by
 unfold FG;refine XG H J (λnext x i v=>rfl) λs next x i=>?_
 rw[xI];rfl
section
variable {ρ:Type} {F:O ρ} {next:Int×C×j×j×Int×Int×Int×(I oF)×(I qv)×(I oB)->O ρ} {x:gH} {a:gE}
end
end Go.AX.Q25
end
section
namespace Go.AX.Q25
open Go Go.AX
section
variable {ρ:Type} {F:O ρ} {next:Int×(I oF)×C×j×j×Int×Int×Int×(I qv)×(I oB)->O ρ} {x:gH} {a:gE}
end
end Go.AX.Q25
end
section
namespace Go.AX.Q25
open Go Go.AX
def jP (l:I gH):Prop:=l.Pairwise λa b=>a.iB≠b.iB
structure Fit (l:List gH)(a:gE):Prop where
 d:jP l
 z :∀x∈l,x.Data.length<=1000000
 p :∀x∈l,x.iB=2->a.Path=[]
 c :∀x∈l,x.iB=8->a.cW=[]
 l :∀x∈l,x.iB=32->a.oB=[]
def conv (x:gH):gH:=⟨224,x.iB,x.Data⟩
def LP (x:gH):I Int:=[x.iB]
def K3 (a b:gH):(LP a).length=(LP b).length:=rfl
def iW {α:Type}{R:α->α->Prop}{c:C}{x:α}:(if c=true then [x] else []).Pairwise R:=by
 cases c
 ·exact .nil
 exact List.pairwise_singleton _ _
def eA:gE:=⟨(-1),[],(⟨false,(0:j),(0:j)⟩:Addr),(-1),(-1),(-1),[],[],[]⟩
def UZ {α F:Type}{g:α->I F}(hg :∀x,(g x).length<=1) :∀l:I α,(l.flatMap g).length<=l.length
 | []=>by simp
 | x::t=>by rw[Xaw,X11,X12];have:=UZ hg t;have:=hg x;omega
def aN (a b:gH):B2 a b=some (DV (LP a) (LP b)):=by unfold B2 LP;rw[YC,AA];unfold bT DV DV;rfl
def sizeOf (b:I S)(h:Nat):Nat:=val ((b.drop 2).take (h-2))
def sD (b:I S):O (I S×I S):=match b with
 | x::y::t=>if t.length<x.toNat*256+y.toNat then none else some (t.take (x.toNat*256+y.toNat),t.drop (x.toNat*256+y.toNat))
 | _=>none
def YV (l:I gH)(k:Int):I gH:=l.filter λx=>x.iB==k
def zI:Addr:=⟨false,(0:j),(0:j)⟩
def Wp (b:I S):I S×I S×C:=match sD b with
 | none=>([],[],false)
 | some (p,r)=>(p,r,true)
def EU (a:Addr):Ff a=some a.ok:=by unfold Ff Addr.ok;rw[AC];generalize ((a.Hi.toNat:Int)==0)=x;generalize decide ((a.Lo.toNat:Int)<4294967296)=y;generalize a.V6=z;cases z<;>cases x<;>rfl
def Tq (a:Addr):BZ a=some (a.w:Int):=by unfold BZ Addr.w;split<;>rfl
def Cb {α σ ρ:Type}{K:σ->O ρ}{b:(σ->O ρ)->α->Nat->σ->O ρ}{x:α}{t:I α}{i:Nat}{s:σ}:AI K b (x::t) i s=b (λs=>AI K b t (i+1) s) x i s:=rfl
def U9 {α σ ρ:Type}{K:σ->O ρ}{b:(σ->O ρ)->α->Nat->σ->O ρ}{i:Nat}{s:σ}:AI K b [] i s=K s:=rfl
def tf {α:Type}(l:I α):((l.length:Int)==0)=true↔l=[]:=by rw[Xbr,Int.natCast_eq_zero,Xcm]
def wr (x:gH)(n:Int):C:=decide (n>0)&&(bt x.Flags 192 !=128)
def okO (x:gH):C:=decide (1<=x.iB/\x.iB<=255)&&(yP x.iB&&(decide (x.Flags=224)&&decide (x.Data.length<=255)))
def xh (a b:gH):C:=decide (a.iB<b.iB)
def ET (l:I gH):C:=l.all okO&&vQ xh l
def EY (a:gE):C:=ET a.iX&&(decide (-1<=a.gO/\a.gO<=2)&&(Dc a.Path&&(a.Next.ok&&(decide (-1<=a.wo/\a.wo<=4294967295)&&(decide (-1<=a.th/\a.th<=4294967295)&&((decide (a.vS=-1) || Bv a.vS)&&(IW a.cW&&(Ib a.oB&&decide (a.iX.length<=8)))))))))
def jq (a b c:gH)(F:xh a b=true)(H:xh b c=true):xh a c=true:=by simp only[xh,Wd] at *;omega
structure xH (a:gE):Prop where
 p:a.Path.length<=1000000
 t:xm a.Path<=1000000
 c:a.cW.length<=1000000
 l:a.oB.length<=1000000
 o:a.iX.length<=1000000
 d :∀u∈a.iX,u.Data.length<=1000000
def Zw {α ρ:Type}{K:Unit->O ρ}{l:I α}{body:(Unit->O ρ)->α->Nat->Unit->O ρ}(h :∀next x (i:Nat),mu l (i:Int)=some x->body next x i ()=next ()):AI K body l 0 ()=K ():=by
 have key :∀(t p:I α),l=p++t->AI K body t p.length ()=K ():=by
  intro t;induction t with
  | nil=>intro p _;rfl
  | cons x t F=>intro p e;show body (λs=>AI K body t (p.length+1) s) x p.length ()=_;rw[h _ x p.length (by rw[e];exact JY p x t)];have:=F (p++[x]) (by rw[e];simp);simpa using this
 exact key l [] rfl
def Wa (l:I gH):CS l l=some true:=by unfold CS;rw[Wm (by simp),AC];refine Zw λnext x i hg=>?_;rw[AC];simp only[hg,AA,Xd5,Xcn,Xd0,Bool.not_true];rfl
def bG (l:I qv):FM l l=some true:=by unfold FM;rw[Wm (by simp),AC];refine Zw λnext x i hg=>?_;rw[hg,AA,(rc x x).2 rfl];rfl
def dL (l:I oB):CC l l=some true:=by unfold CC;rw[Wm (by simp),AC];refine Zw λnext x i hg=>?_;rw[hg,AA,(vI x x).2 rfl];rfl
def cH (l:I oF):FH l l=some true:=by unfold FH;rw[Wm (by simp),AC];refine Zw λnext x i hg=>?_;rw[AC,AC,hg,AA,Xd0,Wm (by decide),AA];show (if (cond false true ((x.o3.length:Int) !=(x.o3.length:Int)))=true then _ else _)=_;rw[Xd5,Wm (by decide),AC];refine Zw λnext H J F=>?_;rw[AA,F,AA,Xd5];rfl
def uj (a b:Addr):Addr.wa a b=true↔a=b:=by
 unfold Addr.wa;simp only[X27,Xbr,Xdb,Int.natCast_inj,Xdg];constructor
 ·rintro⟨F,H,J⟩;cases a;cases b;simp_all
 rintro rfl;exact⟨rfl,rfl,rfl⟩
def gj (a:gE):Dv a a=some true:=by unfold Dv;rw[AC,Wr (by simp),cH,AA,(uj _ _).2 rfl,bG,AA,dL,AA,Wa,AA,Xd0,Xd0,Xd0];rfl
def ea (a b:gH):xK LP a b=xh a b:=by
 unfold xK LP xh;rw[gq,nE,X28,Wd,Wd];split
 ·simp[*]
 split<;>omega
def uJ {l:I gH}(Y:l.length<=1000000){K:Unit->O C} : AI (σ:=Unit) K (λF J P _=>AB (τ:=C) (λH=>if (decide (J.iB<1))=true then H true else if (cond false true (decide (J.iB>255)))=true then H true else Wb (Di J.iB) λQ=>if (cond false true (!Q))=true then H true else if (cond false true (J.Flags !=224))=true then H true else if (cond false true (decide ((J.Data.length:Int)>255)))=true then H true else if (decide ((P:Int)>0))=true then Wb (mu l (AO ((P:Int)-1))) λU=>H (cond false true (cond true (decide (U.iB≥J.iB)) false)) else H false ) λV=>if V=true then some false else F ()) l 0 ()=if ET l=true then K () else some false:=by
 have M :∀x:gH,okO x=!(decide (x.iB<1) || (decide (x.iB>255) || ((!yP x.iB) || ((x.Flags !=224) || decide ((x.Data.length:Int)>255))))):=by
  intro x;unfold okO;have e1:decide (1<=x.iB/\x.iB<=255)=(!decide (x.iB<1)&&!decide (x.iB>255)):=by rw[X28];simp
  have e2:decide (x.Flags=224)=!(x.Flags !=224):=by rw[X28];simp
  have e3:decide (x.Data.length<=255)=!decide ((x.Data.length:Int)>255):=by rw[X28];simp;omega
  rw[e1,e2,e3];cases decide (x.iB < 1)<;>cases decide (x.iB>255)<;>cases yP x.iB<;>cases (x.Flags !=224)<;>cases decide ((x.Data.length:Int)>255)<;>rfl
 refine nt (ok:=okO) (lt:=xh) (by omega) (λnext x _=>?_) λnext x y i _ _ hg=>?_
 ·rw[AC,LG,AA,M];cases decide (x.iB < 1)<;>cases decide (x.iB>255)<;>cases yP x.iB<;>cases (x.Flags !=224)<;>cases decide ((x.Data.length:Int)>255)<;>rfl
 have e:decide (((i+1:Nat):Int)>0)=true:=by simp
 have e2:decide (y.iB≥x.iB)=!xh y x:=by unfold xh;rw[X28];simp
 rw[AC,LG,AA,M,hg,AA,e,e2];cases decide (x.iB < 1)<;>cases decide (x.iB>255)<;>cases yP x.iB<;>cases (x.Flags !=224)<;>cases decide ((x.Data.length:Int)>255)<;>cases xh y x<;>rfl
def gP {l:I gH}(J:l.length<=1000000):Dt l=some (ET l&&decide (l.length<=8)):=by
 unfold Dt;rw[AC];have H :∀x:gH,okO x=(yP x.iB&&((decide (1<=x.iB)&&decide (x.iB<=255))&&(!(x.Flags !=224)&&!decide ((x.Data.length:Int)>255)))):=by
  intro x;unfold okO;have e1:decide (1<=x.iB/\x.iB<=255)=(decide (1<=x.iB)&&decide (x.iB<=255)):=by rw[X28];simp
  have e2:decide (x.Flags=224)=!(x.Flags !=224):=by rw[X28];simp
  have e3:decide (x.Data.length<=255)=!decide ((x.Data.length:Int)>255):=by rw[X28];simp;omega
  rw[e1,e2,e3];cases decide (1<=x.iB)<;>cases decide (x.iB<=255)<;>cases yP x.iB<;>cases (x.Flags !=224)<;>cases decide ((x.Data.length:Int)>255)<;>rfl
 refine (nt (ok:=okO) (lt:=xh) (F:=some false) (by omega) (λnext x _=>?_) λnext x y i _ _ hg=>?_).trans ?_
 ·rw[AC,I8,AA,HJ,H];cases decide (1<=x.iB)<;>cases decide (x.iB<=255)<;>cases yP x.iB<;>cases (x.Flags !=224)<;>cases decide ((x.Data.length:Int)>255)<;>rfl
 ·have e:decide (((i+1:Nat):Int)>0)=true:=by simp
  have e2:decide (y.iB≥x.iB)=!xh y x:=by unfold xh;rw[X28];simp
  rw[AC,I8,AA,HJ,H,hg,e];simp only[AA,e2];cases decide (1<=x.iB)<;>cases decide (x.iB<=255)<;>cases yP x.iB<;>cases (x.Flags !=224)<;>cases decide ((x.Data.length:Int)>255)<;>cases xh y x<;>rfl
 have e:decide ((l.length:Int)<=8)=decide (l.length<=8):=by rw[X28];simp;omega
 rw[e];unfold ET;generalize (l.all okO&&vQ xh l)=b;cases b<;>rfl
def OK {a:gE}(h:xH a):EK a=some (EY a):=by
 unfold EK;rw[AC];refine (uJ h.o).trans ?_;unfold EY;by_cases F:ET a.iX=true;rotate_left
 ·have F:ET a.iX=false:=by simpa using F
  rw[F];rfl
 rw[F,Wr rfl,AC,Jr (by have:=h.p;omega) (by have:=h.t;omega),AA,Ew,AA,UX (by have:=h.c;omega),Oi (by have:=h.l;omega)];simp only[AA];have J:decide (-1<=a.gO/\a.gO<=2)=(decide (a.gO≥-1)&&decide (a.gO<=2)):=by rw[X28];simp
 have K:decide (-1<=a.wo/\a.wo<=4294967295)=(decide (a.wo≥-1)&&decide (a.wo<=4294967295)):=by rw[X28];simp
 have M:decide (-1<=a.th/\a.th<=4294967295)=(decide (a.th≥-1)&&decide (a.th<=4294967295)):=by rw[X28];simp
 have P:Bv a.vS=(decide (a.vS≥1)&&decide (a.vS<=4294967295)):=rfl;have Q:decide (a.vS=-1)=(a.vS==-1):=rfl;have U:decide (a.iX.length<=8)=decide ((a.iX.length:Int)<=8):=by rw[X28];simp;omega
 rw[J,K,M,P,Q,U];generalize decide (a.gO≥-1)=b1;generalize decide (a.gO<=2)=b2;generalize Dc a.Path=b3;generalize a.Next.ok=b4;generalize decide (a.wo≥-1)=b5;generalize decide (a.wo<=4294967295)=b6;generalize decide (a.th≥-1)=b7;generalize decide (a.th<=4294967295)=b8;generalize (a.vS==-1)=b9;generalize decide (a.vS≥1)=yK;generalize decide (a.vS<=4294967295)=zU;generalize IW a.cW=zb;generalize Ib a.oB=zp;generalize decide ((a.iX.length:Int)<=8)=H;cases b1
 ·rfl
 cases b2
 ·rfl
 cases b3
 ·rfl
 cases b4
 ·rfl
 cases b5
 ·rfl
 cases b6
 ·rfl
 cases b7
 ·rfl
 cases b8
 ·rfl
 cases b9<;>cases yK<;>cases zU<;>cases zb<;>cases zp<;>cases H<;>rfl
def MY {a:gE}(h:xH a):Bt a=some (EY a):=by
 unfold Bt EY;rw[AC,HJ,AA,JJ (by have:=h.p;omega) (by have:=h.t;omega),AA,EU,AA,HJ,AA,HJ,AA,PM (by have:=h.c;omega),Ld (by have:=h.l;omega),gP h.o,xI];simp only[AA];have J:decide (-1<=a.gO/\a.gO<=2)=(decide (-1<=a.gO)&&decide (a.gO<=2)):=by rw[X28];simp
 have K:decide (-1<=a.wo/\a.wo<=4294967295)=(decide (-1<=a.wo)&&decide (a.wo<=4294967295)):=by rw[X28];simp
 have M:decide (-1<=a.th/\a.th<=4294967295)=(decide (-1<=a.th)&&decide (a.th<=4294967295)):=by rw[X28];simp
 have P:Bv a.vS=(decide (1<=a.vS)&&decide (a.vS<=4294967295)):=rfl;have Q:decide (a.vS=-1)=(a.vS==-1):=rfl;rw[J,K,M,P,Q];generalize (decide (-1<=a.gO)&&decide (a.gO<=2))=b1;generalize Dc a.Path=b3;generalize a.Next.ok=b4;generalize (decide (-1<=a.wo)&&decide (a.wo<=4294967295))=b5;generalize (decide (-1<=a.th)&&decide (a.th<=4294967295))=b7;generalize (a.vS==-1)=b9;generalize (decide (1<=a.vS)&&decide (a.vS<=4294967295))=yK;generalize IW a.cW=zb;generalize Ib a.oB=zp;generalize ET a.iX=F;generalize decide (a.iX.length<=8)=H;cases b1
 ·simp
 cases b3
 ·simp
 cases b4
 ·simp
 cases b5
 ·simp
 cases b7
 ·simp
 cases b9<;>cases yK<;>cases zb<;>cases zp<;>cases F<;>cases H<;>rfl
def w4 (n:Int):I S:=[(A4 (Xas n (2^(min (Wo 24) 64)))),(A4 (Xas n (2^(min (Wo 16) 64)))),(A4 (Xas n (2^(min (Wo 8) 64)))),(A4 n)]
def w2 (n:Int):I S:=[(A4 (Xas n (2^(min (Wo 8) 64)))),(A4 n)]
def ZO (k n:Nat)(J:k<64)(K:n=8*k)(M:k<9):min (Wo ((AT (8*((AT (k:Int)).toNat:Int))).toNat:Int)) 64=min (Wo (n:Int)) 64:=by
 have F:(AT (k:Int)).toNat=k:=by unfold AT;simp only[Xag];omega
 rw[F];have H:(AT (8*(k:Int))).toNat=n:=by unfold AT;simp only[Xag];omega
 rw[H]
def fdiv_one (n:Int):Xas n (2^(min (Wo ((0:Nat):Int)) 64))=n:=by have:((2:Int)^(min (Wo ((0:Nat):Int)) 64))=1:=rfl;rw[this,Int.fdiv_one]
def eD (v:Int){n:Int}(M:n=4\/n=2):AQ v n=some (if n=4 then w4 v else w2 v):=by
 unfold AQ;rw[AC];have F:=ZO 3 24 (by omega) rfl (by omega);have H:=ZO 2 16 (by omega) rfl (by omega);have J:=ZO 1 8 (by omega) rfl (by omega);have K:=ZO 0 0 (by omega) rfl (by omega);have F:min (Wo ((AT (8*((AT (3:Int)).toNat:Int))).toNat:Int)) 64=min (Wo 24) 64:=F;have H:min (Wo ((AT (8*((AT (2:Int)).toNat:Int))).toNat:Int)) 64=min (Wo 16) 64:=H;have J:min (Wo ((AT (8*((AT (1:Int)).toNat:Int))).toNat:Int)) 64=min (Wo 8) 64:=J;have K:min (Wo ((AT (8*((AT (0:Int)).toNat:Int))).toNat:Int)) 64=min (Wo ((0:Nat):Int)) 64:=K;refine (Dq (λs:Int×I S=>(s.1=3\/s.1=2\/s.1=1\/s.1=0\/s.1=-1)/\s.2.length+(s.1+1).toNat<=4) (λs=>(s.1+1).toNat) (λs=>some (s.2++(w4 v).drop (3-s.1).toNat)) ?_ tE (AO (n-1),[]) ?_ ?_).trans ?_
 ·rintro next ⟨i,l⟩ ⟨P,Q⟩ hk
  dsimp only at P Q⊢;rcases P with rfl|rfl|rfl|rfl|rfl
  ·rw[Wr (by decide),F,AD (by decide) (by simp only[X22];omega),AA,AG (by omega),hk _ ⟨by simp,by simp only[X11,X22];omega⟩ (by simp only;omega)];simp[w4]
  ·rw[Wr (by decide),H,AD (by decide) (by simp only[X22];omega),AA,AG (by omega),hk _ ⟨by simp,by simp only[X11,X22];omega⟩ (by simp only;omega)];simp[w4]
  ·rw[Wr (by decide),J,AD (by decide) (by simp only[X22];omega),AA,AG (by omega),hk _ ⟨by simp,by simp only[X11,X22];omega⟩ (by simp only;omega)];simp[w4]
  ·rw[Wr (by decide),K,fdiv_one,AD (by decide) (by simp only[X22];omega),AA,AG (by omega),hk _ ⟨by simp,by simp only[X11,X22];omega⟩ (by simp only;omega)];simp[w4]
  rw[Wm (by decide)];simp[w4]
 ·dsimp only;rw[AG (by omega)];rcases M with rfl|rfl
  ·exact⟨.inl rfl,by decide⟩
  exact⟨.inr (.inr (.inl rfl)),by decide⟩
 ·dsimp only;rw[AG (by omega)];exact BW (by omega)
 dsimp only;rw[AG (by omega)];rcases M with rfl|rfl<;>rfl
def UW (v:Int):AQ v 4=some (w4 v):=eD v (.inl rfl)
def qE (v:Int):AQ v 2=some (w2 v):=eD v (.inr rfl)
def PO (n:Int):(w4 n).length=4:=rfl
def RV (l:I Int):(l.flatMap w4).length=4*l.length:=by
 induction l with
 | nil=>rfl
 | cons x t F=>rw[Xaw,X11,F,PO,X12];omega
def put_eq {b:I S}{l:I Int}(h:b.length+4*l.length<=1000000000):Dh b l=some (b++l.flatMap w4):=by unfold Dh;rw[AC];refine (WO (g:=w4) (N:=1000000000) (by rw[RV];omega) λnext x i v _ F=>?_).trans rfl;have e:([(A4 (Xas x (2^(min (Wo 24) 64)))),(A4 (Xas x (2^(min (Wo 16) 64)))),(A4 (Xas x (2^(min (Wo 8) 64)))),(A4 x)]:I S)=w4 x:=rfl;rw[e,AD (by decide) F,AA]
def O9 (n:Int):BV [n]=some (w4 n):=by have:BV [n]=Dh [] [n]:=rfl;rw[this,put_eq (by simp)];rfl
def lN (s:oF):I S:=[(if s.Set=true then (1:S) else 2),A4 (s.o3.length:Int)]++s.o3.flatMap w4
def Ou (p:I oF):I S:=p.flatMap lN
def VH (s:oF):(lN s).length=2+4*s.o3.length:=by unfold lN;rw[X11,RV];rfl
def OS (p:I oF):(Ou p).length=2*p.length+4*xm p:=by
 unfold Ou;induction p with
 | nil=>rfl
 | cons s t F=>rw[Xaw,X11,F,VH,X12,Fe];omega
def iG {p:I oF}(h:2*p.length+4*xm p<=100000000):Bn p=some (Ou p):=by unfold Bn;rw[AC];have F:=OS p;unfold Ou at F⊢;refine (WO (g:=lN) (N:=100000000) (by rw[F];simp only[X13];omega) λnext s i v _ H=>?_).trans rfl;rw[VH] at H;rw[Jm,AD (by decide) (by simp;omega),AA,put_eq (by simp;omega),AA,Xak];rfl
def mF {p:I oF}(h:2*p.length+4*xm p<=100000000){ρ:Type}{K:I S->O ρ}:AB (τ:=(I S)) (λk7=>AI (σ:=(I S)) (λQ=>k7 Q ) (λH (J:oF) i11 Q=>AB (τ:=(I S)) (λU=>AB (τ:=S) (λP=>if J.Set=true then P (1:S) else P (2:S) ) λV=>Wb (gN (α:=S) 1 Q ([V,(A4 (J.o3.length:Int))]:I S)) λY=>AB (τ:=(I S)) (λZ=>AI (σ:=(I S)) (λM=>Z M ) (λF (a1:Int) i20 M=>Wb (AQ a1 4) λa6=>Wb (gN (α:=S) 1 M a6) λa7=>F a7 ) J.o3 0 Y ) λa8=>U a8 ) λaa=>H aa ) p 0 ([]:I S) ) K=K (Ou p):=by
 rw[AC];have hl:=OS p;unfold Ou at hl⊢;refine (WO (g:=lN) (N:=100000000) (by rw[hl];simp only[X13];omega) λnext s i v _ hv=>?_).trans rfl;rw[VH] at hv;rw[AC,Jm,AD (by decide) (by simp;omega),AA,AC];refine (WO (g:=w4) (N:=1000000000) (by rw[RV];simp;omega) λnext x i v _ hv=>?_).trans ?_
 ·rw[UW,AA,AD (by decide) hv,AA]
 rw[Xak];rfl
def OG (c:qv):I S:=w2 c.A++w2 c.B
def Ky (c:oB):I S:=w4 c.A++(w4 c.B++w4 c.C)
def R7 (c:qv):(OG c).length=4:=rfl
def Pe (c:oB):(Ky c).length=12:=rfl
def Ob (l:I qv):(l.flatMap OG).length=4*l.length:=by
 induction l with
 | nil=>rfl
 | cons x t F=>rw[Xaw,X11,F,R7,X12];omega
def OQ (l:I oB):(l.flatMap Ky).length=12*l.length:=by
 induction l with
 | nil=>rfl
 | cons x t F=>rw[Xaw,X11,F,Pe,X12];omega
def bL {a b:Nat}(h:a%256=b%256):Xbb a=Xbb b:=by apply UInt8.toNat_inj.1;simp only[Xd8];exact h
def fd (n k:Nat):Xas (n:Int) (2^(min (Wo (k:Int)) 64))=((n/2^(min k 64):Nat):Int):=by
 rw[Xaa];have:((2:Int)^(min k 64))=((2^(min k 64):Nat):Int):=by simp
 rw[this,Xcp _ (Xc4 _),Int.natCast_ediv]
def qV (n:Nat):w4 (n:Int)=[Xbb (n/16777216),Xbb (n/65536),Xbb (n/256),Xbb n]:=by have F:=fd n 24;have H:=fd n 16;have J:=fd n 8;have F:Xas (n:Int) (2^(min (Wo 24) 64))=((n/2^(min 24 64):Nat):Int):=F;have H:Xas (n:Int) (2^(min (Wo 16) 64))=((n/2^(min 16 64):Nat):Int):=H;have J:Xas (n:Int) (2^(min (Wo 8) 64))=((n/2^(min 8 64):Nat):Int):=J;unfold w4;rw[F,H,J,FP,FP,FP,FP];rfl
def jy (n:Nat):w2 (n:Int)=[Xbb (n/256),Xbb n]:=by have F:=fd n 8;have F:Xas (n:Int) (2^(min (Wo 8) 64))=((n/2^(min 8 64):Nat):Int):=F;unfold w2;rw[F,FP,FP];rfl
def gY {c:qv}(h:Bb c=true):w4 (AO ((Xa2 64 (AO (c.A*(2^(min (Wo 16) 64)))) ||| Xa2 64 c.B).toNat:Int))=OG c:=by
 simp only[Bb,Ay,X27,Wd] at h;obtain⟨a,F⟩ :∃a:Nat,c.A=a:=⟨c.A.toNat,by omega⟩;obtain⟨b,H⟩ :∃b:Nat,c.B=b:=⟨c.B.toNat,by omega⟩;unfold OG;rw[F,H] at h⊢;have e:((a:Int)*(2^(min (Wo 16) 64)))=((a*65536:Nat):Int):=by have:min (Wo 16) 64=16:=rfl;rw[this];omega
 rw[e,AG (x:=((a*65536:Nat):Int)) (by omega),Xbn,Xbn,BitVec.toNat_or,Xda,Xda,Xb9 (show a*65536<2^64 by omega),Xb9 (show b<2^64 by omega), show a*65536=2^16*a by omega,<- Nat.two_pow_add_eq_or_of_lt (show b<2^16 by omega),AG (by omega),qV,jy,jy];have q1:(2^16*a+b)/16777216=a/256:=by omega
 have q2:(2^16*a+b)/65536=a:=by omega
 have q3:Xbb ((2^16*a+b)/256)=Xbb (b/256):=bL (by omega);have q4:Xbb (2^16*a+b)=Xbb b:=bL (by omega);rw[q1,q2,q3,q4];rfl
def cC {l:I qv}(F :∀c∈l,Bb c=true)(h:l.length<=1000000):B7 l=some (l.flatMap OG):=by unfold B7;rw[AC];refine (WO (g:=OG) (N:=100000000) (by rw[Ob];simp only[X13];omega) λnext c i v H J=>?_).trans rfl;rw[R7] at J;rw[put_eq (by simp;omega),AA,Xaw,List.flatMap_nil,Xaj,gY (F c H)]
def bU {l:I oB}(h:l.length<=1000000):EG l=some (l.flatMap Ky):=by unfold EG;rw[AC];refine (WO (g:=Ky) (N:=100000000) (by rw[OQ];simp only[X13];omega) λnext c i v H F=>?_).trans rfl;rw[Pe] at F;rw[put_eq (by simp;omega),AA];simp[Ky]
def b4 (n:Nat):I S:=[Xbb (n/16777216),Xbb (n/65536),Xbb (n/256),Xbb n]
def UM {x:j}{k n:Nat}(F:n=8*k)(H:k<8)(J:x.toNat<4294967296):A4 ((AT (Xas (x.toNat:Int) (2^(min (Wo (n:Int)) 64)))).toNat:Int)=Xbb (x.toNat/2^n):=by rw[fd,Xcw (by omega),By,FP];congr 1;rw[Xag,Xb9];exact Nat.lt_of_le_of_lt (Nat.div_le_self _ _) (by omega)
def Addr.four {a:Addr}(h:a.ok=true)(F:a.V6=false):a.Hi.toNat=0/\a.Lo.toNat<4294967296:=by
 unfold Addr.ok at h;rw[F,Xcn] at h;cases h1:((a.Hi.toNat:Int)==0)
 ·rw[h1] at h;simp at h
 rw[h1,Xcq,Wd] at h;simp only[Xbr] at h1;omega
def jB {a:Addr}(h:a.ok=true)(P:a.V6=false):Bq a=some (b4 a.Lo.toNat):=by
 obtain⟨_,F⟩:=Addr.four h P;unfold Bq;rw[Ew,AA,h,Wm (by decide),AC,P,Wm (by decide)];show AB _ _=_;rw[AC];have H:=ZO 3 24 (by omega) rfl (by omega);have J:=ZO 2 16 (by omega) rfl (by omega);have K:=ZO 1 8 (by omega) rfl (by omega);have M:=ZO 0 0 (by omega) rfl (by omega);have H:min (Wo ((AT (8*((AT (Xed 3 8)).toNat:Int))).toNat:Int)) 64=min (Wo ((24:Nat):Int)) 64:=H;have J:min (Wo ((AT (8*((AT (Xed 2 8)).toNat:Int))).toNat:Int)) 64=min (Wo ((16:Nat):Int)) 64:=J;have K:min (Wo ((AT (8*((AT (Xed 1 8)).toNat:Int))).toNat:Int)) 64=min (Wo ((8:Nat):Int)) 64:=K;have M:min (Wo ((AT (8*((AT (Xed 0 8)).toNat:Int))).toNat:Int)) 64=min (Wo ((0:Nat):Int)) 64:=M;refine (Dq (λs:Int×I S=>(s.1=3\/s.1=2\/s.1=1\/s.1=0\/s.1=-1)/\s.2.length+(s.1+1).toNat<=4) (λs=>(s.1+1).toNat) (λs=>some (s.2++(b4 a.Lo.toNat).drop (3-s.1).toNat)) ?_ tE (AO (4-1),[]) ?_ ?_).trans ?_
 ·rintro next ⟨i,l⟩ ⟨Q,U⟩ hk
  dsimp only at Q U⊢;rcases Q with rfl|rfl|rfl|rfl|rfl
  ·rw[Wr (by decide),AC,Wm (by decide),H];show Wb _ _=_;rw[UM (n:=24) (k:=3) rfl (by omega) F,AD (by decide) (by simp only[X22];omega),AA,AG (by omega),hk _ ⟨by simp,by simp only[X11,X22];omega⟩ (by simp only;omega)];simp[b4]
  ·rw[Wr (by decide),AC,Wm (by decide),J];show Wb _ _=_;rw[UM (n:=16) (k:=2) rfl (by omega) F,AD (by decide) (by simp only[X22];omega),AA,AG (by omega),hk _ ⟨by simp,by simp only[X11,X22];omega⟩ (by simp only;omega)];simp[b4]
  ·rw[Wr (by decide),AC,Wm (by decide),K];show Wb _ _=_;rw[UM (n:=8) (k:=1) rfl (by omega) F,AD (by decide) (by simp only[X22];omega),AA,AG (by omega),hk _ ⟨by simp,by simp only[X11,X22];omega⟩ (by simp only;omega)];simp[b4]
  ·rw[Wr (by decide),AC,Wm (by decide),M];show Wb _ _=_;rw[UM (n:=0) (k:=0) rfl (by omega) F,AD (by decide) (by simp only[X22];omega),AA,AG (by omega),hk _ ⟨by simp,by simp only[X11,X22];omega⟩ (by simp only;omega)];simp[b4]
  rw[Wm (by decide)];simp[b4]
 ·dsimp only;rw[AG (by omega)];exact⟨.inl rfl,by decide⟩
 ·dsimp only;rw[AG (by omega)];exact BW (by omega)
 dsimp only;rw[AG (by omega)];rfl
def kp {x:j}{h:j}(J:x.toNat<4294967296)(H:h.toNat=0):(AT ((Xa2 64 ((AT (Xas (x.toNat:Int) (2^(min (Wo 8) 64)))).toNat:Int) ||| Xa2 64 ((AT ((h.toNat:Int)*(2^(min (Wo 56) 64)))).toNat:Int)).toNat:Int)).toNat=x.toNat/256/\ (AT (Xas (h.toNat:Int) (2^(min (Wo 8) 64)))).toNat=0:=by
 have e1:Xas (x.toNat:Int) (2^(min (Wo 8) 64))=((x.toNat/256:Nat):Int):=fd x.toNat 8;have e2:Xas (h.toNat:Int) (2^(min (Wo 8) 64))=((h.toNat/256:Nat):Int):=fd h.toNat 8;rw[e1,e2,H,By];have e3:(((0:Nat):Int)*(2^(min (Wo 56) 64)))=((0:Nat):Int):=by simp
 rw[e3,By,By];have e4:(Xaq 0).toNat=0:=rfl;have F:(Xaq (x.toNat/256)).toNat=x.toNat/256:=by rw[Xag];omega
 rw[e4,F,Xbn,Xbn,BitVec.toNat_or,Xda,Xda,Nat.zero_mod,Nat.or_zero,Xb9 (by omega)];exact⟨F,rfl⟩
def bX {a:Addr}(h:a.ok=true)(Q:a.V6=false):Ba a=some (b4 a.Lo.toNat):=by
 obtain⟨K,M⟩:=Addr.four h Q;unfold Ba;rw[EU,AA,h,Wm (by decide),AC,Q,Wm (by decide)];have Z:wQ ((0:Int)<=4/\(4:Int)<=4/\(4:Int)<=1048576)=some ():=by unfold wQ;rw[Wr (by decide)]
 show Wb (wQ ((0:Int)<=4/\(4:Int)<=4/\(4:Int)<=1048576)) _=_;rw[Z,AA,AC];refine (Dq (λs:Int×Addr×I S=>∃j:Nat,j<=4/\s.1=3-(j:Int)/\s.2.1.Hi.toNat=0/\s.2.1.Lo.toNat=a.Lo.toNat/256^j/\s.2.2=Xav (4-j) 0++(b4 a.Lo.toNat).drop (4-j)) (λs=>(s.1+1).toNat) (λs=>some (b4 a.Lo.toNat)) ?_ tE (AO (4-1),a,Xav (Wo 4) (0:S)) ?_ ?_).trans rfl
 ·rintro next ⟨i,x,l⟩ ⟨j,hj,U,V,H,J⟩ hk
  dsimp only at U V H J⊢;subst U;have hx:x.Lo.toNat<4294967296:=by rw[H];exact Nat.lt_of_le_of_lt (Nat.div_le_self _ _) M
  obtain⟨s1,s2⟩:=kp hx V;have F:j=4\/j<4:=by omega
  rcases F with rfl|F
  ·rw[Wm (by decide),J];simp[b4]
  have Y:l.length=4:=by rw[J];simp[b4]<;>omega
  have hg :∃y,mu l (3-(j:Int))=some y:=by obtain⟨y,P,_⟩:=Ok.mu (l:=l) (i:=3-(j:Int)) (by omega);exact⟨y,P⟩
  obtain⟨y,P⟩:=hg;have hs:wj l (3-(j:Int)) (A4 (x.Lo.toNat:Int))=some (l.set (3-j) (Xbb x.Lo.toNat)):=by unfold wj;rw[Wr (by omega),FP];congr 2;omega
  rw[Wr (by simp only[Wd];omega),P,AA,hs,AA,AG (by omega)];refine hk _ ⟨j+1,by omega,by simp only;omega,s2,?_,?_⟩ (by simp only;omega)
  ·simp only;rw[s1,H,Nat.div_div_eq_div_mul,Nat.pow_succ]
  simp only;rw[J,H];match j,F with
  | 0,_=>simp[b4]
  | 1,_=>simp[b4]
  | 2,_=>simp[b4]
  | 3,_=>simp[b4]
 ·refine⟨0,by omega,by dsimp only;rw[AG (by omega)];rfl,K,by simp,?_⟩;simp[b4]
 dsimp only;rw[AG (by omega)];exact BW (by omega)
def lX (a:Addr) :∃r,Ba a=some r:=by
 have:Ok (Ba a) λ_=>True:=by
  unfold Ba;rw[EU];refine .bind (P:=λ_=>True) ⟨_,rfl,trivial⟩ λv _=>.ite (λ_=>.ret trivial) λ_=>?_;refine .join (λn:Int=>n=16\/n=4) (λk F=>.ite (λ_=>F _ (.inl rfl)) λ_=>F _ (.inr rfl)) λn U=>?_;refine .bind (Ok.wQ (by omega)) λ_ _=>.join (λ_=>True) (λk F=>?_) λ_ _=>.ret trivial;refine .wA (λs:Int×Addr×I S=>-1<=s.1/\s.1<n/\(s.2.2.length:Int)=n) (λs=>(s.1+1).toNat) ⟨by dsimp only;rw[AG (by omega)];omega,by dsimp only;rw[AG (by omega)];omega,by dsimp only;rw[X20];omega⟩ (BW (by dsimp only;rw[AG (by omega)];omega)) ?_;rintro next ⟨i,x,l⟩ ⟨J,K,M⟩ H
  dsimp only at J K M⊢;refine .ite (λh=>?_) λ_=>F _ trivial;simp only[Wd] at h;refine .bind (.mu (by omega)) λ_ _=>.bind (.wj (by omega)) λV Q=>?_;rw[AG (by omega)];exact H _ ⟨by dsimp only;omega,by dsimp only;omega,by dsimp only;omega⟩ (by dsimp only;omega)
 obtain⟨r,h,_⟩:=this;exact⟨r,h⟩
def Jd (a:gE):C:=!a.Next.V6&&!(Addr.wa a.Next ⟨false,0,0⟩)
def G (a:gE)(k:Int):O (I S):=
 if k=1 then (if a.gO≠-1 then some [A4 a.gO] else none) else
 if k=2 then (if a.gO≠-1\/a.Path≠[] then some (Ou a.Path) else none) else
 if k=3 then (if Jd a=true then some (b4 a.Next.Lo.toNat) else none) else
 if k=4 then (if a.wo≠-1 then some (w4 a.wo) else none) else
 if k=5 then (if a.th≠-1 then some (w4 a.th) else none) else
 if k=8 then (if a.cW≠[] then some (a.cW.flatMap OG) else none) else
 if k=32 then (if a.oB≠[] then some (a.oB.flatMap Ky) else none) else
 if k=35 then (if a.vS≠-1 then some (w4 a.vS) else none) else none
def xB (a:gE)(k:Int):I gH:=match G a k with
 | some b=>[⟨fl k,k,b⟩]
 | none=>[]
def Cw (l:I gH)(k:Int):I gH:=l.flatMap λx=>if (x.iB==k)=true then [x] else []
def yz (a:gE):I gH:=(List.range' 0 256).flatMap λ(k:Nat)=>xB a k++Cw a.iX k
def UR {a:gE}{k:Int}(h:fl k=0):G a k=none:=by
 rcases Nb k with ⟨_,e⟩|⟨_,e⟩|⟨_,e⟩|⟨_,e⟩|⟨_,e⟩|⟨_,e⟩|⟨_,e⟩|⟨_,e⟩|⟨e1,e2,e3,e4,F,H,J,K,_⟩;iterate 8 (rw[e] at h;exact absurd h (by decide))
 unfold G;rw[Wm e1,Wm e2,Wm e3,Wm e4,Wm F,Wm H,Wm J,Wm K]
def UJ {l:I gH}{k:Int}{y:gH}:y∈Cw l k↔y∈l/\y.iB=k:=by
 unfold Cw;rw[Xdw];constructor
 ·rintro⟨x,F,h⟩;split at h
  ·rename_i H;rw[X14] at h;subst h;exact⟨F,by simpa using H⟩
  simp at h
 rintro⟨J,e⟩;exact⟨y,J,by rw[Wr (by simpa using e)];simp⟩
def Ko {a:gE}{k:Int}{y:gH}:y∈xB a k ↔∃b,G a k=some b/\y=⟨fl k,k,b⟩:=by
 unfold xB;cases G a k with
 | none=>simp
 | some b=>simp
def QW {a:gE}{k:Int}{y:gH}(h:y∈xB a k):y.iB=k:=by obtain⟨b,_,rfl⟩:=Ko.1 h;rfl
def X3 {a:gE}(F:ET a.iX=true){y:gH}:y∈yz a↔(∃k,y∈xB a k)\/y∈a.iX:=by
 unfold yz;simp only[Xdw,List.mem_range'_1,X23];constructor
 ·rintro⟨k,J,h|h⟩
  ·exact .inl ⟨_,h⟩
  exact .inr (UJ.1 h).1
 rintro (⟨k,h⟩|h)
 ·obtain⟨b,H,_⟩:=Ko.1 h;have J:0<=k/\k<256:=by
   rcases Nb k with ⟨e,_⟩|⟨e,_⟩|⟨e,_⟩|⟨e,_⟩|⟨e,_⟩|⟨e,_⟩|⟨e,_⟩|⟨e,_⟩|e;iterate 8 omega
   rw[UR e.2.2.2.2.2.2.2.2] at H;cases H
  refine⟨k.toNat,by omega,.inl ?_⟩;rw[show ((k.toNat:Nat):Int)=k by omega];exact h
 unfold ET at F;rw[X27,Xa0] at F;have:=F.1 y h;simp only[okO,X27,Wd] at this;exact⟨y.iB.toNat,by omega,.inr (UJ.2 ⟨h,by omega⟩)⟩
def Ig {l:I gH}(F:ET l=true){x:gH}(h:x∈l):yP x.iB=true/\1<=x.iB/\x.iB<=255/\x.Flags=224/\x.Data.length<=255:=by unfold ET at F;rw[X27,Xa0] at F;have:=F.1 x h;simp only[okO,X27,Wd] at this;exact⟨this.2.1,this.1.1,this.1.2,this.2.2.1,this.2.2.2⟩
def lC {t:Int}(h:yP t=true):fl t=0:=by simp only[yP,X27,Wd] at h;exact h.1
def Ql {l:I gH}(F:ET l=true):l.Pairwise λa b=>xh a b=true:=by unfold ET at F;rw[X27] at F;exact (ON jq).1 F.2
def SN {a:gE}(P:ET a.iX=true):(yz a).Pairwise λa b=>xK LP a b=true:=by
 unfold yz;rw[List.pairwise_flatMap];have Q :∀(k:Nat) y,y∈xB a k++Cw a.iX k->y.iB=k:=by
  intro k y F;rcases X23.1 F with h|h
  ·exact QW h
  exact (UJ.1 h).2
 constructor
 ·intro k _;rw[Xbm];refine⟨?_,?_,?_⟩
  ·unfold xB;split
   ·exact List.pairwise_singleton _ _
   exact .nil
  ·unfold Cw;rw[List.pairwise_flatMap];refine⟨λx _=>iW,(Ql P).imp λ{p q} J x H y F=>?_⟩;have e1:p.iB=k:=by
    split at H
    ·simpa using ‹(p.iB==(k:Int))=true›
    simp at H
   have e2:q.iB=k:=by
    split at F
    ·simpa using ‹(q.iB==(k:Int))=true›
    simp at F
   simp only[xh,Wd] at J;omega
  intro x H y F;obtain⟨b,U,_⟩:=Ko.1 H;obtain⟨K,M⟩:=UJ.1 F;have:=lC (Ig P K).1;rw[M] at this;rw[UR this] at U;cases U
 refine (List.pairwise_lt_range' (s:=0) (n:=256)).imp λ{p q} J x H y F=>?_;have e1:=Q p x H;have e2:=Q q y F;rw[ea];simp only[xh,Wd];omega
def pC {a:gE}(F:ET a.iX=true):jP (yz a):=(SN F).imp λ{p q} h e=>by rw[ea] at h;simp only[xh,Wd] at h;omega
end Go.AX.Q25
end
