/-
  Texts of one proof, packed.
-/
import Derived.Test.YthbbpeeghmpcfaaGreatDoorR5
set_option linter.all false
set_option maxRecDepth 100000
set_option maxHeartbeats 4000000
open List renaming length_map→X1,length_append→X2,mem_singleton→X11,getElem?_eq_getElem→X12,getElem?_eq_some_iff→X13,length_drop→X14,length_take→X15,length_replicate→X17,length_set→X18,mem_append→X20
open Option.some renaming inj→X22
open Bool renaming and_eq_true→X24
open Nat renaming eq_of_beq_eq_true→X27
open Go renaming undef→Xck,Program→Xdn,FuncId→Xdy
open Nat renaming beq→Xal
section
namespace Go.AX
def zo (gM:O OB):Nat->C OB:=λr=>gM[r]?
def Jo (φ:Nat->C (Nat×Rp))(n:Nat):Nat->Prop:=λb=>∃r c,r<n/\φ r=some (b,c)
def xV (wl:WL)(P:Xdn)(f:Xdy)(args:O AV)(gM:O OB)(J:AV)(F:O OB):Prop:=
 (∃ fn, P.funcs[f]? = some fn ∧ fn.name ≠ "runtime.NumGoroutine" ∧ fn.body.isSome = true) ∧
 ∀(w:B) (S:Sc) (φ:Nat->C (Nat×Rp)) (gb:Nat->Prop) (hg:GS wl gb (Jo φ gM.length) S w) (H:Array A),H.size=args.length->
  (∀i (K:i<args.length),kI S w φ (zo gM) args[i] (H.getD i Xck)/\oA (zo gM) args[i])->(∀r,gM.length<=r->φ r=none)->
  Mem ⟨w,S,Jo φ gM.length,wl,gb,hg⟩ w S φ (zo gM)->
  Calls P f H w λe w'=>∃v,e=.returned v/\∃S' φ',Mem ⟨w,S,Jo φ gM.length,wl,gb,hg⟩ w' S' φ' (zo F)/\Kept w S φ (zo gM) w' S' φ' (zo F)/\kI S' w' φ' (zo F) J v/\oA (zo F) J
structure Po (wl:WL)(P:Program)(f:FuncId)(args:List AV)(ob:List (Option OB))(K:AV->List (Option OB)->Prop):Prop where
 fn : ∃ fn, P.funcs[f]? = some fn ∧ fn.name ≠ "runtime.NumGoroutine" ∧ fn.body.isSome = true
 run :∀(E:Env),E.wl=wl->∀(w:World) (S:Sc) (φ:Nat->Option (Nat×Rp)) (vals:Array Value),Cs (λa v=>kI S w φ (λr=>ob.getD r none) a v/\oA (λr=>ob.getD r none) a) args vals.toList->
  Mem E w S φ (λr=>ob.getD r none)->
  Calls P f vals w λe w'=>∃v,e=.returned v/\∃S' φ' r ob',K r ob'/\Mem E w' S' φ' (λr=>ob'.getD r none)/\Kept w S φ (λr=>ob.getD r none) w' S' φ' (λr=>ob'.getD r none)/\
   kI S' w' φ' (λr=>ob'.getD r none) r v/\oA (λr=>ob'.getD r none) r
def ye (wl:WL)(P:Xdn)(f:Xdy)(args:O AV)(ob:O (C OB))(K:AV->O (C OB)->Prop):Prop:=
 ∀(E:Env),E.wl=wl->∀(w:B) (S:Sc) (φ:Nat->C (Nat×Rp)) (H:Array A),Cs (λa v=>kI S w φ (λr=>ob.getD r none) a v/\oA (λr=>ob.getD r none) a) args H.toList->
  Mem E w S φ (λr=>ob.getD r none)->
  ∃v w',(callFunc f H).run P w=.ok (.value v) w'/\∃S' φ' r F,K r F/\Mem E w' S' φ' (λr=>F.getD r none)/\Kept w S φ (λr=>ob.getD r none) w' S' φ' (λr=>F.getD r none)/\
   kI S' w' φ' (λr=>F.getD r none) r v/\oA (λr=>F.getD r none) r
def Z6 (wl:WL)(P:Xdn)(f:Xdy)(args:O AV)(ob:O (C OB))(K:AV->O (C OB)->Prop):Prop:=Po wl P f args ob K\/ye wl P f args ob K
def Re (wl:WL)(P:Xdn)(cx:Cx):Prop:=cx.G=wl.G/\(∀f args gM H F,cx.C f args gM H F->xV wl P f args gM H F)/\
 ∀f args ob K,cx.I f args ob K->Z6 wl P f args ob K
def Cr {α:Type}(ρ:O Nat)(g:Nat->C α):Nat->C α:=λi=>(ρ[i]?).bind g
section
variable {P:Program} {T:TT} {E:Env} {w:B} {S S1:Sc} {φ:Nat->C (Nat×Rp)} {ob:Nat->C OB} {wr1:W}
def lV (r:Nat) :∀(l:O Nat) (n:Nat) (F N:Nat->Prop),Lq.go r l n F N->(∃k,l[k]?=some r/\F (n+k))\/(r∉l/\N (n+l.length))
 | [],n,F,N,h=>.inr ⟨by simp,h⟩
 | x::l,n,F,N,h=>by
  simp only[Lq.go] at h;cases H:Xal x r with
  | true=>simp only[H] at h;have:=X27 H;exact .inl ⟨0,by simp[this],h⟩
  | false=>
   simp only[H] at h;have J:x≠r:=λe=>by subst e;rw[show Xal x x=true from Xe6 x] at H;simp at H
   rcases lV r l (n+1) F N h with ⟨k,K,M⟩|⟨K,M⟩
   ·exact .inl ⟨k+1,by simpa using K,by rw[show n+(k+1)=n+1+k by omega];exact M⟩
   exact .inr ⟨by simp[K,Ne.symm J],by rw[show n+(x::l).length=n+1+l.length by simp;omega];exact M⟩
def Ext (ρ ρ':O Nat):Prop:=∃l,ρ'=ρ++l
def Ext.refl (ρ:O Nat):Ext ρ ρ:=⟨[],by simp⟩
def Ext.trans {a b c:O Nat}(h:Ext a b)(k:Ext b c):Ext a c:=by obtain⟨l,rfl⟩:=h;obtain⟨F,rfl⟩:=k;exact⟨l++F,by simp⟩
def Ext.get {ρ ρ':O Nat}(h:Ext ρ ρ'){i:Nat}(F:i<ρ.length):ρ'[i]?=ρ[i]?:=by obtain⟨l,rfl⟩:=h;exact Xaf F
def I4 {r:Nat}{ρ:O Nat}{K:Nat->O Nat->Prop}(M:ρ.Nodup)(h:Lq.refK r ρ K) :∃i ρ',K i ρ'/\ρ'[i]?=some r/\Ext ρ ρ'/\ρ'.Nodup/\∀x∈ρ',x∈ρ\/x=r:=by
 rcases lV r ρ 0 _ _ h with ⟨k,H,F⟩|⟨H,F⟩
 ·rw[Xbc] at F;exact⟨k,ρ,F,H,.refl ρ,M,λx J=>.inl J⟩
 rw[Xbc] at F;refine⟨_,_,F,by simp,⟨[r],rfl⟩,?_,λx J=>?_⟩
 ·rw[Xdi];exact⟨M,by simp,λa U b Q=>by simp at Q;subst Q;exact λe=>H (e▸U)⟩
 simpa using J
def D0 (S:Sc)(w:B)(φ:Nat->C (Nat×Rp))(ob:Nat->C OB)(ρ:O Nat)(a:AV)(v:A):Prop:=
 kI S w (Cr ρ φ) (Cr ρ ob) a v/\∀r∈a.refs,r<ρ.length
def D0.ext {ρ ρ':O Nat}{a:AV}{v:A}(h:D0 S w φ ob ρ a v)(H:Ext ρ ρ'):D0 S w φ ob ρ' a v:=by
 obtain⟨K,J⟩:=h;refine⟨K.mono (λ_ _ h=>⟨h,rfl⟩) λr F=>.inl ?_,λr F=>?_⟩
 ·have:=H.get (J r F);simp[Cr,this]
 have:=J r F;obtain⟨l,rfl⟩:=H;simp;omega
def mi {ρ:O Nat}{r i n:Nat}{v:A}(h:kI S w φ ob (.own r n) v)(F:ρ[i]?=some r):D0 S w φ ob ρ (.own i n) v:=by
 have U:=(X13.1 F).1;refine⟨?_,λr' J=>by simp only[AV.refs,X11] at J;omega⟩;cases h with|own _ _ _ k c a0 V Y Z hb=>
 refine .own i n v k c a0 V Y (λe sz es K H=>?_) λcs H=>?_
 ·simp only[Cr,F,Xby] at H;obtain⟨M,Q⟩:=Z e sz es K H;refine⟨M,λhn=>?_⟩;have:=Q hn;unfold JF at *;simpa[Cr,F] using this
 simp only[Cr,F,Xby] at H;obtain⟨M,b,c',Q,g3⟩:=hb cs H;exact⟨M,b,c',by simpa[Cr,F] using Q,g3⟩
def YH {ρ:O Nat}{r i off:Nat}{v:A}(h:kI S w φ ob (.ref r off) v)(F:ρ[i]?=some r):D0 S w φ ob ρ (.ref i off) v:=by
 have M:=(X13.1 F).1;refine⟨?_,λY H=>by simp only[AV.refs,X11] at H;omega⟩;cases h with|ref _ _ b c J Q=>
 exact .ref i off b c (by simpa[Cr,F] using J) λe sz U K V=>Q e sz U K (by simpa[Cr,F] using V)
def sB {ρ:O Nat}{r i:Nat}{v:A}(h:kI S w φ ob (.mp r) v)(F:ρ[i]?=some r):D0 S w φ ob ρ (.mp i) v:=by
 have Q:=(X13.1 F).1;refine⟨?_,λr' H=>by simp only[AV.refs,X11] at H;omega⟩;cases h with|mp _ b c J U V=>
 exact .mp i b c (by simpa[Cr,F] using J) (λe sz Y K M=>U e sz Y K (by simpa[Cr,F] using M)) λZ M=>V Z (by simpa[Cr,F] using M)
def rb {ρ:O Nat}{f r i:Nat}{v:A}(h:kI S w φ ob (.it f r) v)(F:ρ[i]?=some r):D0 S w φ ob ρ (.it f i) v:=by
 have Q:=(X13.1 F).1;refine⟨?_,λr' H=>by simp only[AV.refs,X11] at H;omega⟩;cases h with|it _ _ b c B J U V Y Z=>
 exact .it f i b c B (by simpa[Cr,F] using J) (λe sz es K M=>U e sz es K (by simpa[Cr,F] using M)) (λcs M=>V cs (by simpa[Cr,F] using M)) Y Z
def cM {obl:O (C OB)}{zV:I}(m:Mem E w S φ ob)(J:z7 (λr=>obl.getD r none) ob){a:AV}{v:A}{ρ:O Nat}(hn:ρ.Nodup){K:AV->O Nat->W->Prop}(ha:kI S w φ ob a v) (a8:oA (λr=>obl.getD r none) a) (h:Lq zV obl a ρ K) : ∃a' ρ' wr S',K a' ρ' wr/\Mem E w S' φ (Af ob wr)/\Kept w S φ ob w S' φ (Af ob wr)/\z7 (λr=>obl.getD r none) (Af ob wr)/\Xj obl wr/\Ext ρ ρ'/\ρ'.Nodup/\ (∀x∈ρ',x∈ρ\/obl.getD x none≠none)/\D0 S' w φ (Af ob wr) ρ' a' v:=by
 have data :∀{K:D->W->Prop},cW obl a K->∃x wr S',K x wr/\Mem E w S' φ (Af ob wr)/\Kept w S φ ob w S' φ (Af ob wr)/\z7 (λr=>obl.getD r none) (Af ob wr)/\Xj obl wr/\D0 S' w φ (Af ob wr) ρ (.d x) v:=by intro K h;obtain⟨x,wr,S',Q,U,V,Y,Z,h6⟩:=Di m J ha h;exact⟨x,wr,S',Q,U,V,Z,h6,.d _ _ Y,λr M=>by simp[AV.refs] at M⟩
 cases a<;>simp only[Lq] at h;case d x=>
  split at h
  ·cases ha with|d _ _ ha=>
   exact⟨_,ρ,[],S,h,m,.refl w S φ ob,J,λ_ _ hm=>by simp at hm,.refl ρ,hn,λx J=>.inl J,.d _ _ ha,λr M=>by simp[AV.refs] at M⟩
  rw[FU] at h;cases ha with|d _ _ ha=>
  exact⟨_,ρ,[],S,h,m,.refl w S φ ob,J,λ_ _ hm=>by simp at hm,.refl ρ,hn,λx J=>.inl J,.d _ _ ha.norm,λr M=>by simp[AV.refs] at M⟩
 case agg cs=>obtain⟨x,wr,S',Q,U,V,Y,Z,h6⟩:=data h;exact⟨_,ρ,wr,S',Q,U,V,Y,Z,.refl ρ,hn,λx J=>.inl J,h6⟩
 case ref r a7=>
  obtain⟨i,ρ',Q,U,V,Y,Z⟩:=I4 hn h;refine⟨_,ρ',[],S,Q,m,.refl w S φ ob,J,λ_ _ hm=>by simp at hm,V,Y,λx a6=>?_,YH ha U⟩;rcases Z x a6 with h|h
  ·exact .inl h
  exact .inr (a8 x (by simp[AV.refs,h]))
 case mp r=>
  obtain⟨i,ρ',Q,U,V,Y,Z⟩:=I4 hn h;refine⟨_,ρ',[],S,Q,m,.refl w S φ ob,J,λ_ _ hm=>by simp at hm,V,Y,λx a6=>?_,sB ha U⟩;rcases Z x a6 with h|h
  ·exact .inl h
  exact .inr (a8 x (by simp[AV.refs,h]))
 case it f r=>
  obtain⟨i,ρ',Q,U,V,Y,Z⟩:=I4 hn h;refine⟨_,ρ',[],S,Q,m,.refl w S φ ob,J,λ_ _ hm=>by simp at hm,V,Y,λx a6=>?_,rb ha U⟩;rcases Z x a6 with h|h
  ·exact .inl h
  exact .inr (a8 x (by simp[AV.refs,h]))
 case own r n=>
  cases zV with
  | true=>
   obtain⟨i,ρ',Q,U,V,Y,Z⟩:=I4 hn h;refine⟨_,ρ',[],S,Q,m,.refl w S φ ob,J,λ_ _ hm=>by simp at hm,V,Y,λx a6=>?_,mi ha U⟩;rcases Z x a6 with h|h
   ·exact .inl h
   exact .inr (a8 x (by simp[AV.refs,h]))
  | false=>obtain⟨x,wr,S',Q,U,V,Y,Z,h6⟩:=data h;exact⟨_,ρ,wr,S',Q,U,V,Y,Z,.refl ρ,hn,λx J=>.inl J,h6⟩
 case DM cs=>refine⟨_,ρ,[],S,h,m,.refl w S φ ob,J,λ_ _ hm=>by simp at hm,.refl ρ,hn,λx J=>.inl J,?_,λr M=>by simp[AV.refs] at M⟩;exact ha.mono (λ_ _ h=>⟨h,rfl⟩) λr M=>by simp[AV.refs] at M
 case fn f H=>
  cases ha with|fn _ _ vs g hs hf M=>
  have key :∀(H:O AV) (a7:Nat) (ρ:O Nat) (K:O AV->O Nat->Prop) (_:ρ.Nodup) (_ :∀i (hi:i<H.length),kI S w φ ob H[i] (g (a7+i))) (_ :∀r∈AV.refs.refsL H,obl.getD r none≠none)
    (_:Lq.capsK H ρ K),∃F ρ',K F ρ'/\F.length=H.length/\Ext ρ ρ'/\ρ'.Nodup/\(∀x∈ρ',x∈ρ\/obl.getD x none≠none)/\∀i (hi:i<F.length),D0 S w φ ob ρ' F[i] (g (a7+i)):=by
   intro H;induction H with
   | nil=>intro a7 ρ K hn _ _ h;exact⟨[],ρ,h,rfl,.refl ρ,hn,λx J=>.inl J,λi hi=>by simp at hi⟩
   | cons c H ih=>
    intro a7 ρ K hn M hc h;cases c<;>simp only[Lq.capsK] at h;case ref r o=>
     obtain⟨i,aa,Q,U,V,Y,Z⟩:=I4 hn h
     obtain⟨F,ab,g1,g2,g3,g4,g5,g6⟩:=ih (a7+1) aa _ Y (λi hi=>by
      have:=M (i+1) (by simpa using hi)
      simpa[Xc5,Xdj 1 i] using this) (λr M=>hc r (by simp[AV.refs.refsL,M])) Q
     refine⟨_,ab,g1,by simp[g2],V.trans g3,g4,λx J=>?_,λj hj=>?_⟩
     ·rcases g5 x J with h|h
      ·rcases Z x h with h|h
       ·exact .inl h
       exact .inr (hc x (by simp[AV.refs.refsL,AV.refs,h]))
      exact .inr h
     cases j with
     | zero=>have:=M 0 (by simp);simp only[Xbg] at this;exact (YH this U).ext g3
     | succ j=>have:=g6 j (by simpa using hj);simpa[Xc5,Xdj 1 j] using this
  obtain⟨F,ρ',g1,g2,g3,g4,g5,g6⟩:=key H 0 ρ _ hn (λi hi=>by simpa using M i hi) (λr M=>a8 r (by simpa[AV.refs] using M)) h;refine⟨_,ρ',[],S,g1,m,.refl w S φ ob,J,λ_ _ hm=>by simp at hm,g3,g4,g5,.fn f F vs g (by omega) (λi hi=>hf i (by omega)) (λi hi=>by have:=(g6 i hi).1;rw[Xbc] at this;exact this),λr M=>?_⟩;obtain⟨c,ae,af⟩:=AV.Bs F r (by simpa[AV.refs] using M);obtain⟨j,hj,rfl⟩:=Xai ae;exact (g6 j hj).2 r af
def Ln {obl:O (C OB)}{zV:O I} :∀{M:O AV} {vs:O A} {S:Sc} {ob:Nat->C OB} {ρ:O Nat} {K:O AV->O Nat->W->Prop} (_:Mem E w S φ ob) (_:z7 (λr=>obl.getD r none) ob) (_:ρ.Nodup) (_:Cs (λa v=>kI S w φ ob a v/\oA (λr=>obl.getD r none) a) M vs) (_:Tu zV obl M ρ K), ∃H ρ' wr S',K H ρ' wr/\Mem E w S' φ (Af ob wr)/\Kept w S φ ob w S' φ (Af ob wr)/\z7 (λr=>obl.getD r none) (Af ob wr)/\Xj obl wr/\Ext ρ ρ'/\ρ'.Nodup/\ (∀x∈ρ',x∈ρ\/obl.getD x none≠none)/\Cs (λa v=>D0 S' w φ (Af ob wr) ρ' a v) H vs
 | [],[],S,ob,ρ,K,m,Y,hn,_,h=>⟨[],ρ,[],S,h,m,.refl w S φ ob,Y,λ_ _ Q=>by simp at Q,.refl ρ,hn,λx Y=>.inl Y,.nil⟩
 | a::M,v::vs,S,ob,ρ,K,m,Y,hn,hv,h=>by
  cases hv with|cons h1 h2=>
  simp only[Tu] at h;obtain⟨a',F,wr,S1,hK,m1,k1,a6,ae,e1,n1,r1,s1⟩:=cM m Y hn h1.1 h1.2 h;have af :∀{r:Nat},obl.getD r none≠none->ob r≠none:=by
   intro r Z;rcases Y r with e1|⟨e,sz,es,f,e1,e2⟩
   ·rw[e1];exact Z
   rw[e2];simp
  obtain⟨H,a7,a8,S2,g1,g2,g3,g4,g5,g6,g7,g8,g9⟩:=Ln m1 a6 n1 (h2.imp λa v U=>⟨k1.Ke (λr Z=>af (U.2 r Z)) U.1,U.2⟩) hK;refine⟨a'::H,a7,wr++a8,S2,g1,by rw[AQ];exact g2,by rw[AQ];exact k1.trans g3,by rw[AQ];exact g4,λr o Q=>?_,e1.trans g6,g7,λx ag=>?_,?_⟩
  ·rcases X20.1 Q with Q|Q
   ·exact ae r o Q
   exact g5 r o Q
  ·rcases g8 x ag with h|h
   ·exact r1 x h
   exact .inr h
  rw[AQ];refine .cons ?_ g9;obtain⟨s2,s3⟩:=s1.ext g6;refine⟨s2.mono g3.k λr Z=>?_,s3⟩;have aa:=s1.2 r Z;have ai:=s3 r Z;have ah:F[r]?=some F[r]:=X12 aa;have V:a7[r]?=some F[r]:=(g6.get aa).trans ah;by_cases J:Af ob wr F[r]=none
  ·have ab:obl.getD F[r] none=none:=by
    rcases a6 F[r] with e|⟨e,sz,es,f,_,e2⟩
    ·exact e.symm.trans J
    rw[J] at e2;simp at e2
   have:Af (Af ob wr) a8 F[r]=none:=g4.none ab;refine .inl ⟨by simp[Cr,V],?_,?_⟩<;>simp[Cr,V,this,J]
  have:=g3.r F[r] J;simpa[DS,Cr,V] using this
 | [],_::_,_,_,_,_,_,_,_,hv,_=>by cases hv
 | _::_,[],_,_,_,_,_,_,_,hv,_=>by cases hv
def KO (F:O AV)(K:O AV->Prop):IR.cellsD F K↔(A9 (.box F)=true/\K F):=by
 induction F generalizing K with
 | nil=>simp[IR.cellsD,A9]
 | cons c F H=>cases c<;>simp only[IR.cellsD,A9,Xd5]<;>simp;simpa[A9] using H _
def Hv {obl:O (C OB)} :∀{ρ:O Nat} {K:O OB->Prop},IR obl ρ K->∃gM,K gM/\gM.length=ρ.length/\∀i (F:i<gM.length) (hi':i<ρ.length),obl.getD ρ[i] none=some gM[i]/\A9 gM[i]=true
 | [],K,h=>⟨[],h,rfl,λi F=>by simp at F⟩
 | r::ρ,K,h=>by
  simp only[IR,Ao] at h;obtain⟨o,Q,h⟩:=h;cases o with
  | box V=>
   simp only[KO] at h;obtain⟨Y,h⟩:=h;obtain⟨gM,H,J,M⟩:=Hv h;refine⟨.box V::gM,H,by simp[J],λi F hi'=>?_⟩;cases i with
   | zero=>exact⟨Q,Y⟩
   | succ i=>exact M i (by simpa using F) (by simpa using hi')
  | row e sz U f=>
   simp only[AI] at h;obtain⟨Z,h⟩:=h;obtain⟨gM,H,J,M⟩:=Hv h;refine⟨.row e sz U f::gM,H,by simp[J],λi F hi'=>?_⟩;cases i with
   | zero=>exact⟨Q,Z⟩
   | succ i=>exact M i (by simpa using F) (by simpa using hi')
  | zj=>exact h.elim
  | gone=>exact h.elim
  | map k e U=>
   simp only at h;obtain⟨gM,H,J,M⟩:=Hv h;refine⟨.map k e U::gM,H,by simp[J],λi F hi'=>?_⟩;cases i with
   | zero=>exact⟨Q,rfl⟩
   | succ i=>exact M i (by simpa using F) (by simpa using hi')
def RL {self:Nat} :∀{ρ:O Nat} {gM:O OB} {K:W->Prop},Ky ρ self gM K-> ∃wr,K wr/\(∀o∈gM,A9 o=true)/\(gM.length=ρ.length\/gM.length=ρ.length+1)/\wr=(ρ++[self]).zip gM
 | [],[],K,h=>⟨[],h,by simp,.inl rfl,rfl⟩
 | [],[o],K,h=>by
  simp only[Ky] at h;split at h
  ·rename_i F;exact⟨_,h,by simpa using F,.inr rfl,rfl⟩
  exact h.elim
 | r::ρ,o::os,K,h=>by
  simp only[Ky] at h;split at h
  ·rename_i F;obtain⟨wr,H,J,M,Q⟩:=RL h;refine⟨_,H,λx U=>?_,by simpa using M,by simp[Q]⟩;rcases Xa7.1 U with e|e
   ·rw[e];exact F
   exact J x e
  exact h.elim
 | [],_::_::_,K,h=>by simp[Ky] at h
 | _::_,[],K,h=>by simp[Ky] at h
def F1.rename {φ':Nat->C (Nat×Rp)}{ob':Nat->C OB}{r Z:Nat}{o:OB}(h:F1 S w φ ob r o)(M:A9 o=true)(F:φ' Z=φ r):F1 S w φ' ob' Z o:=by
 cases o with
 | box Q=>
  obtain⟨b,c,vs,e,f,J,K,U,h4,h5,h6⟩:=h;refine⟨b,c,vs,e,f,F.trans J,K,U,h4,h5,λj V=>⟨(h6 j V).1,?_⟩⟩;have h7:=(h6 j V).2;have :∃x,Q[j]=.d x:=by simp only[A9,Xa6] at M;have:=M Q[j] (Xad V);revert this;cases Q[j]<;>simp
  obtain⟨x,hx⟩:=this;rw[hx] at h7⊢;cases h7 with|d _ _ h=>exact .d _ _ h
 | row e sz es a6=>obtain⟨h0,J,K,U⟩:=h;exact⟨h0,J,K,U.imp (λg=>⟨F.trans g.1,g.2⟩) λ⟨b,Y,vs,f,g1,q2,q3,q4,q5,q6,q7,q8⟩=>⟨b,Y,vs,f,F.trans g1,q2,q3,q4,q5,q6,q7,q8.1,λi j q n hf _ _=>(FZ.notlk (by simpa[A9] using M) hf).elim⟩⟩
 | gone=>trivial
 | map k e es=>obtain⟨b,c,arr,H,J,K⟩:=h;exact⟨b,c,arr,H,F.trans J,K⟩
 | zj=>simp[A9] at M
def KU {o:OB}(h:A9 o=true):o.refs=[]:=by
 cases o with
 | box F=>
  simp only[OB.refs];simp only[A9,Xa6] at h;induction F with
  | nil=>rfl
  | cons c F H=>simp only[AV.refs.refsL];rw[H λx J=>h x (by simp[J])];have:=h c (by simp);revert this;cases c<;>simp[AV.refs]
 | row e sz K f=>
  cases f with
  | lk=>simp[A9] at h
  | _=>rfl
 | zj=>simp[A9] at h
 | map=>rfl
 | gone=>rfl
def bJ {ρ:O Nat}{self:Nat}{φ':Nat->C (Nat×Rp)}{ob':Nat->C OB}{a:AV}{v:A}{K:AV->Prop}(ha:kI S w φ ob a v)(Z:oA ob a) (hr :∀i,ob i≠none->φ' (ρ.getD i self)=φ i/\ob' (ρ.getD i self)=ob i) (h:N9 ρ self a K) :∃a',K a'/\kI S w φ' ob' a' v/\oA ob' a':=by
 have own :∀{i n:Nat} {v:A},kI S w φ ob (.own i n) v->ob i≠none->kI S w φ' ob' (.own (ρ.getD i self) n) v:=by
  intro i n v h H;obtain⟨e1,e2⟩:=hr i H;cases h with|own _ _ _ k c a0 hv hk h1 hb=>
  refine .own _ n v k c a0 hv hk (λe sz es Y V=>?_) (λQ V=>by
   obtain⟨g1,b,c',g2,g3⟩:=hb Q (e2▸V)
   exact⟨g1,b,c',e1.trans g2,g3⟩)
  rw[e2] at V;obtain⟨g1,g2⟩:=h1 e sz es Y V;refine⟨g1,λhn=>?_⟩;have:=g2 hn;unfold JF at *;rwa [e1]
 have ref :∀{i M:Nat} {v:A},kI S w φ ob (.ref i M) v->ob i≠none->kI S w φ' ob' (.ref (ρ.getD i self) M) v:=by intro i M v h H;obtain⟨e1,e2⟩:=hr i H;cases h with|ref _ _ b c a6 hb=>exact .ref _ M b c (e1.trans a6) λe sz es Y V=>hb e sz es Y (e2▸V)
 have cl :∀{i:Nat},ob i≠none->ob' (ρ.getD i self)≠none:=λ{i} H=>by rw[(hr i H).2];exact H
 have mp :∀{i:Nat} {v:A},kI S w φ ob (.mp i) v->ob i≠none->kI S w φ' ob' (.mp (ρ.getD i self)) v:=by intro i v h H;obtain⟨e1,e2⟩:=hr i H;cases h with|mp _ b c a6 hb hc=>exact .mp _ b c (e1.trans a6) (λe sz es Y V=>hb e sz es Y (e2▸V)) λQ V=>hc Q (e2▸V)
 have key :∀(f:Nat->A) (Q:O AV) (M:Nat) (K:O AV->Prop) (_ :∀i (U:i<Q.length),kI S w φ ob Q[i] (f (M+i))) (_ :∀c∈Q,oA ob c) (_:N9.renTup ρ self Q K),
   ∃J,K J/\J.length=Q.length/\J.map AV.one=Q.map AV.one/\∀i (U:i<J.length),kI S w φ' ob' J[i] (f (M+i))/\oA ob' J[i]:=by
  intro f Q;induction Q with
  | nil=>intro M K _ _ h;exact⟨[],h,rfl,rfl,λi U=>by simp at U⟩
  | cons c Q ih=>
   intro M K F hc h;have h0:=F 0 (by simp);simp only[Xbg,Xcy] at h0;have a8:=hc c (by simp);have go :∀(c':AV),c'.one=c.one->kI S w φ' ob' c' (f M)->oA ob' c'->N9.renTup ρ self Q (λl=>K (c'::l))->∃J,K J/\J.length=(c::Q).length/\J.map AV.one=(c::Q).map AV.one/\∀i (U:i<J.length),kI S w φ' ob' J[i] (f (M+i))/\oA ob' J[i]:=by
    intro c' q0 q1 q2 h
    obtain⟨J,g1,g2,gm,g3⟩:=ih (M+1) _ (λi U=>by
     have:=F (i+1) (by simpa using U)
     simpa[Xc5,Xdj 1 i] using this) (λx V=>hc x (by simp[V])) h
    refine⟨c'::J,g1,by simp[g2],by simp only[Xbk,q0,gm],λi U=>?_⟩;cases i with
    | zero=>exact⟨q1,q2⟩
    | succ i=>have:=g3 i (by simpa using U);simpa[Xc5,Xdj 1 i] using this
   cases c<;>simp only[N9.renTup] at h;case d x=>cases h0 with|d _ _ h0=>exact go _ rfl (.d _ _ h0) (A0 _ _) h
   case ref i o=>have H:=a8 i (by simp[AV.refs]);exact go (.ref (ρ.getD i self) o) rfl (ref h0 H) (λr F=>by simp only[AV.refs,X11] at F;rw[F];exact cl H) h
   case own i o=>have H:=a8 i (by simp[AV.refs]);exact go (.own (ρ.getD i self) o) rfl (own h0 H) (λr F=>by simp only[AV.refs,X11] at F;rw[F];exact cl H) h
 cases a<;>simp only[N9] at h;case d x=>cases ha with|d _ _ ha=>exact⟨_,h,.d _ _ ha,A0 _ _⟩
 case ref i M=>have H:=Z i (by simp[AV.refs]);exact⟨_,h,ref ha H,λr F=>by simp only[AV.refs,X11] at F;rw[F];exact cl H⟩
 case own i n=>have H:=Z i (by simp[AV.refs]);exact⟨_,h,own ha H,λr F=>by simp only[AV.refs,X11] at F;rw[F];exact cl H⟩
 case mp i=>have H:=Z i (by simp[AV.refs]);exact⟨_,h,mp ha H,λr F=>by simp only[AV.refs,X11] at F;rw[F];exact cl H⟩
 case it f i=>
  have H:=Z i (by simp[AV.refs]);obtain⟨e1,e2⟩:=hr i H;cases ha with|it _ _ b c B a6 hb hc hS hm=>
  exact⟨_,h,.it f _ b c B (e1.trans a6) (λe sz es Y V=>hb e sz es Y (e2▸V)) (λQ V=>hc Q (e2▸V)) hS hm,λr F=>by simp only[AV.refs,X11] at F;rw[F];exact cl H⟩
 case agg Q=>
  cases ha with|agg _ vs f hs hf aa a7=>
  obtain⟨J,g1,g2,gm,g3⟩:=key f Q 0 _ (λi U=>by simpa using a7 i U) (λc hm r F=>by
   obtain⟨j,hj,rfl⟩:=Xai hm
   exact Z r (by simpa[AV.refs] using AV.z8 Q j hj r F)) h
  refine⟨_,g1,.agg J vs f (by omega) (λi U=>hf i (by omega)) (λi U=>by
   have e:(J.map AV.one)[i]'(by simpa using U)=(Q.map AV.one)[i]'(by simp;omega):=by simp only[gm]
   simp only[Xb6] at e
   rw[e];exact aa i (by omega)) (λi U=>by have:=(g3 i U).1;rw[Xbc] at this;exact this),λr F=>?_⟩
  obtain⟨c,h1,h2⟩:=AV.Bs J r (by simpa[AV.refs] using F);obtain⟨j,hj,rfl⟩:=Xai h1;exact (g3 j hj).2 r h2
 case Ca Q=>
  cases ha with|Ca _ vs f hs hf a7=>
  obtain⟨J,g1,g2,gm,g3⟩:=key f Q 0 _ (λi U=>by simpa using a7 i U) (λc hm r F=>by
   obtain⟨j,hj,rfl⟩:=Xai hm
   exact Z r (by simpa[AV.refs] using AV.z8 Q j hj r F)) h
  refine⟨_,g1,.Ca J vs f (by omega) (λi U=>hf i (by omega)) (λi U=>by have:=(g3 i U).1;rw[Xbc] at this;exact this),λr F=>?_⟩;obtain⟨c,h1,h2⟩:=AV.Bs J r (by simpa[AV.refs] using F);obtain⟨j,hj,rfl⟩:=Xai h1;exact (g3 j hj).2 r h2
def js (ρ:O Nat)(self:Nat):AV->C AV
 | .d x=>some (.d x)
 | .ref i F=>some (.ref (ρ.getD i self) F)
 | .own i n=>some (.own (ρ.getD i self) n)
 | .mp i=>some (.mp (ρ.getD i self))
 | .it f i=>some (.it f (ρ.getD i self))
 | .Ca vs=>(renT vs).map .Ca
 | .agg vs=>(renT vs).map .agg
 | _=>none where
 renT:O AV->C (O AV)
  | []=>some []
  | .d x::l=>(renT l).map (.d x::·)
  | .ref i F::l=>(renT l).map (.ref (ρ.getD i self) F::·)
  | .own i n::l=>(renT l).map (.own (ρ.getD i self) n::·)
  | _::_=>none
def PH (ρ:O Nat)(self:Nat)(a:AV)(K:AV->Prop):N9 ρ self a K ↔∃Q,js ρ self a=some Q/\K Q:=by
 have Ca :∀(l:O AV) (K:O AV->Prop),N9.renTup ρ self l K ↔∃F,js.renT ρ self l=some F/\K F:=by
  intro l;induction l with
  | nil=>intro K;simp[N9.renTup,js.renT]
  | cons c l U=>
   intro K;cases c<;>simp only[N9.renTup,js.renT,U,Xb3];case d=>exact⟨λ⟨F,H,J⟩=>⟨_,⟨F,H,rfl⟩,J⟩,λ⟨_,⟨F,H,M⟩,J⟩=>⟨F,H,M▸J⟩⟩
   case ref=>exact⟨λ⟨F,H,J⟩=>⟨_,⟨F,H,rfl⟩,J⟩,λ⟨_,⟨F,H,M⟩,J⟩=>⟨F,H,M▸J⟩⟩
   case own=>exact⟨λ⟨F,H,J⟩=>⟨_,⟨F,H,rfl⟩,J⟩,λ⟨_,⟨F,H,M⟩,J⟩=>⟨F,H,M▸J⟩⟩
   all_goals simp
 cases a<;>simp only[N9,js,Ca,Xb3];case agg=>exact⟨λ⟨F,H,J⟩=>⟨_,⟨F,H,rfl⟩,J⟩,λ⟨_,⟨F,H,M⟩,J⟩=>⟨F,H,M▸J⟩⟩
 case Ca=>exact⟨λ⟨F,H,J⟩=>⟨_,⟨F,H,rfl⟩,J⟩,λ⟨_,⟨F,H,M⟩,J⟩=>⟨F,H,M▸J⟩⟩
 all_goals simp
def EM :∀(wr:W) (ob:Nat->C OB) (r:Nat),(∀x∈wr,x.1≠r)->Af ob wr r=ob r
 | [],ob,r,_=>rfl
 | (F,o)::wr,ob,r,h=>by simp only[Af];rw[EM wr _ r λx H=>h x (by simp[H]),AO _ _ _ _ (Ne.symm (h (F,o) (by simp)))]
def S9 :∀(ρ:O Nat) (gM:O OB) (ob:Nat->C OB),ρ.Nodup->ρ.length=gM.length-> (∀i (J:i<ρ.length) (hi':i<gM.length),Af ob (ρ.zip gM) ρ[i]=some gM[i])/\∀r,r∉ρ->Af ob (ρ.zip gM) r=ob r
 | [],[],ob,_,_=>⟨λi J=>by simp at J,λr _=>rfl⟩
 | r::ρ,o::gM,ob,Q,H=>by
  obtain⟨U,K⟩:=List.nodup_cons.1 Q;obtain⟨V,M⟩:=S9 ρ gM (zg ob r (some o)) K (by simpa using H);simp only[List.zip_cons_cons,Af];refine⟨λi J hi'=>?_,λY F=>?_⟩
  ·cases i with
   | zero=>simp only[Xbg];rw[M r U,gS]
   | succ i=>exact V i (by simpa using J) (by simpa using hi')
  simp only[Xa7,not_or] at F;rw[M Y F.2,AO _ _ _ _ F.1]
 | [],_::_,_,_,H=>by simp at H
 | _::_,[],_,_,H=>by simp at H
def X5 {α F:Type} :∀(l:O α) (k:O F),l.zip k=(l.take k.length).zip k
 | [],k=>by simp
 | x::l,[]=>by simp
 | x::l,y::k=>by simp[<- X5 l k]
def back (ρ:O Nat)(φ φ':Nat->C (Nat×Rp)):Nat->C (Nat×Rp):=λr=>if r∈ρ then φ' (ρ.idxOf r) else φ r
def Iw {ρ:O Nat}(H:ρ.Nodup){φ φ':Nat->C (Nat×Rp)}{i:Nat}(F:i<ρ.length):back ρ φ φ' ρ[i]=φ' i:=by unfold back;rw[Xa2 (Xad F),H.idxOf_getElem i F]
def Jk {ρ:O Nat}{φ φ':Nat->C (Nat×Rp)}{r:Nat}(h:r∉ρ):back ρ φ φ' r=φ r:=by unfold back;rw[Xa1 h]
def Mem.merge {w':B}{S':Sc}{φ':Nat->C (Nat×Rp)}{gM F:O OB}{ρ ρ':O Nat}(m:Mem E w S φ ob)(a6 :∀r∈ρ,ob r≠none)(aa:zo gM=Cr ρ ob)(K:gM.length=ρ.length) {ab:Nat->Prop} {ah:GS E.wl ab (Jo (Cr ρ φ) gM.length) S w} (M:Mem ⟨w,S,Jo (Cr ρ φ) gM.length,E.wl,ab,ah⟩ w' S' φ' (zo F)) (k':Kept w S (Cr ρ φ) (zo gM) w' S' φ' (zo F)) (ae :∀o∈F,A9 o=true) (hn:ρ'.Nodup) (hl:ρ'.length=F.length) (hx:Ext ρ ρ') (af :∀r∈ρ',r∈ρ\/ob r=none) : Mem E w' S' (back ρ' φ φ') (Af ob (ρ'.zip F))/\Kept w S φ ob w' S' (back ρ' φ φ') (Af ob (ρ'.zip F)):=by
 obtain⟨z1,z2⟩:=S9 ρ' F ob hn hl;have a7 :∀r,r∈ρ->r∈ρ':=λr J=>by obtain⟨l,rfl⟩:=hx;exact Xcf _ J
 have ai:ρ.length<=ρ'.length:=by obtain⟨l,rfl⟩:=hx;simp
 have Fw :∀{r:Nat},ob r≠none->r∉ρ' \/∃i,∃H:i<ρ.length,ρ[i]=r/\∃Q:i<ρ'.length,ρ'[i]=r:=by
  intro r J;by_cases h:r∈ρ'
  ·rcases af r h with h'|h'
   ·obtain⟨i,H,rfl⟩:=Xai h';refine .inr ⟨i,H,rfl,by omega,?_⟩;have:=hx.get H;rw[X12 H,X12 (by omega)] at this;exact X22 this
   exact absurd h' J
  exact .inl h
 have U :∀{r b c},ob r≠none->r∉ρ->φ r=some (b,c)->¬ Jo (Cr ρ φ) gM.length b:=by rintro r b c h1 V h3 ⟨i,c',H,Y⟩;rw[K] at H;simp only[Cr,X12 H,Xby] at Y;exact V (m.inj r ρ[i] b c c' h1 (a6 _ (Xad H)) h3 Y▸Xad H)
 have ag :∀{r b c},ob r≠none->r∉ρ->φ r=some (b,c)->w'.heap[b]?=w.heap[b]?/\∀o,S' b o->S b o:=by intro r b c h1 V h3;have hb:=(m.ow r b c h1 h3).1;have hp:=U h1 V h3;exact⟨M.fr b hb hp,λo ho=>M.nS b o ho hb hp⟩
 have hk:Kept w S φ ob w' S' (back ρ' φ φ') (Af ob (ρ'.zip F)):=by
  refine⟨k'.k,λr J=>?_,λr J=>?_⟩
  ·rcases Fw J with h|⟨i,H,e1,Q,e2⟩
   ·refine .inl ?_;rw[Jk h,z2 r h];exact⟨rfl,rfl,id⟩
   have a8:=k'.r i (by rw[aa];simp[Cr,H,e1,J]);have q1:Cr ρ φ i=φ r:=by simp[Cr,H,e1]
   have q2:zo gM i=ob r:=by rw[aa];simp[Cr,H,e1]
   have q3:back ρ' φ φ' r=φ' i:=by rw[<- e2];exact Iw hn Q
   have q4:Af ob (ρ'.zip F) r=zo F i:=by rw[<- e2,z1 i Q (by omega)];simp[zo,show i<F.length by omega]
   unfold DS at a8⊢;rw[q1,q2] at a8;rw[q3,q4];exact a8
  rcases Fw J with h|⟨i,H,e1,Q,e2⟩
  ·rw[z2 r h];exact J
  rw[<- e2,z1 i Q (by omega)];simp
 refine⟨⟨?_,?_,?_,?_,?_,M.bS |> λh=>h,?_,?_,?_,?_,?_⟩,hk⟩
 ·intro r o h;by_cases J:r∈ρ'
  ·obtain⟨i,H,rfl⟩:=Xai J;rw[z1 i H (by omega)] at h;obtain rfl:=X22 h;exact (M.obj i F[i] (by simp[zo,show i<F.length by omega])).rename (ae _ (Xad _)) (Iw hn H)
  rw[z2 r J] at h;exact (m.obj r o h).zV hk (Jk J) (λb c hb=>ag (by simp[h]) (λhh=>J (a7 r hh)) hb) (m.GJ r o h)
 ·intro r1 r2 b c c' h1 V g1 g2;have Z :∀{r1 r2 b c c'},r1∈ρ'->r2∉ρ'->Af ob (ρ'.zip F) r2≠none->back ρ' φ φ' r1=some (b,c)->back ρ' φ φ' r2=some (b,c')->False:=by
   intro r1 r2 b c c' e1 e2 V g1 g2;obtain⟨i,H,rfl⟩:=Xai e1;rw[Iw hn H] at g1;rw[Jk e2] at g2;rw[z2 _ e2] at V;have q1:=M.ow i b c (by simp[zo,show i<F.length by omega]) g1;have q2:=(m.ow r2 b c' V g2).1;rcases q1.2 with q|q
   ·simp only at q;omega
   exact U V (λhh=>e2 (a7 r2 hh)) g2 q
  by_cases e1:r1∈ρ'
  ·by_cases e2:r2∈ρ'
   ·obtain⟨i,H,rfl⟩:=Xai e1;obtain⟨j,hj,rfl⟩:=Xai e2;rw[Iw hn H] at g1;rw[Iw hn hj] at g2;have:i=j:=M.inj i j b c c' (by simp[zo,show i<F.length by omega]) (by simp[zo,show j<F.length by omega]) g1 g2;subst this;rfl
   exact (Z e1 e2 V g1 g2).elim
  by_cases e2:r2∈ρ'
  ·exact (Z e2 e1 h1 g2 g1).elim
  rw[Jk e1] at g1;rw[Jk e2] at g2;rw[z2 _ e1] at h1;rw[z2 _ e2] at V;exact m.inj r1 r2 b c c' h1 V g1 g2
 ·intro r o h r' hm;by_cases J:r∈ρ'
  ·obtain⟨i,H,rfl⟩:=Xai J;rw[z1 i H (by omega)] at h;obtain rfl:=X22 h;rw[KU (ae _ (Xad _))] at hm;simp at hm
  rw[z2 r J] at h;exact hk.c _ (m.GJ r o h r' hm)
 ·exact λb o h=>M.sS b o (m.sS b o h)
 ·exact λb o h=>(M.kS b o (m.sS b o h)).trans (m.kS b o h)
 ·intro b o h hb hp;by_cases hq:Jo (Cr ρ φ) gM.length b
  ·obtain⟨i,c,H,Y⟩:=hq;rw[K] at H;simp only[Cr,X12 H,Xby] at Y;rcases (m.ow ρ[i] b c (a6 _ (Xad H)) Y).2 with g|g
   ·omega
   exact absurd g hp
  exact m.nS b o (M.nS b o h (Xb4 hb m.sz) hq) hb hp
 ·intro b hb hp;refine (M.fr b (Xb4 hb m.sz) λhq=>?_).trans (m.fr b hb hp);obtain⟨i,c,H,Y⟩:=hq;rw[K] at H;simp only[Cr,X12 H,Xby] at Y;rcases (m.ow ρ[i] b c (a6 _ (Xad H)) Y).2 with g|g
  ·omega
  exact hp g
 ·exact Xay m.sz M.sz
 ·intro r b c h g;by_cases J:r∈ρ'
  ·obtain⟨i,H,rfl⟩:=Xai J;rw[Iw hn H] at g;have q:=M.ow i b c (by simp[zo,show i<F.length by omega]) g;refine⟨q.1,?_⟩;rcases q.2 with q|⟨j,c',hj,Y⟩
   ·have:=m.sz;simp only at q;exact .inl (by omega)
   rw[K] at hj;simp only[Cr,X12 hj,Xby] at Y;exact (m.ow ρ[j] b c' (a6 _ (Xad hj)) Y).2
  rw[z2 r J] at h;rw[Jk J] at g;have q:=m.ow r b c h g;have:=M.sz;simp only at this;exact⟨by omega,q.2⟩
 obtain⟨a1,a2,a3,a4⟩:=M.os;obtain⟨b1,b2,b3,b4⟩:=m.os;exact⟨a1.trans b1,a2.trans b2,a3.trans b3,a4.elim .inl λa=>b4.imp_right λh=>Xay h a⟩
def UH {obl:O (C OB)}(m1:Mem E w S1 φ (Af (λr=>obl.getD r none) wr1))(k1:Kept w S φ (λr=>obl.getD r none) w S1 φ (Af (λr=>obl.getD r none) wr1))(ay:z7 (λr=>obl.getD r none) (Af (λr=>obl.getD r none) wr1)) {f:Xdy} {M:O AV} {J:Array A} {ρ ρ' ρ0:O Nat} {self:Nat} {gM F:O OB} {ah Q:AV} (az:Xj obl wr1) (hn:ρ.Nodup) (ba :∀x∈ρ,x∈([]:O Nat)\/obl.getD x none≠none) (seen:Cs (λa v=>D0 S1 w φ (Af (λr=>obl.getD r none) wr1) ρ a v) M J.toList) (ai:L6.apartW wr1 ρ=true) (aj:gM.length=ρ.length) (U :∀i (H:i<gM.length) (hi':i<ρ.length),obl.getD ρ[i] none=some gM[i]/\A9 gM[i]=true) (hC:xV E.wl P f M gM ah F) (ak:js ρ0 self ah=some Q) (bb :∀o∈F,A9 o=true) (al :∀i (H:i<ρ'.length),ρ0.getD i self=ρ'[i]) (V:ρ'.length=F.length) (hx:Ext ρ ρ') (aa:ρ'.Nodup) (a6 :∀r∈ρ',r∈ρ\/obl[r]?=some none) : (∀ r o, (r, o) ∈ wr1 ++ ρ'.zip F → r < obl.length) ∧ (∃ fn, P.funcs[f]? = some fn ∧ fn.name ≠ "runtime.NumGoroutine" ∧ fn.body.isSome = true) ∧ Calls P f J w λe w'=>∃v,e=.returned v/\zP E w S φ (λr=>obl.getD r none) Q (wr1++ρ'.zip F) v w':=by
 obtain⟨bc,ab⟩:=hC;have an :∀x∈wr1,∀r∈ρ,x.1≠r:=by intro x hx r Z e;simp only[L6.apartW,Xa6] at ai;have:=ai x hx r Z;rw[show Xal r x.1=true by rw[e];exact Xe6 r] at this;simp at this
 have a8 :∀r∈ρ,obl.getD r none≠none:=λr Z=>(ba r Z).resolve_left (by simp);have a7 :∀r∈ρ,Af (λr=>obl.getD r none) wr1 r=obl.getD r none:=λr Z=>EM _ _ _ λx hx=>an x hx r Z;have ao:zo gM=Cr ρ (Af (λr=>obl.getD r none) wr1):=by
  funext i;by_cases H:i<ρ.length
  ·have hi':i<gM.length:=by omega
   simp only[zo,Cr,X12 H,X12 hi',Xby];rw[a7 _ (Xad H),(U i hi' H).1]
  simp[zo,Cr,show ρ.length<=i by omega,show gM.length<=i by omega]
 have Y :∀r∈ρ,Af (λr=>obl.getD r none) wr1 r≠none:=λr Z=>by rw[a7 r Z];exact a8 r Z
 have ap:GS E.wl E.gb (Jo (Cr ρ φ) gM.length) S1 w:=m1.T7 λb hb=>by
  obtain⟨i,c,H,hs⟩:=hb;have hi':i<ρ.length:=by omega
  exact⟨ρ[i],c,Y _ (Xad hi'),by simpa[Cr,hi'] using hs⟩
 have m0:Mem ⟨w,S1,Jo (Cr ρ φ) gM.length,E.wl,E.gb,ap⟩ w S1 (Cr ρ φ) (zo gM):=by
  have get :∀{i:Nat},zo gM i≠none->∃H:i<ρ.length,Af (λr=>obl.getD r none) wr1 ρ[i]≠none/\Cr ρ φ i=φ ρ[i]:=by
   intro i h;have H:i<ρ.length:=by refine Xbs λaq=>h ?_;simp[zo,show gM.length<=i by omega]
   exact⟨H,Y _ (Xad H),by simp[Cr,H]⟩
  refine⟨λi o h=>?_,λi j b c c' h1 h2 g1 g2=>?_,λi o h r' hm=>?_,λ_ _ h=>h,λ_ _ _=>rfl,m1.bS,λ_ _ h _ _=>h,λ_ _ _=>rfl,Xak _,λi b c h g=>?_,rfl,rfl,rfl,.inr (Xak _)⟩
  ·obtain⟨H,h1,h2⟩:=get (i:=i) (by simp[h]);have hi':i<gM.length:=by omega
   have e1:gM[i]=o:=by simpa[zo,hi'] using h
   have e2:Af (λr=>obl.getD r none) wr1 ρ[i]=some gM[i]:=by rw[a7 _ (Xad H),(U i hi' H).1]
   rw[<- e1];exact (m1.obj _ _ e2).rename (U i hi' H).2 h2
  ·obtain⟨H,p1,p2⟩:=get h1;obtain⟨hj,q1,q2⟩:=get h2;rw[p2] at g1;rw[q2] at g2;have:=m1.inj _ _ b c c' p1 q1 g1 g2;exact (List.getElem_inj hn).1 this
  ·obtain⟨H,_,_⟩:=get (i:=i) (by simp[h]);have hi':i<gM.length:=by omega
   have e1:gM[i]=o:=by simpa[zo,hi'] using h
   rw[<- e1,KU (U i hi' H).2] at hm;simp at hm
  obtain⟨H,p1,p2⟩:=get h;exact⟨(m1.ow _ b c p1 (p2▸g)).1,.inr ⟨i,c,by omega,g⟩⟩
 have zx:J.size=M.length:=by
  have :∀{l:O AV} {k:O A} {R:AV->A->Prop},Cs R l k->l.length=k.length:=by
   intro l k R h;induction h with
   | nil=>rfl
   | cons _ _ ih=>simp[ih]
  have:=this seen;simpa using this.symm
 have ae :∀i (H:i<M.length),kI S1 w (Cr ρ φ) (zo gM) M[i] (J.getD i Xck)/\oA (zo gM) M[i]:=by
  have get :∀{l:O AV} {k:O A} {R:AV->A->Prop},Cs R l k->∀i (H:i<l.length),∃v,k[i]?=some v/\R l[i] v:=by
   intro l k R h;induction h with
   | nil=>intro i H;simp at H
   | cons h _ ih=>
    intro i H;cases i with
    | zero=>exact⟨_,rfl,h⟩
    | succ i=>exact ih i (by simpa using H)
  intro i H;obtain⟨v,h1,h2,h3⟩:=get seen i H;have:J.getD i Xck=v:=by
   have:J[i]?=some v:=by simpa using h1
   simp[this]
  rw[this,ao];refine⟨h2,λr Z=>?_⟩;have ar:=h3 r Z;simp only[Cr,X12 ar,Xby];exact Y _ (Xad ar)
 have af :∀r,gM.length<=r->Cr ρ φ r=none:=λr Z=>by simp[Cr,show ρ.length<=r by omega]
 have au :∀r∈ρ',r∈ρ\/Af (λr=>obl.getD r none) wr1 r=none:=λr Z=>(a6 r Z).imp id λh=>ay.none (CQ h).1;refine⟨λr o hm=>?_,bc,(ab w S1 (Cr ρ φ) E.gb ap J zx ae af m0).mono ?_⟩
 ·rcases X20.1 hm with hm|hm
  ·obtain⟨e',bd,be,f',e1,_⟩:=az r o hm;exact Cb obl r _ e1
  rcases a6 r (List.of_mem_zip hm).1 with h'|h'
  ·cases hg:obl.getD r none with
   | none=>exact absurd hg (a8 r h')
   | some o=>exact Cb obl r o hg
  exact (CQ h').2
 rintro e w' ⟨v,he,S',φ',mm,kk,rr,cc⟩;refine⟨v,he,?_⟩;obtain⟨m2,k2⟩:=m1.merge Y ao aj mm kk bb aa V hx au;obtain⟨z1,z2⟩:=S9 ρ' F (Af (λr=>obl.getD r none) wr1) aa V
 have ax:=bJ (ρ:=ρ0) (self:=self) (φ':=back ρ' φ φ') (ob':=Af (Af (λr=>obl.getD r none) wr1) (ρ'.zip F)) (K:=λa=>a=Q) rr cc (λi H=>by
  have hi':i<F.length:=by refine Xbs λaq=>H ?_;simp[zo,aq]
  have ag:i<ρ'.length:=by omega
  rw[al i ag]
  exact⟨Iw aa ag,by rw[z1 i ag hi'];simp[zo,hi']⟩) ((PH _ _ _ _).2 ⟨Q,ak,rfl⟩)
 obtain⟨_,rfl,r1,r2⟩:=ax;refine⟨S',back ρ' φ φ',?_,?_,?_,?_⟩
 ·rw[AQ];exact m2
 ·rw[AQ];exact k1.trans k2
 ·rw[AQ];exact r1
 rw[AQ];exact r2
def Zr {obl:O (Option OB)}{cx:Cx}(hC :∀f args gM aa F,cx.C f args gM aa F->xV E.wl P f args gM aa F)(m:Mem E w S φ (λr=>obl.getD r none)){f:Xdy}{self:Nat}{args:O AV}{U:Array A}{K:AV->W->Prop} (hv:Cs (λa v=>kI S w φ (λr=>obl.getD r none) a v/\oA (λr=>obl.getD r none) a) args U.toList) (h:YN cx f self args obl K) : ∃ af wr, K af wr ∧ (∀ r o, (r, o) ∈ wr → r < obl.length) ∧ (∃ fn, P.funcs[f]? = some fn ∧ fn.name ≠ "runtime.NumGoroutine" ∧ fn.body.isSome = true) ∧ Calls P f U w λe w'=>∃v,e=.returned v/\zP E w S φ (λr=>obl.getD r none) af wr v w':=by
 rw[ZO] at h;unfold L6 at h;obtain⟨ao,M,wr1,S1,H,m1,k1,ag,ah,_,hn,ab,V⟩:=Ln m (z7.refl _) List.nodup_nil hv h;rw[AI] at H;obtain⟨ai,H⟩:=H;obtain⟨gM,H,Y,Z⟩:=Hv H;obtain⟨aa,F,aj,ae,H⟩:=H;rw[PH] at H;obtain⟨a6,a7,H⟩:=H;obtain⟨ap,H,ak,an,J⟩:=RL H;have a8:(M++[self]).zip F=((M++[self]).take F.length).zip F:=X5 _ _;rcases an with hl|hl
 ·have Q:(M++[self]).take F.length=M:=by rw[hl,List.take_left'];rfl
  rw[a8,Q] at J;obtain⟨c1,c2,c3⟩:=UH m1 k1 ag (ρ':=M) (ρ0:=M) (self:=self) ah hn ab V ai Y Z (hC _ _ _ _ _ aj) a7 ak (λi hi=>by simp[hi]) hl.symm (.refl M) hn (λr hr=>.inl hr);rw[<- J] at c1 c3;exact⟨a6,_,H,c1,c2,c3⟩
 have Q:(M++[self]).take F.length=M++[self]:=by rw[hl];exact Xdh (by simp)
 rw[a8,Q] at J;have hs:obl[self]?=some none:=by
  rcases ae with h|h
  ·omega
  exact h
 obtain⟨c1,c2,c3⟩:=UH m1 k1 ag (ρ':=M++[self]) (ρ0:=M) (self:=self) ah hn ab V ai Y Z (hC _ _ _ _ _ aj) a7 ak (λi hi=>by
   rw[Xcz];split
   ·rename_i al;simp[al]
   ·rename_i al;simp[show M.length<=i by omega]) (by simp[hl]) ⟨[self],rfl⟩ (by
   rw[Xdi]
   exact⟨hn,by simp,λa ha b hb e=>by
    simp at hb;subst hb;subst e
    exact ((ab a ha).resolve_left (by simp)) (CQ hs).1⟩) (λr hr=>by
   rcases X20.1 hr with h|h
   ·exact .inl h
   simp only[X11] at h;exact .inr (h▸hs))
 rw[<- J] at c1 c3;exact⟨a6,_,H,c1,c2,c3⟩
def RY :∀{ρ:O Nat} {gM:O OB} {K:W->Prop},Vt ρ gM K->K (ρ.zip gM)/\(∀o∈gM,A9 o=true)/\ρ.length=gM.length
 | [],[],K,h=>⟨h,by simp,rfl⟩
 | r::ρ,o::os,K,h=>by
  simp only[Vt] at h;split at h
  ·rename_i F;obtain⟨H,J,M⟩:=RY h;refine⟨H,λx Q=>?_,by simp[M]⟩;rcases Xa7.1 Q with e|e
   ·rw[e];exact F
   exact J x e
  exact h.elim
 | [],_::_,K,h=>by simp[Vt] at h
 | _::_,[],K,h=>by simp[Vt] at h
def Z9 {l:O Nat}{r:Nat}:OJ l r=true↔r∈l:=by
 induction l with
 | nil=>simp[OJ]
 | cons x l F=>simp only[OJ,Xdp,F,Xa7];exact⟨λh=>h.imp X27 id,λh=>h.imp (λe=>by rw[e];exact Xe6 x) id⟩
def TU {l:O Nat}(h:UE l=true):l.Nodup:=by
 induction l with
 | nil=>exact List.nodup_nil
 | cons x l F=>simp only[UE,X24,Xbd] at h;refine List.nodup_cons.2 ⟨λH=>?_,F h.2⟩;rw[Z9.2 H] at h;simp at h
def Mem.grown (m:Mem E w S φ ob){w':B}(K :∀b,b<w.heap.size->w'.heap[b]?=w.heap[b]?)(M:w.heap.size<=w'.heap.size)(F:w'.os=w.os/\w'.output=w.output/\w'.tape=w.tape/\(E.wl.wl\/w.drawn<=w'.drawn)) : Mem E w' S φ ob/\Kept w S φ ob w' S φ ob:=by have U :∀{b o},b<w.heap.size->cellAt w' b o=cellAt w b o:=λh=>CL (K _ h) _;have V:Kept w S φ ob w' S φ ob:=⟨λb o h=>⟨h,U (m.bS b o h)⟩,λr _=>.refl φ ob r,λr h=>h⟩;refine⟨⟨λr o h=>(m.obj r o h).zV V rfl (λb c Q=>⟨K b (m.ow r b c (by simp[h]) Q).1,λ_ h=>h⟩) (m.GJ r o h),m.inj,m.GJ,m.sS,λb o h=>(U (m.bS b o (m.sS b o h))).trans (m.kS b o h), λb o h=>Xb4 (m.bS b o h) M,m.nS,λb H J=>(K b (Xb4 H m.sz)).trans (m.fr b H J),Xay m.sz M,λr b c H J=>⟨Xb4 (m.ow r b c H J).1 M,(m.ow r b c H J).2⟩, F.1.trans m.os.1,F.2.1.trans m.os.2.1,F.2.2.1.trans m.os.2.2.1,F.2.2.2.elim .inl λa=>m.os.2.2.2.imp_right λh=>Xay h a⟩,V⟩
def zf.Ts {S':Sc}{w':B}{x:D}{v:A}(h:zf S w x v)(F:Qy x=true):zf S' w' x v:=by
 cases h with
 | val v h=>exact .val v h
 | agg H vs f M Q U V=>
  refine .agg H vs f M Q U λi K=>?_;have:=V i K;simp only[Qy,Xa6] at F;have J:=F H[i] (Xad K);revert this J;generalize H[i]=c;intro this J;cases c with
  | val u=>cases this with|val _ h=>exact .val _ h
  | _=>simp at J
 | nil=>simp[Qy] at F
 | zZ=>simp[Qy] at F
 | Cg=>simp[Qy] at F
def kI.Ts {S':Sc}{w':B}{φ':Nat->C (Nat×Rp)}{ob':Nat->C OB}{x:AV}{v:A}(h:kI S w φ ob x v)(F:fU x=true):kI S' w' φ' ob' x v/\oA ob' x:=by
 cases h with
 | d x v h=>exact⟨.d _ _ (h.Ts F),λr K=>by simp[AV.refs] at K⟩
 | Ca H vs f Q U V=>
  have J :∀c∈H,∃x,c=.d x/\Qy x=true:=by intro c J;simp only[fU,Xa6] at F;have:=F c J;cases c<;>simp at this;exact⟨_,rfl,this⟩
  refine⟨.Ca H vs f Q U λi M=>?_,λr K=>?_⟩
  ·obtain⟨x,e,Y⟩:=J H[i] (Xad M);have:=V i M;rw[e] at this⊢;cases this with|d _ _ h=>exact .d _ _ (h.Ts Y)
  obtain⟨c,Z,g2⟩:=AV.Bs H r (by simpa[AV.refs] using K);obtain⟨x,rfl,_⟩:=J c Z;simp[AV.refs] at g2
 | _=>simp[fU] at F
def YA {obl:O (Option OB)}{cx:Cx}(hC :∀f args gM V H,cx.C f args gM V H->xV E.wl P f args gM V H)(m:Mem E w S φ (λr=>obl.getD r none)){f:Xdy}{args:O AV}{F:Array A}{K:AV->W->Prop} (hv:Cs (λa v=>kI S w φ (λr=>obl.getD r none) a v/\oA (λr=>obl.getD r none) a) args F.toList) (h:nI cx f args obl K) : ∃ a8 wr, K a8 wr ∧ (∀ r o, (r, o) ∈ wr → r < obl.length) ∧ (∃ fn, P.funcs[f]? = some fn ∧ fn.name ≠ "runtime.NumGoroutine" ∧ fn.body.isSome = true) ∧ Calls P f F w λe w'=>∃v,e=.returned v/\zP E w S φ (λr=>obl.getD r none) a8 wr v w':=by
 unfold nI at h;obtain⟨aa,ρ,wr1,S1,J,m1,k1,aj,ak,_,hn,ab,Q⟩:=Ln m (z7.refl _) List.nodup_nil hv h;rw[AI] at J;obtain⟨al,J⟩:=J;obtain⟨gM,J,Y,ae⟩:=Hv J;obtain⟨V,H,b,af,J⟩:=J;cases b with
 | some M=>
  simp only[AI,PH] at J;obtain⟨Z,ag,ah,J⟩:=J;obtain⟨J,an,hl⟩:=RY J;simp only[nV,X24,Xa6] at Z;have ai :∀r∈M,obl[r]?=some none:=by
   intro r hr;have:=Z.2 r hr;split at this
   ·assumption
   simp at this
  obtain⟨c1,c2,c3⟩:=UH m1 k1 aj (ρ':=ρ++M) (ρ0:=ρ++M) (self:=0) ak hn ab Q al Y ae (hC _ _ _ _ _ af) ah an (λi U=>by simp only[Xa8,X12 U,Xaz]) hl ⟨M,rfl⟩ (by
    rw[Xdi]
    exact⟨hn,TU Z.1,λa ha b hb e=>by
     subst e
     exact ((ab a ha).resolve_left (by simp)) (CQ (ai a hb)).1⟩) (λr hr=>by
    rcases X20.1 hr with h|h
    ·exact .inl h
    exact .inr (ai r h))
  exact⟨ag,_,J,c1,c2,c3⟩
 | none=>
  simp only[AI,X24,List.isEmpty_iff] at J;obtain⟨⟨⟨rfl,rfl⟩,hs⟩,ao⟩:=J;have a6:gM=[]:=Xag Y;subst a6;obtain⟨ap,a7⟩:=hC _ _ _ _ _ af;refine⟨V,[],ao,λr o hm=>by simp at hm,ap,?_⟩;have zx:F.size=aa.length:=by
   have :∀{l:O AV} {k:O A} {R:AV->A->Prop},Cs R l k->l.length=k.length:=by
    intro l k R h;induction h with
    | nil=>rfl
    | cons _ _ ih=>simp[ih]
   have:=this Q;simpa using this.symm
  have he:(Cr [] (Af (λr=>obl.getD r none) wr1))=zo []:=by funext i;simp[Cr,zo]
  have aq:GS E.wl E.gb (Jo (Cr [] φ) ([]:O OB).length) S1 w:=m1.T7 (PB:=Jo (Cr [] φ) ([]:O OB).length) λb hb=>by obtain⟨i,c,U,_⟩:=hb;simp at U
  refine (a7 w S1 (Cr [] φ) E.gb aq F zx (λi U=>?_) (λr _=>by simp[Cr]) ?_).mono ?_
  ·have get :∀{l:O AV} {k:O A} {R:AV->A->Prop},Cs R l k->∀i (U:i<l.length),∃v,k[i]?=some v/\R l[i] v:=by
    intro l k R h;induction h with
    | nil=>intro i U;simp at U
    | cons h _ ih=>
     intro i U;cases i with
     | zero=>exact⟨_,rfl,h⟩
     | succ i=>exact ih i (by simpa using U)
   obtain⟨v,h1,h2,h3⟩:=get Q i U;have:F.getD i Xck=v:=by
    have:F[i]?=some v:=by simpa using h1
    simp[this]
   rw[this];rw[he] at h2;exact⟨h2,λr hr=>absurd (h3 r hr) (by simp)⟩
  ·exact⟨λr o h=>by simp[zo] at h,λr r' b c c' h=>by simp[zo] at h,λr o h=>by simp[zo] at h,λ_ _ h=>h,λ_ _ _=>rfl,m1.bS,λ_ _ h _ _=>h,λ_ _ _=>rfl,Xak _,λr b c h=>by simp[zo] at h,rfl,rfl,rfl,.inr (Xak _)⟩
  rintro e w' ⟨v,he,S',φ',mm,kk,rr,cc⟩;refine⟨v,he,S,φ,?_⟩;have ar :∀b,¬ Jo (Cr [] φ) ([]:O OB).length b:=by rintro b ⟨r,c,h1,_⟩;simp at h1
  obtain⟨m2,k2⟩:=m.grown (w':=w') (λb hb=>mm.fr b hb (ar b)) mm.sz mm.os;obtain⟨r1,r2⟩:=rr.Ts (S':=S) (w':=w') (φ':=φ) (ob':=λr=>obl.getD r none) hs;exact⟨m2,k2,r1,r2⟩
end
end Go.AX
end
