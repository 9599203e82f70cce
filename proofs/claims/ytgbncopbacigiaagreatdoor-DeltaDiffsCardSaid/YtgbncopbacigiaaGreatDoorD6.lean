/-
  Texts of one proof, packed.
-/
import Derived.Test.YtgbncopbacigiaaGreatDoorD5
set_option linter.all false
set_option maxRecDepth 100000
set_option maxHeartbeats 4000000
open List renaming length_map→X10,length_append→X11,mem_singleton→X14,getElem?_eq_getElem→X15,getElem?_eq_some_iff→X16,length_drop→X17,length_take→X18,length_replicate→X20,length_set→X21,mem_append→X23
open Option.some renaming inj→X25
open Bool renaming and_eq_true→X27
open Nat renaming eq_of_beq_eq_true→X30
open Go renaming undef→Xc3,Program→Xcz,FuncId→Xcx
open Nat renaming beq→Xa6
section
namespace Go.AX
def rY (gF:O OB):Nat->C OB:=λr=>gF[r]?
def Js (φ:Nat->C (Nat×Rp))(n:Nat):Nat->Prop:=λb=>∃r c,r<n/\φ r=some (b,c)
def Bj (wl:WL)(P:Xcz)(f:Xcx)(args:O AV)(gF:O OB)(J:AV)(F:O OB):Prop:=
 (∃ fn, P.funcs[f]? = some fn ∧ fn.name ≠ "runtime.NumGoroutine" ∧ fn.body.isSome = true) ∧
 ∀(w:B) (S:Sc) (φ:Nat->C (Nat×Rp)) (gb:Nat->Prop) (hg:tK wl gb (Js φ gF.length) S w) (H:Array A),H.size=args.length->
  (∀i (K:i<args.length),gM S w φ (rY gF) args[i] (H.getD i Xc3)/\gO (rY gF) args[i])->(∀r,gF.length<=r->φ r=none)->
  Mem ⟨w,S,Js φ gF.length,wl,gb,hg⟩ w S φ (rY gF)->
  Calls P f H w λe w'=>∃v,e=.returned v/\∃S' φ',Mem ⟨w,S,Js φ gF.length,wl,gb,hg⟩ w' S' φ' (rY F)/\Kept w S φ (rY gF) w' S' φ' (rY F)/\gM S' w' φ' (rY F) J v/\gO (rY F) J
structure wm (wl:WL)(P:Program)(f:FuncId)(args:List AV)(ob:List (Option OB))(K:AV->List (Option OB)->Prop):Prop where
 fn : ∃ fn, P.funcs[f]? = some fn ∧ fn.name ≠ "runtime.NumGoroutine" ∧ fn.body.isSome = true
 run :∀(E:Env),E.wl=wl->∀(w:World) (S:Sc) (φ:Nat->Option (Nat×Rp)) (vals:Array Value),sA (λa v=>gM S w φ (λr=>ob.getD r none) a v/\gO (λr=>ob.getD r none) a) args vals.toList->
  Mem E w S φ (λr=>ob.getD r none)->
  Calls P f vals w λe w'=>∃v,e=.returned v/\∃S' φ' r ob',K r ob'/\Mem E w' S' φ' (λr=>ob'.getD r none)/\Kept w S φ (λr=>ob.getD r none) w' S' φ' (λr=>ob'.getD r none)/\
   gM S' w' φ' (λr=>ob'.getD r none) r v/\gO (λr=>ob'.getD r none) r
def qg (wl:WL)(P:Xcz)(f:Xcx)(args:O AV)(ob:O (C OB))(K:AV->O (C OB)->Prop):Prop:=
 ∀(E:Env),E.wl=wl->∀(w:B) (S:Sc) (φ:Nat->C (Nat×Rp)) (H:Array A),sA (λa v=>gM S w φ (λr=>ob.getD r none) a v/\gO (λr=>ob.getD r none) a) args H.toList->
  Mem E w S φ (λr=>ob.getD r none)->
  ∃v w',(callFunc f H).run P w=.ok (.value v) w'/\∃S' φ' r F,K r F/\Mem E w' S' φ' (λr=>F.getD r none)/\Kept w S φ (λr=>ob.getD r none) w' S' φ' (λr=>F.getD r none)/\
   gM S' w' φ' (λr=>F.getD r none) r v/\gO (λr=>F.getD r none) r
def Wa (wl:WL)(P:Xcz)(f:Xcx)(args:O AV)(ob:O (C OB))(K:AV->O (C OB)->Prop):Prop:=wm wl P f args ob K\/qg wl P f args ob K
def Oi (wl:WL)(P:Xcz)(cx:Cx):Prop:=cx.G=wl.G/\(∀f args gF H F,cx.C f args gF H F->Bj wl P f args gF H F)/\
 ∀f args ob K,cx.I f args ob K->Wa wl P f args ob K
def sy {α:Type}(ρ:O Nat)(g:Nat->C α):Nat->C α:=λi=>(ρ[i]?).bind g
section
variable {P:Program} {T:TT} {E:Env} {w:B} {S S1:Sc} {φ:Nat->C (Nat×Rp)} {ob:Nat->C OB} {wr1:W}
def dC (r:Nat) :∀(l:O Nat) (n:Nat) (F N:Nat->Prop),J3.go r l n F N->(∃k,l[k]?=some r/\F (n+k))\/(r∉l/\N (n+l.length))
 | [],n,F,N,h=>.inr ⟨by simp,h⟩
 | x::l,n,F,N,h=>by
  simp only[J3.go] at h;cases H:Xa6 x r with
  | true=>simp only[H] at h;have:=X30 H;exact .inl ⟨0,by simp[this],h⟩
  | false=>
   simp only[H] at h;have J:x≠r:=λe=>by subst e;rw[show Xa6 x x=true from Xd4 x] at H;simp at H
   rcases dC r l (n+1) F N h with ⟨k,K,M⟩|⟨K,M⟩
   ·exact .inl ⟨k+1,by simpa using K,by rw[show n+(k+1)=n+1+k by omega];exact M⟩
   exact .inr ⟨by simp[K,Ne.symm J],by rw[show n+(x::l).length=n+1+l.length by simp;omega];exact M⟩
def Ext (ρ ρ':O Nat):Prop:=∃l,ρ'=ρ++l
def Ext.refl (ρ:O Nat):Ext ρ ρ:=⟨[],by simp⟩
def Ext.trans {a b c:O Nat}(h:Ext a b)(k:Ext b c):Ext a c:=by obtain⟨l,rfl⟩:=h;obtain⟨F,rfl⟩:=k;exact⟨l++F,by simp⟩
def Ext.get {ρ ρ':O Nat}(h:Ext ρ ρ'){i:Nat}(F:i<ρ.length):ρ'[i]?=ρ[i]?:=by obtain⟨l,rfl⟩:=h;exact Ww F
def Hq {r:Nat}{ρ:O Nat}{K:Nat->O Nat->Prop}(M:ρ.Nodup)(h:J3.refK r ρ K) :∃i ρ',K i ρ'/\ρ'[i]?=some r/\Ext ρ ρ'/\ρ'.Nodup/\∀x∈ρ',x∈ρ\/x=r:=by
 rcases dC r ρ 0 _ _ h with ⟨k,H,F⟩|⟨H,F⟩
 ·rw[Xan] at F;exact⟨k,ρ,F,H,.refl ρ,M,λx J=>.inl J⟩
 rw[Xan] at F;refine⟨_,_,F,by simp,⟨[r],rfl⟩,?_,λx J=>?_⟩
 ·rw[Xbw];exact⟨M,by simp,λa U b Q=>by simp at Q;subst Q;exact λe=>H (e▸U)⟩
 simpa using J
def sO (S:Sc)(w:B)(φ:Nat->C (Nat×Rp))(ob:Nat->C OB)(ρ:O Nat)(a:AV)(v:A):Prop:=
 gM S w (sy ρ φ) (sy ρ ob) a v/\∀r∈a.refs,r<ρ.length
def sO.ext {ρ ρ':O Nat}{a:AV}{v:A}(h:sO S w φ ob ρ a v)(H:Ext ρ ρ'):sO S w φ ob ρ' a v:=by
 obtain⟨K,J⟩:=h;refine⟨K.mono (λ_ _ h=>⟨h,rfl⟩) λr F=>.inl ?_,λr F=>?_⟩
 ·have:=H.get (J r F);simp[sy,this]
 have:=J r F;obtain⟨l,rfl⟩:=H;simp;omega
def sO.kept {w':B}{S':Sc}{ob':Nat->C OB}{ρ:O Nat}{a:AV}{v:A}(h:sO S w φ ob ρ a v)(k:Kept w S φ ob w' S' φ ob')(J :∀r∈ρ,ob r≠none):sO S' w' φ ob' ρ a v:=by obtain⟨K,H⟩:=h;refine⟨K.mono k.k λr M=>?_,H⟩;have F:=H r M;have hg:ρ[r]?=some ρ[r]:=X15 F;have:=k.r ρ[r] (J _ (Wx F));simpa[sW,sy,hg] using this
def eF {ρ:O Nat}{r i n:Nat}{v:A}(h:gM S w φ ob (.own r n) v)(F:ρ[i]?=some r):sO S w φ ob ρ (.own i n) v:=by
 have U:=(X16.1 F).1;refine⟨?_,λr' J=>by simp only[AV.refs,X14] at J;omega⟩;cases h with|own _ _ _ k c V Y Z h1 hb=>
 refine .own i n v k c V Y Z (λe sz es K H=>?_) λcs H=>?_
 ·simp only[sy,F,Xbv] at H;obtain⟨M,Q⟩:=h1 e sz es K H;refine⟨M,λhn=>?_⟩;have:=Q hn;unfold Hy at *;simpa[sy,F] using this
 simp only[sy,F,Xbv] at H;obtain⟨M,b,c',Q,g3⟩:=hb cs H;exact⟨M,b,c',by simpa[sy,F] using Q,g3⟩
def Ut {ρ:O Nat}{r i off:Nat}{v:A}(h:gM S w φ ob (.ref r off) v)(F:ρ[i]?=some r):sO S w φ ob ρ (.ref i off) v:=by
 have M:=(X16.1 F).1;refine⟨?_,λY H=>by simp only[AV.refs,X14] at H;omega⟩;cases h with|ref _ _ b c J Q=>
 exact .ref i off b c (by simpa[sy,F] using J) λe sz U K V=>Q e sz U K (by simpa[sy,F] using V)
def j5 {ρ:O Nat}{r i:Nat}{v:A}(h:gM S w φ ob (.mp r) v)(F:ρ[i]?=some r):sO S w φ ob ρ (.mp i) v:=by
 have Q:=(X16.1 F).1;refine⟨?_,λr' H=>by simp only[AV.refs,X14] at H;omega⟩;cases h with|mp _ b c J U V=>
 exact .mp i b c (by simpa[sy,F] using J) (λe sz Y K M=>U e sz Y K (by simpa[sy,F] using M)) λZ M=>V Z (by simpa[sy,F] using M)
def jl {ρ:O Nat}{f r i:Nat}{v:A}(h:gM S w φ ob (.it f r) v)(F:ρ[i]?=some r):sO S w φ ob ρ (.it f i) v:=by
 have Q:=(X16.1 F).1;refine⟨?_,λr' H=>by simp only[AV.refs,X14] at H;omega⟩;cases h with|it _ _ b c B J U V Y Z=>
 exact .it f i b c B (by simpa[sy,F] using J) (λe sz es K M=>U e sz es K (by simpa[sy,F] using M)) (λcs M=>V cs (by simpa[sy,F] using M)) Y Z
def Xb {obl:O (C OB)}{s9:I}(m:Mem E w S φ ob)(J:rl (λr=>obl.getD r none) ob){a:AV}{v:A}{ρ:O Nat}(hn:ρ.Nodup){K:AV->O Nat->W->Prop}(ha:gM S w φ ob a v) (a7:gO (λr=>obl.getD r none) a) (h:J3 s9 obl a ρ K) : ∃a' ρ' wr S',K a' ρ' wr/\Mem E w S' φ (Ag ob wr)/\Kept w S φ ob w S' φ (Ag ob wr)/\rl (λr=>obl.getD r none) (Ag ob wr)/\UP obl wr/\Ext ρ ρ'/\ρ'.Nodup/\ (∀x∈ρ',x∈ρ\/obl.getD x none≠none)/\sO S' w φ (Ag ob wr) ρ' a' v:=by
 have data :∀{K:D->W->Prop},cW obl a K->∃x wr S',K x wr/\Mem E w S' φ (Ag ob wr)/\Kept w S φ ob w S' φ (Ag ob wr)/\rl (λr=>obl.getD r none) (Ag ob wr)/\UP obl wr/\sO S' w φ (Ag ob wr) ρ (.d x) v:=by intro K h;obtain⟨x,wr,S',Q,U,V,Y,Z,h6⟩:=D8 m J ha h;exact⟨x,wr,S',Q,U,V,Z,h6,.d _ _ Y,λr M=>by simp[AV.refs] at M⟩
 cases a<;>simp only[J3] at h;case d x=>
  split at h
  ·cases ha with|d _ _ ha=>
   exact⟨_,ρ,[],S,h,m,.refl w S φ ob,J,λ_ _ hm=>by simp at hm,.refl ρ,hn,λx J=>.inl J,.d _ _ ha,λr M=>by simp[AV.refs] at M⟩
  rw[FY] at h;cases ha with|d _ _ ha=>
  exact⟨_,ρ,[],S,h,m,.refl w S φ ob,J,λ_ _ hm=>by simp at hm,.refl ρ,hn,λx J=>.inl J,.d _ _ ha.norm,λr M=>by simp[AV.refs] at M⟩
 case agg cs=>obtain⟨x,wr,S',Q,U,V,Y,Z,h6⟩:=data h;exact⟨_,ρ,wr,S',Q,U,V,Y,Z,.refl ρ,hn,λx J=>.inl J,h6⟩
 case ref r a6=>
  obtain⟨i,ρ',Q,U,V,Y,Z⟩:=Hq hn h;refine⟨_,ρ',[],S,Q,m,.refl w S φ ob,J,λ_ _ hm=>by simp at hm,V,Y,λx a1=>?_,Ut ha U⟩;rcases Z x a1 with h|h
  ·exact .inl h
  exact .inr (a7 x (by simp[AV.refs,h]))
 case mp r=>
  obtain⟨i,ρ',Q,U,V,Y,Z⟩:=Hq hn h;refine⟨_,ρ',[],S,Q,m,.refl w S φ ob,J,λ_ _ hm=>by simp at hm,V,Y,λx a1=>?_,j5 ha U⟩;rcases Z x a1 with h|h
  ·exact .inl h
  exact .inr (a7 x (by simp[AV.refs,h]))
 case it f r=>
  obtain⟨i,ρ',Q,U,V,Y,Z⟩:=Hq hn h;refine⟨_,ρ',[],S,Q,m,.refl w S φ ob,J,λ_ _ hm=>by simp at hm,V,Y,λx a1=>?_,jl ha U⟩;rcases Z x a1 with h|h
  ·exact .inl h
  exact .inr (a7 x (by simp[AV.refs,h]))
 case own r n=>
  cases s9 with
  | true=>
   obtain⟨i,ρ',Q,U,V,Y,Z⟩:=Hq hn h;refine⟨_,ρ',[],S,Q,m,.refl w S φ ob,J,λ_ _ hm=>by simp at hm,V,Y,λx a1=>?_,eF ha U⟩;rcases Z x a1 with h|h
   ·exact .inl h
   exact .inr (a7 x (by simp[AV.refs,h]))
  | false=>obtain⟨x,wr,S',Q,U,V,Y,Z,h6⟩:=data h;exact⟨_,ρ,wr,S',Q,U,V,Y,Z,.refl ρ,hn,λx J=>.inl J,h6⟩
 case sT cs=>refine⟨_,ρ,[],S,h,m,.refl w S φ ob,J,λ_ _ hm=>by simp at hm,.refl ρ,hn,λx J=>.inl J,?_,λr M=>by simp[AV.refs] at M⟩;exact ha.mono (λ_ _ h=>⟨h,rfl⟩) λr M=>by simp[AV.refs] at M
 case fn f H=>
  cases ha with|fn _ _ vs g hs hf M=>
  have key :∀(H:O AV) (a6:Nat) (ρ:O Nat) (K:O AV->O Nat->Prop) (_:ρ.Nodup) (_ :∀i (hi:i<H.length),gM S w φ ob H[i] (g (a6+i))) (_ :∀r∈AV.refs.refsL H,obl.getD r none≠none)
    (_:J3.capsK H ρ K),∃F ρ',K F ρ'/\F.length=H.length/\Ext ρ ρ'/\ρ'.Nodup/\(∀x∈ρ',x∈ρ\/obl.getD x none≠none)/\∀i (hi:i<F.length),sO S w φ ob ρ' F[i] (g (a6+i)):=by
   intro H;induction H with
   | nil=>intro a6 ρ K hn _ _ h;exact⟨[],ρ,h,rfl,.refl ρ,hn,λx J=>.inl J,λi hi=>by simp at hi⟩
   | cons c H ih=>
    intro a6 ρ K hn M hc h;cases c<;>simp only[J3.capsK] at h;case ref r o=>
     obtain⟨i,a8,Q,U,V,Y,Z⟩:=Hq hn h
     obtain⟨F,aa,g1,g2,g3,g4,g5,g6⟩:=ih (a6+1) a8 _ Y (λi hi=>by
      have:=M (i+1) (by simpa using hi)
      simpa[Xb9,Xci 1 i] using this) (λr M=>hc r (by simp[AV.refs.refsL,M])) Q
     refine⟨_,aa,g1,by simp[g2],V.trans g3,g4,λx J=>?_,λj hj=>?_⟩
     ·rcases g5 x J with h|h
      ·rcases Z x h with h|h
       ·exact .inl h
       exact .inr (hc x (by simp[AV.refs.refsL,AV.refs,h]))
      exact .inr h
     cases j with
     | zero=>have:=M 0 (by simp);simp only[Xb5] at this;exact (Ut this U).ext g3
     | succ j=>have:=g6 j (by simpa using hj);simpa[Xb9,Xci 1 j] using this
  obtain⟨F,ρ',g1,g2,g3,g4,g5,g6⟩:=key H 0 ρ _ hn (λi hi=>by simpa using M i hi) (λr M=>a7 r (by simpa[AV.refs] using M)) h;refine⟨_,ρ',[],S,g1,m,.refl w S φ ob,J,λ_ _ hm=>by simp at hm,g3,g4,g5,.fn f F vs g (by omega) (λi hi=>hf i (by omega)) (λi hi=>by have:=(g6 i hi).1;rw[Xan] at this;exact this),λr M=>?_⟩;obtain⟨c,ab,ae⟩:=AV.sf F r (by simpa[AV.refs] using M);obtain⟨j,hj,rfl⟩:=Wz ab;exact (g6 j hj).2 r ae
def J1 {obl:O (C OB)}{s9:O I} :∀{M:O AV} {vs:O A} {S:Sc} {ob:Nat->C OB} {ρ:O Nat} {K:O AV->O Nat->W->Prop} (_:Mem E w S φ ob) (_:rl (λr=>obl.getD r none) ob) (_:ρ.Nodup) (_:sA (λa v=>gM S w φ ob a v/\gO (λr=>obl.getD r none) a) M vs) (_:QK s9 obl M ρ K), ∃H ρ' wr S',K H ρ' wr/\Mem E w S' φ (Ag ob wr)/\Kept w S φ ob w S' φ (Ag ob wr)/\rl (λr=>obl.getD r none) (Ag ob wr)/\UP obl wr/\Ext ρ ρ'/\ρ'.Nodup/\ (∀x∈ρ',x∈ρ\/obl.getD x none≠none)/\sA (λa v=>sO S' w φ (Ag ob wr) ρ' a v) H vs
 | [],[],S,ob,ρ,K,m,Y,hn,_,h=>⟨[],ρ,[],S,h,m,.refl w S φ ob,Y,λ_ _ Q=>by simp at Q,.refl ρ,hn,λx Y=>.inl Y,.nil⟩
 | a::M,v::vs,S,ob,ρ,K,m,Y,hn,hv,h=>by
  cases hv with|cons h1 h2=>
  simp only[QK] at h;obtain⟨a',F,wr,S1,hK,m1,k1,a1,ab,e1,n1,r1,s1⟩:=Xb m Y hn h1.1 h1.2 h;have ae :∀{r:Nat},obl.getD r none≠none->ob r≠none:=by
   intro r Z;rcases Y r with e1|⟨e,sz,es,f,e1,e2⟩
   ·rw[e1];exact Z
   rw[e2];simp
  obtain⟨H,a6,a7,S2,g1,g2,g3,g4,g5,g6,g7,g8,g9⟩:=J1 m1 a1 n1 (h2.imp λa v U=>⟨k1.tZ (λr Z=>ae (U.2 r Z)) U.1,U.2⟩) hK;refine⟨a'::H,a6,wr++a7,S2,g1,by rw[AU];exact g2,by rw[AU];exact k1.trans g3,by rw[AU];exact g4,λr o Q=>?_,e1.trans g6,g7,λx af=>?_,?_⟩
  ·rcases X23.1 Q with Q|Q
   ·exact ab r o Q
   exact g5 r o Q
  ·rcases g8 x af with h|h
   ·exact r1 x h
   exact .inr h
  rw[AU];refine .cons ?_ g9;obtain⟨s2,s3⟩:=s1.ext g6;refine⟨s2.mono g3.k λr Z=>?_,s3⟩;have a8:=s1.2 r Z;have ah:=s3 r Z;have ag:F[r]?=some F[r]:=X15 a8;have V:a6[r]?=some F[r]:=(g6.get a8).trans ag;by_cases J:Ag ob wr F[r]=none
  ·have aa:obl.getD F[r] none=none:=by
    rcases a1 F[r] with e|⟨e,sz,es,f,_,e2⟩
    ·exact e.symm.trans J
    rw[J] at e2;simp at e2
   have:Ag (Ag ob wr) a7 F[r]=none:=g4.none aa;refine .inl ⟨by simp[sy,V],?_,?_⟩<;>simp[sy,V,this,J]
  have:=g3.r F[r] J;simpa[sW,sy,V] using this
 | [],_::_,_,_,_,_,_,_,_,hv,_=>by cases hv
 | _::_,[],_,_,_,_,_,_,_,hv,_=>by cases hv
def I6 (F:O AV)(K:O AV->Prop):G8.cellsD F K↔(A4 (.box F)=true/\K F):=by
 induction F generalizing K with
 | nil=>simp[G8.cellsD,A4]
 | cons c F H=>cases c<;>simp only[G8.cellsD,A4,Xd1]<;>simp;simpa[A4] using H _
def Gs {obl:O (C OB)} :∀{ρ:O Nat} {K:O OB->Prop},G8 obl ρ K->∃gF,K gF/\gF.length=ρ.length/\∀i (F:i<gF.length) (hi':i<ρ.length),obl.getD ρ[i] none=some gF[i]/\A4 gF[i]=true
 | [],K,h=>⟨[],h,rfl,λi F=>by simp at F⟩
 | r::ρ,K,h=>by
  simp only[G8,An] at h;obtain⟨o,Q,h⟩:=h;cases o with
  | box V=>
   simp only[I6] at h;obtain⟨Y,h⟩:=h;obtain⟨gF,H,J,M⟩:=Gs h;refine⟨.box V::gF,H,by simp[J],λi F hi'=>?_⟩;cases i with
   | zero=>exact⟨Q,Y⟩
   | succ i=>exact M i (by simpa using F) (by simpa using hi')
  | row e sz U f=>
   simp only[AH] at h;obtain⟨Z,h⟩:=h;obtain⟨gF,H,J,M⟩:=Gs h;refine⟨.row e sz U f::gF,H,by simp[J],λi F hi'=>?_⟩;cases i with
   | zero=>exact⟨Q,Z⟩
   | succ i=>exact M i (by simpa using F) (by simpa using hi')
  | rK=>exact h.elim
  | gone=>exact h.elim
  | map k e U=>
   simp only at h;obtain⟨gF,H,J,M⟩:=Gs h;refine⟨.map k e U::gF,H,by simp[J],λi F hi'=>?_⟩;cases i with
   | zero=>exact⟨Q,rfl⟩
   | succ i=>exact M i (by simpa using F) (by simpa using hi')
def OY {self:Nat} :∀{ρ:O Nat} {gF:O OB} {K:W->Prop},JM ρ self gF K-> ∃wr,K wr/\(∀o∈gF,A4 o=true)/\(gF.length=ρ.length\/gF.length=ρ.length+1)/\wr=(ρ++[self]).zip gF
 | [],[],K,h=>⟨[],h,by simp,.inl rfl,rfl⟩
 | [],[o],K,h=>by
  simp only[JM] at h;split at h
  ·rename_i F;exact⟨_,h,by simpa using F,.inr rfl,rfl⟩
  exact h.elim
 | r::ρ,o::os,K,h=>by
  simp only[JM] at h;split at h
  ·rename_i F;obtain⟨wr,H,J,M,Q⟩:=OY h;refine⟨_,H,λx U=>?_,by simpa using M,by simp[Q]⟩;rcases Wp.1 U with e|e
   ·rw[e];exact F
   exact J x e
  exact h.elim
 | [],_::_::_,K,h=>by simp[JM] at h
 | _::_,[],K,h=>by simp[JM] at h
def tc.rename {φ':Nat->C (Nat×Rp)}{ob':Nat->C OB}{r Z:Nat}{o:OB}(h:tc S w φ ob r o)(M:A4 o=true)(F:φ' Z=φ r):tc S w φ' ob' Z o:=by
 cases o with
 | box Q=>
  obtain⟨b,c,vs,e,f,J,K,U,h4,h5,h6⟩:=h;refine⟨b,c,vs,e,f,F.trans J,K,U,h4,h5,λj V=>⟨(h6 j V).1,?_⟩⟩;have h7:=(h6 j V).2;have :∃x,Q[j]=.d x:=by simp only[A4,Wo] at M;have:=M Q[j] (Wx V);revert this;cases Q[j]<;>simp
  obtain⟨x,hx⟩:=this;rw[hx] at h7⊢;cases h7 with|d _ _ h=>exact .d _ _ h
 | row e sz es a1=>obtain⟨h0,J,K,U⟩:=h;exact⟨h0,J,K,U.imp (λg=>⟨F.trans g.1,g.2⟩) λ⟨b,Y,vs,f,g1,q2,q3,q4,q5,q6,q7,q8⟩=>⟨b,Y,vs,f,F.trans g1,q2,q3,q4,q5,q6,q7,q8.1,λi j q n hf _ _=>(FZ.xl (by simpa[A4] using M) hf).elim⟩⟩
 | gone=>trivial
 | map k e es=>obtain⟨b,c,arr,H,J,K⟩:=h;exact⟨b,c,arr,H,F.trans J,K⟩
 | rK=>simp[A4] at M
def I9 {o:OB}(h:A4 o=true):o.refs=[]:=by
 cases o with
 | box F=>
  simp only[OB.refs];simp only[A4,Wo] at h;induction F with
  | nil=>rfl
  | cons c F H=>simp only[AV.refs.refsL];rw[H λx J=>h x (by simp[J])];have:=h c (by simp);revert this;cases c<;>simp[AV.refs]
 | row e sz K f=>
  cases f with
  | lk=>simp[A4] at h
  | _=>rfl
 | rK=>simp[A4] at h
 | map=>rfl
 | gone=>rfl
def XF {ρ:O Nat}{self:Nat}{φ':Nat->C (Nat×Rp)}{ob':Nat->C OB}{a:AV}{v:A}{K:AV->Prop}(ha:gM S w φ ob a v)(Z:gO ob a) (hr :∀i,ob i≠none->φ' (ρ.getD i self)=φ i/\ob' (ρ.getD i self)=ob i) (h:Ln ρ self a K) :∃a',K a'/\gM S w φ' ob' a' v/\gO ob' a':=by
 have own :∀{i n:Nat} {v:A},gM S w φ ob (.own i n) v->ob i≠none->gM S w φ' ob' (.own (ρ.getD i self) n) v:=by
  intro i n v h H;obtain⟨e1,e2⟩:=hr i H;cases h with|own _ _ _ k c a0 hv hk h1 hb=>
  refine .own _ n v k c a0 hv hk (λe sz es Y V=>?_) (λQ V=>by
   obtain⟨g1,b,c',g2,g3⟩:=hb Q (e2▸V)
   exact⟨g1,b,c',e1.trans g2,g3⟩)
  rw[e2] at V;obtain⟨g1,g2⟩:=h1 e sz es Y V;refine⟨g1,λhn=>?_⟩;have:=g2 hn;unfold Hy at *;rwa [e1]
 have ref :∀{i M:Nat} {v:A},gM S w φ ob (.ref i M) v->ob i≠none->gM S w φ' ob' (.ref (ρ.getD i self) M) v:=by intro i M v h H;obtain⟨e1,e2⟩:=hr i H;cases h with|ref _ _ b c a1 hb=>exact .ref _ M b c (e1.trans a1) λe sz es Y V=>hb e sz es Y (e2▸V)
 have cl :∀{i:Nat},ob i≠none->ob' (ρ.getD i self)≠none:=λ{i} H=>by rw[(hr i H).2];exact H
 have mp :∀{i:Nat} {v:A},gM S w φ ob (.mp i) v->ob i≠none->gM S w φ' ob' (.mp (ρ.getD i self)) v:=by intro i v h H;obtain⟨e1,e2⟩:=hr i H;cases h with|mp _ b c a1 hb hc=>exact .mp _ b c (e1.trans a1) (λe sz es Y V=>hb e sz es Y (e2▸V)) λQ V=>hc Q (e2▸V)
 have key :∀(f:Nat->A) (Q:O AV) (M:Nat) (K:O AV->Prop) (_ :∀i (U:i<Q.length),gM S w φ ob Q[i] (f (M+i))) (_ :∀c∈Q,gO ob c) (_:Ln.renTup ρ self Q K),
   ∃J,K J/\J.length=Q.length/\J.map AV.one=Q.map AV.one/\∀i (U:i<J.length),gM S w φ' ob' J[i] (f (M+i))/\gO ob' J[i]:=by
  intro f Q;induction Q with
  | nil=>intro M K _ _ h;exact⟨[],h,rfl,rfl,λi U=>by simp at U⟩
  | cons c Q ih=>
   intro M K F hc h;have h0:=F 0 (by simp);simp only[Xb5,Xch] at h0;have a7:=hc c (by simp);have go :∀(c':AV),c'.one=c.one->gM S w φ' ob' c' (f M)->gO ob' c'->Ln.renTup ρ self Q (λl=>K (c'::l))->∃J,K J/\J.length=(c::Q).length/\J.map AV.one=(c::Q).map AV.one/\∀i (U:i<J.length),gM S w φ' ob' J[i] (f (M+i))/\gO ob' J[i]:=by
    intro c' q0 q1 q2 h
    obtain⟨J,g1,g2,gm,g3⟩:=ih (M+1) _ (λi U=>by
     have:=F (i+1) (by simpa using U)
     simpa[Xb9,Xci 1 i] using this) (λx V=>hc x (by simp[V])) h
    refine⟨c'::J,g1,by simp[g2],by simp only[Xam,q0,gm],λi U=>?_⟩;cases i with
    | zero=>exact⟨q1,q2⟩
    | succ i=>have:=g3 i (by simpa using U);simpa[Xb9,Xci 1 i] using this
   cases c<;>simp only[Ln.renTup] at h;case d x=>cases h0 with|d _ _ h0=>exact go _ rfl (.d _ _ h0) (A1 _ _) h
   case ref i o=>have H:=a7 i (by simp[AV.refs]);exact go (.ref (ρ.getD i self) o) rfl (ref h0 H) (λr F=>by simp only[AV.refs,X14] at F;rw[F];exact cl H) h
   case own i o=>have H:=a7 i (by simp[AV.refs]);exact go (.own (ρ.getD i self) o) rfl (own h0 H) (λr F=>by simp only[AV.refs,X14] at F;rw[F];exact cl H) h
 cases a<;>simp only[Ln] at h;case d x=>cases ha with|d _ _ ha=>exact⟨_,h,.d _ _ ha,A1 _ _⟩
 case ref i M=>have H:=Z i (by simp[AV.refs]);exact⟨_,h,ref ha H,λr F=>by simp only[AV.refs,X14] at F;rw[F];exact cl H⟩
 case own i n=>have H:=Z i (by simp[AV.refs]);exact⟨_,h,own ha H,λr F=>by simp only[AV.refs,X14] at F;rw[F];exact cl H⟩
 case mp i=>have H:=Z i (by simp[AV.refs]);exact⟨_,h,mp ha H,λr F=>by simp only[AV.refs,X14] at F;rw[F];exact cl H⟩
 case it f i=>
  have H:=Z i (by simp[AV.refs]);obtain⟨e1,e2⟩:=hr i H;cases ha with|it _ _ b c B a1 hb hc hS hm=>
  exact⟨_,h,.it f _ b c B (e1.trans a1) (λe sz es Y V=>hb e sz es Y (e2▸V)) (λQ V=>hc Q (e2▸V)) hS hm,λr F=>by simp only[AV.refs,X14] at F;rw[F];exact cl H⟩
 case agg Q=>
  cases ha with|agg _ vs f hs hf a8 a6=>
  obtain⟨J,g1,g2,gm,g3⟩:=key f Q 0 _ (λi U=>by simpa using a6 i U) (λc hm r F=>by
   obtain⟨j,hj,rfl⟩:=Wz hm
   exact Z r (by simpa[AV.refs] using AV.rv Q j hj r F)) h
  refine⟨_,g1,.agg J vs f (by omega) (λi U=>hf i (by omega)) (λi U=>by
   have e:(J.map AV.one)[i]'(by simpa using U)=(Q.map AV.one)[i]'(by simp;omega):=by simp only[gm]
   simp only[Xas] at e
   rw[e];exact a8 i (by omega)) (λi U=>by have:=(g3 i U).1;rw[Xan] at this;exact this),λr F=>?_⟩
  obtain⟨c,h1,h2⟩:=AV.sf J r (by simpa[AV.refs] using F);obtain⟨j,hj,rfl⟩:=Wz h1;exact (g3 j hj).2 r h2
 case sH Q=>
  cases ha with|sH _ vs f hs hf a6=>
  obtain⟨J,g1,g2,gm,g3⟩:=key f Q 0 _ (λi U=>by simpa using a6 i U) (λc hm r F=>by
   obtain⟨j,hj,rfl⟩:=Wz hm
   exact Z r (by simpa[AV.refs] using AV.rv Q j hj r F)) h
  refine⟨_,g1,.sH J vs f (by omega) (λi U=>hf i (by omega)) (λi U=>by have:=(g3 i U).1;rw[Xan] at this;exact this),λr F=>?_⟩;obtain⟨c,h1,h2⟩:=AV.sf J r (by simpa[AV.refs] using F);obtain⟨j,hj,rfl⟩:=Wz h1;exact (g3 j hj).2 r h2
def Z4 (ρ:O Nat)(self:Nat):AV->C AV
 | .d x=>some (.d x)
 | .ref i F=>some (.ref (ρ.getD i self) F)
 | .own i n=>some (.own (ρ.getD i self) n)
 | .mp i=>some (.mp (ρ.getD i self))
 | .it f i=>some (.it f (ρ.getD i self))
 | .sH vs=>(renT vs).map .sH
 | .agg vs=>(renT vs).map .agg
 | _=>none where
 renT:O AV->C (O AV)
  | []=>some []
  | .d x::l=>(renT l).map (.d x::·)
  | .ref i F::l=>(renT l).map (.ref (ρ.getD i self) F::·)
  | .own i n::l=>(renT l).map (.own (ρ.getD i self) n::·)
  | _::_=>none
def NB (ρ:O Nat)(self:Nat)(a:AV)(K:AV->Prop):Ln ρ self a K ↔∃Q,Z4 ρ self a=some Q/\K Q:=by
 have sH :∀(l:O AV) (K:O AV->Prop),Ln.renTup ρ self l K ↔∃F,Z4.renT ρ self l=some F/\K F:=by
  intro l;induction l with
  | nil=>intro K;simp[Ln.renTup,Z4.renT]
  | cons c l U=>
   intro K;cases c<;>simp only[Ln.renTup,Z4.renT,U,Xc2];case d=>exact⟨λ⟨F,H,J⟩=>⟨_,⟨F,H,rfl⟩,J⟩,λ⟨_,⟨F,H,M⟩,J⟩=>⟨F,H,M▸J⟩⟩
   case ref=>exact⟨λ⟨F,H,J⟩=>⟨_,⟨F,H,rfl⟩,J⟩,λ⟨_,⟨F,H,M⟩,J⟩=>⟨F,H,M▸J⟩⟩
   case own=>exact⟨λ⟨F,H,J⟩=>⟨_,⟨F,H,rfl⟩,J⟩,λ⟨_,⟨F,H,M⟩,J⟩=>⟨F,H,M▸J⟩⟩
   all_goals simp
 cases a<;>simp only[Ln,Z4,sH,Xc2];case agg=>exact⟨λ⟨F,H,J⟩=>⟨_,⟨F,H,rfl⟩,J⟩,λ⟨_,⟨F,H,M⟩,J⟩=>⟨F,H,M▸J⟩⟩
 case sH=>exact⟨λ⟨F,H,J⟩=>⟨_,⟨F,H,rfl⟩,J⟩,λ⟨_,⟨F,H,M⟩,J⟩=>⟨F,H,M▸J⟩⟩
 all_goals simp
def EG :∀(wr:W) (ob:Nat->C OB) (r:Nat),(∀x∈wr,x.1≠r)->Ag ob wr r=ob r
 | [],ob,r,_=>rfl
 | (F,o)::wr,ob,r,h=>by simp only[Ag];rw[EG wr _ r λx H=>h x (by simp[H]),AO _ _ _ _ (Ne.symm (h (F,o) (by simp)))]
def Pn :∀(ρ:O Nat) (gF:O OB) (ob:Nat->C OB),ρ.Nodup->ρ.length=gF.length-> (∀i (J:i<ρ.length) (hi':i<gF.length),Ag ob (ρ.zip gF) ρ[i]=some gF[i])/\∀r,r∉ρ->Ag ob (ρ.zip gF) r=ob r
 | [],[],ob,_,_=>⟨λi J=>by simp at J,λr _=>rfl⟩
 | r::ρ,o::gF,ob,Q,H=>by
  obtain⟨U,K⟩:=List.nodup_cons.1 Q;obtain⟨V,M⟩:=Pn ρ gF (rJ ob r (some o)) K (by simpa using H);simp only[List.zip_cons_cons,Ag];refine⟨λi J hi'=>?_,λY F=>?_⟩
  ·cases i with
   | zero=>simp only[Xb5];rw[M r U,gL]
   | succ i=>exact V i (by simpa using J) (by simpa using hi')
  simp only[Wp,not_or] at F;rw[M Y F.2,AO _ _ _ _ F.1]
 | [],_::_,_,_,H=>by simp at H
 | _::_,[],_,_,H=>by simp at H
def Ud {α F:Type} :∀(l:O α) (k:O F),l.zip k=(l.take k.length).zip k
 | [],k=>by simp
 | x::l,[]=>by simp
 | x::l,y::k=>by simp[<- Ud l k]
def back (ρ:O Nat)(φ φ':Nat->C (Nat×Rp)):Nat->C (Nat×Rp):=λr=>if r∈ρ then φ' (ρ.idxOf r) else φ r
def Hg {ρ:O Nat}(H:ρ.Nodup){φ φ':Nat->C (Nat×Rp)}{i:Nat}(F:i<ρ.length):back ρ φ φ' ρ[i]=φ' i:=by unfold back;rw[Xy (Wx F),H.idxOf_getElem i F]
def IU {ρ:O Nat}{φ φ':Nat->C (Nat×Rp)}{r:Nat}(h:r∉ρ):back ρ φ φ' r=φ r:=by unfold back;rw[Xj h]
def Mem.merge {w':B}{S':Sc}{φ':Nat->C (Nat×Rp)}{gF F:O OB}{ρ ρ':O Nat}(m:Mem E w S φ ob)(a6 :∀r∈ρ,ob r≠none)(aa:rY gF=sy ρ ob)(K:gF.length=ρ.length) {ab:Nat->Prop} {ai:tK E.wl ab (Js (sy ρ φ) gF.length) S w} (M:Mem ⟨w,S,Js (sy ρ φ) gF.length,E.wl,ab,ai⟩ w' S' φ' (rY F)) (k':Kept w S (sy ρ φ) (rY gF) w' S' φ' (rY F)) (ae :∀o∈F,A4 o=true) (hn:ρ'.Nodup) (hl:ρ'.length=F.length) (hx:Ext ρ ρ') (af :∀r∈ρ',r∈ρ\/ob r=none) : Mem E w' S' (back ρ' φ φ') (Ag ob (ρ'.zip F))/\Kept w S φ ob w' S' (back ρ' φ φ') (Ag ob (ρ'.zip F)):=by
 obtain⟨z1,z2⟩:=Pn ρ' F ob hn hl;have a7 :∀r,r∈ρ->r∈ρ':=λr J=>by obtain⟨l,rfl⟩:=hx;exact List.mem_append_left _ J
 have aj:ρ.length<=ρ'.length:=by obtain⟨l,rfl⟩:=hx;simp
 have ag :∀{r:Nat},ob r≠none->r∉ρ' \/∃i,∃H:i<ρ.length,ρ[i]=r/\∃Q:i<ρ'.length,ρ'[i]=r:=by
  intro r J;by_cases h:r∈ρ'
  ·rcases af r h with h'|h'
   ·obtain⟨i,H,rfl⟩:=Wz h';refine .inr ⟨i,H,rfl,by omega,?_⟩;have:=hx.get H;rw[X15 H,X15 (by omega)] at this;exact X25 this
   exact absurd h' J
  exact .inl h
 have U :∀{r b c},ob r≠none->r∉ρ->φ r=some (b,c)->¬ Js (sy ρ φ) gF.length b:=by rintro r b c h1 V h3 ⟨i,c',H,Y⟩;rw[K] at H;simp only[sy,X15 H,Xbv] at Y;exact V (m.inj r ρ[i] b c c' h1 (a6 _ (Wx H)) h3 Y▸Wx H)
 have ah :∀{r b c},ob r≠none->r∉ρ->φ r=some (b,c)->w'.heap[b]?=w.heap[b]?/\∀o,S' b o->S b o:=by intro r b c h1 V h3;have hb:=(m.ow r b c h1 h3).1;have hp:=U h1 V h3;exact⟨M.fr b hb hp,λo ho=>M.nS b o ho hb hp⟩
 have hk:Kept w S φ ob w' S' (back ρ' φ φ') (Ag ob (ρ'.zip F)):=by
  refine⟨k'.k,λr J=>?_,λr J=>?_⟩
  ·rcases ag J with h|⟨i,H,e1,Q,e2⟩
   ·refine .inl ?_;rw[IU h,z2 r h];exact⟨rfl,rfl,id⟩
   have a8:=k'.r i (by rw[aa];simp[sy,H,e1,J]);have q1:sy ρ φ i=φ r:=by simp[sy,H,e1]
   have q2:rY gF i=ob r:=by rw[aa];simp[sy,H,e1]
   have q3:back ρ' φ φ' r=φ' i:=by rw[<- e2];exact Hg hn Q
   have q4:Ag ob (ρ'.zip F) r=rY F i:=by rw[<- e2,z1 i Q (by omega)];simp[rY,show i<F.length by omega]
   unfold sW at a8⊢;rw[q1,q2] at a8;rw[q3,q4];exact a8
  rcases ag J with h|⟨i,H,e1,Q,e2⟩
  ·rw[z2 r h];exact J
  rw[<- e2,z1 i Q (by omega)];simp
 refine⟨⟨?_,?_,?_,?_,?_,M.bS |> λh=>h,?_,?_,?_,?_,?_⟩,hk⟩
 ·intro r o h;by_cases J:r∈ρ'
  ·obtain⟨i,H,rfl⟩:=Wz J;rw[z1 i H (by omega)] at h;obtain rfl:=X25 h;exact (M.obj i F[i] (by simp[rY,show i<F.length by omega])).rename (ae _ (Wx _)) (Hg hn H)
  rw[z2 r J] at h;exact (m.obj r o h).s9 hk (IU J) (λb c hb=>ah (by simp[h]) (λhh=>J (a7 r hh)) hb) (m.tE r o h)
 ·intro r1 r2 b c c' h1 V g1 g2;have Z :∀{r1 r2 b c c'},r1∈ρ'->r2∉ρ'->Ag ob (ρ'.zip F) r2≠none->back ρ' φ φ' r1=some (b,c)->back ρ' φ φ' r2=some (b,c')->False:=by
   intro r1 r2 b c c' e1 e2 V g1 g2;obtain⟨i,H,rfl⟩:=Wz e1;rw[Hg hn H] at g1;rw[IU e2] at g2;rw[z2 _ e2] at V;have q1:=M.ow i b c (by simp[rY,show i<F.length by omega]) g1;have q2:=(m.ow r2 b c' V g2).1;rcases q1.2 with q|q
   ·simp only at q;omega
   exact U V (λhh=>e2 (a7 r2 hh)) g2 q
  by_cases e1:r1∈ρ'
  ·by_cases e2:r2∈ρ'
   ·obtain⟨i,H,rfl⟩:=Wz e1;obtain⟨j,hj,rfl⟩:=Wz e2;rw[Hg hn H] at g1;rw[Hg hn hj] at g2;have:i=j:=M.inj i j b c c' (by simp[rY,show i<F.length by omega]) (by simp[rY,show j<F.length by omega]) g1 g2;subst this;rfl
   exact (Z e1 e2 V g1 g2).elim
  by_cases e2:r2∈ρ'
  ·exact (Z e2 e1 h1 g2 g1).elim
  rw[IU e1] at g1;rw[IU e2] at g2;rw[z2 _ e1] at h1;rw[z2 _ e2] at V;exact m.inj r1 r2 b c c' h1 V g1 g2
 ·intro r o h r' hm;by_cases J:r∈ρ'
  ·obtain⟨i,H,rfl⟩:=Wz J;rw[z1 i H (by omega)] at h;obtain rfl:=X25 h;rw[I9 (ae _ (Wx _))] at hm;simp at hm
  rw[z2 r J] at h;exact hk.c _ (m.tE r o h r' hm)
 ·exact λb o h=>M.sS b o (m.sS b o h)
 ·exact λb o h=>(M.kS b o (m.sS b o h)).trans (m.kS b o h)
 ·intro b o h hb hp;by_cases hq:Js (sy ρ φ) gF.length b
  ·obtain⟨i,c,H,Y⟩:=hq;rw[K] at H;simp only[sy,X15 H,Xbv] at Y;rcases (m.ow ρ[i] b c (a6 _ (Wx H)) Y).2 with g|g
   ·omega
   exact absurd g hp
  exact m.nS b o (M.nS b o h (Xap hb m.sz) hq) hb hp
 ·intro b hb hp;refine (M.fr b (Xap hb m.sz) λhq=>?_).trans (m.fr b hb hp);obtain⟨i,c,H,Y⟩:=hq;rw[K] at H;simp only[sy,X15 H,Xbv] at Y;rcases (m.ow ρ[i] b c (a6 _ (Wx H)) Y).2 with g|g
  ·omega
  exact hp g
 ·exact Xa3 m.sz M.sz
 ·intro r b c h g;by_cases J:r∈ρ'
  ·obtain⟨i,H,rfl⟩:=Wz J;rw[Hg hn H] at g;have q:=M.ow i b c (by simp[rY,show i<F.length by omega]) g;refine⟨q.1,?_⟩;rcases q.2 with q|⟨j,c',hj,Y⟩
   ·have:=m.sz;simp only at q;exact .inl (by omega)
   rw[K] at hj;simp only[sy,X15 hj,Xbv] at Y;exact (m.ow ρ[j] b c' (a6 _ (Wx hj)) Y).2
  rw[z2 r J] at h;rw[IU J] at g;have q:=m.ow r b c h g;have:=M.sz;simp only at this;exact⟨by omega,q.2⟩
 obtain⟨a1,a2,a3,a4⟩:=M.os;obtain⟨b1,b2,b3,b4⟩:=m.os;exact⟨a1.trans b1,a2.trans b2,a3.trans b3,a4.elim .inl λa=>b4.imp_right λh=>Xa3 h a⟩
def QU {obl:O (C OB)}(m1:Mem E w S1 φ (Ag (λr=>obl.getD r none) wr1))(k1:Kept w S φ (λr=>obl.getD r none) w S1 φ (Ag (λr=>obl.getD r none) wr1))(ax:rl (λr=>obl.getD r none) (Ag (λr=>obl.getD r none) wr1)) {f:Xcx} {M:O AV} {J:Array A} {ρ ρ' ρ0:O Nat} {self:Nat} {gF F:O OB} {ag Q:AV} (ay:UP obl wr1) (hn:ρ.Nodup) (az :∀x∈ρ,x∈([]:O Nat)\/obl.getD x none≠none) (seen:sA (λa v=>sO S1 w φ (Ag (λr=>obl.getD r none) wr1) ρ a v) M J.toList) (ah:KG.apartW wr1 ρ=true) (ai:gF.length=ρ.length) (U :∀i (H:i<gF.length) (hi':i<ρ.length),obl.getD ρ[i] none=some gF[i]/\A4 gF[i]=true) (hC:Bj E.wl P f M gF ag F) (aj:Z4 ρ0 self ag=some Q) (b0 :∀o∈F,A4 o=true) (ak :∀i (H:i<ρ'.length),ρ0.getD i self=ρ'[i]) (V:ρ'.length=F.length) (hx:Ext ρ ρ') (a8:ρ'.Nodup) (a1 :∀r∈ρ',r∈ρ\/obl[r]?=some none) : (∀ r o, (r, o) ∈ wr1 ++ ρ'.zip F → r < obl.length) ∧ (∃ fn, P.funcs[f]? = some fn ∧ fn.name ≠ "runtime.NumGoroutine" ∧ fn.body.isSome = true) ∧ Calls P f J w λe w'=>∃v,e=.returned v/\s6 E w S φ (λr=>obl.getD r none) Q (wr1++ρ'.zip F) v w':=by
 obtain⟨ba,aa⟩:=hC;have al :∀x∈wr1,∀r∈ρ,x.1≠r:=by intro x hx r Z e;simp only[KG.apartW,Wo] at ah;have:=ah x hx r Z;rw[show Xa6 r x.1=true by rw[e];exact Xd4 r] at this;simp at this
 have a7 :∀r∈ρ,obl.getD r none≠none:=λr Z=>(az r Z).resolve_left (by simp);have a6 :∀r∈ρ,Ag (λr=>obl.getD r none) wr1 r=obl.getD r none:=λr Z=>EG _ _ _ λx hx=>al x hx r Z;have an:rY gF=sy ρ (Ag (λr=>obl.getD r none) wr1):=by
  funext i;by_cases H:i<ρ.length
  ·have hi':i<gF.length:=by omega
   simp only[rY,sy,X15 H,X15 hi',Xbv];rw[a6 _ (Wx H),(U i hi' H).1]
  simp[rY,sy,show ρ.length<=i by omega,show gF.length<=i by omega]
 have Y :∀r∈ρ,Ag (λr=>obl.getD r none) wr1 r≠none:=λr Z=>by rw[a6 r Z];exact a7 r Z
 have ao:tK E.wl E.gb (Js (sy ρ φ) gF.length) S1 w:=m1.vQ λb hb=>by
  obtain⟨i,c,H,hs⟩:=hb;have hi':i<ρ.length:=by omega
  exact⟨ρ[i],c,Y _ (Wx hi'),by simpa[sy,hi'] using hs⟩
 have m0:Mem ⟨w,S1,Js (sy ρ φ) gF.length,E.wl,E.gb,ao⟩ w S1 (sy ρ φ) (rY gF):=by
  have get :∀{i:Nat},rY gF i≠none->∃H:i<ρ.length,Ag (λr=>obl.getD r none) wr1 ρ[i]≠none/\sy ρ φ i=φ ρ[i]:=by
   intro i h;have H:i<ρ.length:=by refine Xaz λap=>h ?_;simp[rY,show gF.length<=i by omega]
   exact⟨H,Y _ (Wx H),by simp[sy,H]⟩
  refine⟨λi o h=>?_,λi j b c c' h1 h2 g1 g2=>?_,λi o h r' hm=>?_,λ_ _ h=>h,λ_ _ _=>rfl,m1.bS,λ_ _ h _ _=>h,λ_ _ _=>rfl,Xa8 _,λi b c h g=>?_,rfl,rfl,rfl,.inr (Xa8 _)⟩
  ·obtain⟨H,h1,h2⟩:=get (i:=i) (by simp[h]);have hi':i<gF.length:=by omega
   have e1:gF[i]=o:=by simpa[rY,hi'] using h
   have e2:Ag (λr=>obl.getD r none) wr1 ρ[i]=some gF[i]:=by rw[a6 _ (Wx H),(U i hi' H).1]
   rw[<- e1];exact (m1.obj _ _ e2).rename (U i hi' H).2 h2
  ·obtain⟨H,p1,p2⟩:=get h1;obtain⟨hj,q1,q2⟩:=get h2;rw[p2] at g1;rw[q2] at g2;have:=m1.inj _ _ b c c' p1 q1 g1 g2;exact (List.getElem_inj hn).1 this
  ·obtain⟨H,_,_⟩:=get (i:=i) (by simp[h]);have hi':i<gF.length:=by omega
   have e1:gF[i]=o:=by simpa[rY,hi'] using h
   rw[<- e1,I9 (U i hi' H).2] at hm;simp at hm
  obtain⟨H,p1,p2⟩:=get h;exact⟨(m1.ow _ b c p1 (p2▸g)).1,.inr ⟨i,c,by omega,g⟩⟩
 have s7:J.size=M.length:=by
  have :∀{l:O AV} {k:O A} {R:AV->A->Prop},sA R l k->l.length=k.length:=by
   intro l k R h;induction h with
   | nil=>rfl
   | cons _ _ ih=>simp[ih]
  have:=this seen;simpa using this.symm
 have ab :∀i (H:i<M.length),gM S1 w (sy ρ φ) (rY gF) M[i] (J.getD i Xc3)/\gO (rY gF) M[i]:=by
  have get :∀{l:O AV} {k:O A} {R:AV->A->Prop},sA R l k->∀i (H:i<l.length),∃v,k[i]?=some v/\R l[i] v:=by
   intro l k R h;induction h with
   | nil=>intro i H;simp at H
   | cons h _ ih=>
    intro i H;cases i with
    | zero=>exact⟨_,rfl,h⟩
    | succ i=>exact ih i (by simpa using H)
  intro i H;obtain⟨v,h1,h2,h3⟩:=get seen i H;have:J.getD i Xc3=v:=by
   have:J[i]?=some v:=by simpa using h1
   simp[this]
  rw[this,an];refine⟨h2,λr Z=>?_⟩;have aq:=h3 r Z;simp only[sy,X15 aq,Xbv];exact Y _ (Wx aq)
 have ae :∀r,gF.length<=r->sy ρ φ r=none:=λr Z=>by simp[sy,show ρ.length<=r by omega]
 have ar :∀r∈ρ',r∈ρ\/Ag (λr=>obl.getD r none) wr1 r=none:=λr Z=>(a1 r Z).imp id λh=>ax.none (CV h).1;refine⟨λr o hm=>?_,ba,(aa w S1 (sy ρ φ) E.gb ao J s7 ab ae m0).mono ?_⟩
 ·rcases X23.1 hm with hm|hm
  ·obtain⟨e',bb,bc,f',e1,_⟩:=ay r o hm;exact Dz obl r _ e1
  rcases a1 r (List.of_mem_zip hm).1 with h'|h'
  ·cases hg:obl.getD r none with
   | none=>exact absurd hg (a7 r h')
   | some o=>exact Dz obl r o hg
  exact (CV h').2
 rintro e w' ⟨v,he,S',φ',mm,kk,rr,cc⟩;refine⟨v,he,?_⟩;obtain⟨m2,k2⟩:=m1.merge Y an ai mm kk b0 a8 V hx ar;obtain⟨z1,z2⟩:=Pn ρ' F (Ag (λr=>obl.getD r none) wr1) a8 V
 have au:=XF (ρ:=ρ0) (self:=self) (φ':=back ρ' φ φ') (ob':=Ag (Ag (λr=>obl.getD r none) wr1) (ρ'.zip F)) (K:=λa=>a=Q) rr cc (λi H=>by
  have hi':i<F.length:=by refine Xaz λap=>H ?_;simp[rY,ap]
  have af:i<ρ'.length:=by omega
  rw[ak i af]
  exact⟨Hg a8 af,by rw[z1 i af hi'];simp[rY,hi']⟩) ((NB _ _ _ _).2 ⟨Q,aj,rfl⟩)
 obtain⟨_,rfl,r1,r2⟩:=au;refine⟨S',back ρ' φ φ',?_,?_,?_,?_⟩
 ·rw[AU];exact m2
 ·rw[AU];exact k1.trans k2
 ·rw[AU];exact r1
 rw[AU];exact r2
def WJ {obl:O (Option OB)}{cx:Cx}(hC :∀f args gF a8 F,cx.C f args gF a8 F->Bj E.wl P f args gF a8 F)(m:Mem E w S φ (λr=>obl.getD r none)){f:Xcx}{self:Nat}{args:O AV}{U:Array A}{K:AV->W->Prop} (hv:sA (λa v=>gM S w φ (λr=>obl.getD r none) a v/\gO (λr=>obl.getD r none) a) args U.toList) (h:Uz cx f self args obl K) : ∃ out wr, K out wr ∧ (∀ r o, (r, o) ∈ wr → r < obl.length) ∧ (∃ fn, P.funcs[f]? = some fn ∧ fn.name ≠ "runtime.NumGoroutine" ∧ fn.body.isSome = true) ∧ Calls P f U w λe w'=>∃v,e=.returned v/\s6 E w S φ (λr=>obl.getD r none) out wr v w':=by
 rw[Vt] at h;unfold KG at h;obtain⟨al,M,wr1,S1,H,m1,k1,ae,af,_,hn,aa,V⟩:=J1 m (rl.refl _) List.nodup_nil hv h;rw[AH] at H;obtain⟨ag,H⟩:=H;obtain⟨gF,H,Y,Z⟩:=Gs H;obtain⟨a8,F,ah,ab,H⟩:=H;rw[NB] at H;obtain⟨a1,a6,H⟩:=H;obtain⟨an,H,ai,ak,J⟩:=OY H;have a7:(M++[self]).zip F=((M++[self]).take F.length).zip F:=Ud _ _;rcases ak with hl|hl
 ·have Q:(M++[self]).take F.length=M:=by rw[hl,List.take_left'];rfl
  rw[a7,Q] at J;obtain⟨c1,c2,c3⟩:=QU m1 k1 ae (ρ':=M) (ρ0:=M) (self:=self) af hn aa V ag Y Z (hC _ _ _ _ _ ah) a6 ai (λi hi=>by simp[hi]) hl.symm (.refl M) hn (λr hr=>.inl hr);rw[<- J] at c1 c3;exact⟨a1,_,H,c1,c2,c3⟩
 have Q:(M++[self]).take F.length=M++[self]:=by rw[hl];exact List.take_of_length_le (by simp)
 rw[a7,Q] at J;have hs:obl[self]?=some none:=by
  rcases ab with h|h
  ·omega
  exact h
 obtain⟨c1,c2,c3⟩:=QU m1 k1 ae (ρ':=M++[self]) (ρ0:=M) (self:=self) af hn aa V ag Y Z (hC _ _ _ _ _ ah) a6 ai (λi hi=>by
   rw[Xbs];split
   ·rename_i aj;simp[aj]
   ·rename_i aj;simp[show M.length<=i by omega]) (by simp[hl]) ⟨[self],rfl⟩ (by
   rw[Xbw]
   exact⟨hn,by simp,λa ha b hb e=>by
    simp at hb;subst hb;subst e
    exact ((aa a ha).resolve_left (by simp)) (CV hs).1⟩) (λr hr=>by
   rcases X23.1 hr with h|h
   ·exact .inl h
   simp only[X14] at h;exact .inr (h▸hs))
 rw[<- J] at c1 c3;exact⟨a1,_,H,c1,c2,c3⟩
def Of :∀{ρ:O Nat} {gF:O OB} {K:W->Prop},SQ ρ gF K->K (ρ.zip gF)/\(∀o∈gF,A4 o=true)/\ρ.length=gF.length
 | [],[],K,h=>⟨h,by simp,rfl⟩
 | r::ρ,o::os,K,h=>by
  simp only[SQ] at h;split at h
  ·rename_i F;obtain⟨H,J,M⟩:=Of h;refine⟨H,λx Q=>?_,by simp[M]⟩;rcases Wp.1 Q with e|e
   ·rw[e];exact F
   exact J x e
  exact h.elim
 | [],_::_,K,h=>by simp[SQ] at h
 | _::_,[],K,h=>by simp[SQ] at h
def Wb {l:O Nat}{r:Nat}:Lt l r=true↔r∈l:=by
 induction l with
 | nil=>simp[Lt]
 | cons x l F=>simp only[Lt,Xco,F,Wp];exact⟨λh=>h.imp X30 id,λh=>h.imp (λe=>by rw[e];exact Xd4 x) id⟩
def P9 {l:O Nat}(h:QS l=true):l.Nodup:=by
 induction l with
 | nil=>exact List.nodup_nil
 | cons x l F=>simp only[QS,X27,Xb7] at h;refine List.nodup_cons.2 ⟨λH=>?_,F h.2⟩;rw[Wb.2 H] at h;simp at h
def Mem.grown (m:Mem E w S φ ob){w':B}(K :∀b,b<w.heap.size->w'.heap[b]?=w.heap[b]?)(M:w.heap.size<=w'.heap.size)(F:w'.os=w.os/\w'.output=w.output/\w'.tape=w.tape/\(E.wl.wl\/w.drawn<=w'.drawn)) : Mem E w' S φ ob/\Kept w S φ ob w' S φ ob:=by have U :∀{b o},b<w.heap.size->cellAt w' b o=cellAt w b o:=λh=>DT (K _ h) _;have V:Kept w S φ ob w' S φ ob:=⟨λb o h=>⟨h,U (m.bS b o h)⟩,λr _=>.refl φ ob r,λr h=>h⟩;refine⟨⟨λr o h=>(m.obj r o h).s9 V rfl (λb c Q=>⟨K b (m.ow r b c (by simp[h]) Q).1,λ_ h=>h⟩) (m.tE r o h),m.inj,m.tE,m.sS,λb o h=>(U (m.bS b o (m.sS b o h))).trans (m.kS b o h), λb o h=>Xap (m.bS b o h) M,m.nS,λb H J=>(K b (Xap H m.sz)).trans (m.fr b H J),Xa3 m.sz M,λr b c H J=>⟨Xap (m.ow r b c H J).1 M,(m.ow r b c H J).2⟩, F.1.trans m.os.1,F.2.1.trans m.os.2.1,F.2.2.1.trans m.os.2.2.1,F.2.2.2.elim .inl λa=>m.os.2.2.2.imp_right λh=>Xa3 h a⟩,V⟩
def rH.vZ {S':Sc}{w':B}{x:D}{v:A}(h:rH S w x v)(F:OP x=true):rH S' w' x v:=by
 cases h with
 | val v h=>exact .val v h
 | agg H vs f M Q U V=>
  refine .agg H vs f M Q U λi K=>?_;have:=V i K;simp only[OP,Wo] at F;have J:=F H[i] (Wx K);revert this J;generalize H[i]=c;intro this J;cases c with
  | val u=>cases this with|val _ h=>exact .val _ h
  | _=>simp at J
 | nil=>simp[OP] at F
 | sB=>simp[OP] at F
 | su=>simp[OP] at F
def gM.vZ {S':Sc}{w':B}{φ':Nat->C (Nat×Rp)}{ob':Nat->C OB}{x:AV}{v:A}(h:gM S w φ ob x v)(F:Yb x=true):gM S' w' φ' ob' x v/\gO ob' x:=by
 cases h with
 | d x v h=>exact⟨.d _ _ (h.vZ F),λr K=>by simp[AV.refs] at K⟩
 | sH H vs f Q U V=>
  have J :∀c∈H,∃x,c=.d x/\OP x=true:=by intro c J;simp only[Yb,Wo] at F;have:=F c J;cases c<;>simp at this;exact⟨_,rfl,this⟩
  refine⟨.sH H vs f Q U λi M=>?_,λr K=>?_⟩
  ·obtain⟨x,e,Y⟩:=J H[i] (Wx M);have:=V i M;rw[e] at this⊢;cases this with|d _ _ h=>exact .d _ _ (h.vZ Y)
  obtain⟨c,Z,g2⟩:=AV.sf H r (by simpa[AV.refs] using K);obtain⟨x,rfl,_⟩:=J c Z;simp[AV.refs] at g2
 | _=>simp[Yb] at F
def Uj {obl:O (Option OB)}{cx:Cx}(hC :∀f args gF V H,cx.C f args gF V H->Bj E.wl P f args gF V H)(m:Mem E w S φ (λr=>obl.getD r none)){f:Xcx}{args:O AV}{F:Array A}{K:AV->W->Prop} (hv:sA (λa v=>gM S w φ (λr=>obl.getD r none) a v/\gO (λr=>obl.getD r none) a) args F.toList) (h:eW cx f args obl K) : ∃ out wr, K out wr ∧ (∀ r o, (r, o) ∈ wr → r < obl.length) ∧ (∃ fn, P.funcs[f]? = some fn ∧ fn.name ≠ "runtime.NumGoroutine" ∧ fn.body.isSome = true) ∧ Calls P f F w λe w'=>∃v,e=.returned v/\s6 E w S φ (λr=>obl.getD r none) out wr v w':=by
 unfold eW at h;obtain⟨a7,ρ,wr1,S1,J,m1,k1,ah,ai,_,hn,a8,Q⟩:=J1 m (rl.refl _) List.nodup_nil hv h;rw[AH] at J;obtain⟨aj,J⟩:=J;obtain⟨gF,J,Y,aa⟩:=Gs J;obtain⟨V,H,b,ab,J⟩:=J;cases b with
 | some M=>
  simp only[AH,NB] at J;obtain⟨Z,ae,af,J⟩:=J;obtain⟨J,ak,hl⟩:=Of J;simp only[ej,X27,Wo] at Z;have ag :∀r∈M,obl[r]?=some none:=by
   intro r hr;have:=Z.2 r hr;split at this
   ·assumption
   simp at this
  obtain⟨c1,c2,c3⟩:=QU m1 k1 ah (ρ':=ρ++M) (ρ0:=ρ++M) (self:=0) ai hn a8 Q aj Y aa (hC _ _ _ _ _ ab) af ak (λi U=>by simp only[Wq,X15 U,Xao]) hl ⟨M,rfl⟩ (by
    rw[Xbw]
    exact⟨hn,P9 Z.1,λa ha b hb e=>by
     subst e
     exact ((a8 a ha).resolve_left (by simp)) (CV (ag a hb)).1⟩) (λr hr=>by
    rcases X23.1 hr with h|h
    ·exact .inl h
    exact .inr (ag r h))
  exact⟨ae,_,J,c1,c2,c3⟩
 | none=>
  simp only[AH,X27,List.isEmpty_iff] at J;obtain⟨⟨⟨rfl,rfl⟩,hs⟩,al⟩:=J;have a1:gF=[]:=Xab Y;subst a1;obtain⟨an,a6⟩:=hC _ _ _ _ _ ab;refine⟨V,[],al,λr o hm=>by simp at hm,an,?_⟩;have s7:F.size=a7.length:=by
   have :∀{l:O AV} {k:O A} {R:AV->A->Prop},sA R l k->l.length=k.length:=by
    intro l k R h;induction h with
    | nil=>rfl
    | cons _ _ ih=>simp[ih]
   have:=this Q;simpa using this.symm
  have he:(sy [] (Ag (λr=>obl.getD r none) wr1))=rY []:=by funext i;simp[sy,rY]
  have ao:tK E.wl E.gb (Js (sy [] φ) ([]:O OB).length) S1 w:=m1.vQ (PB:=Js (sy [] φ) ([]:O OB).length) λb hb=>by obtain⟨i,c,U,_⟩:=hb;simp at U
  refine (a6 w S1 (sy [] φ) E.gb ao F s7 (λi U=>?_) (λr _=>by simp[sy]) ?_).mono ?_
  ·have get :∀{l:O AV} {k:O A} {R:AV->A->Prop},sA R l k->∀i (U:i<l.length),∃v,k[i]?=some v/\R l[i] v:=by
    intro l k R h;induction h with
    | nil=>intro i U;simp at U
    | cons h _ ih=>
     intro i U;cases i with
     | zero=>exact⟨_,rfl,h⟩
     | succ i=>exact ih i (by simpa using U)
   obtain⟨v,h1,h2,h3⟩:=get Q i U;have:F.getD i Xc3=v:=by
    have:F[i]?=some v:=by simpa using h1
    simp[this]
   rw[this];rw[he] at h2;exact⟨h2,λr hr=>absurd (h3 r hr) (by simp)⟩
  ·exact⟨λr o h=>by simp[rY] at h,λr r' b c c' h=>by simp[rY] at h,λr o h=>by simp[rY] at h,λ_ _ h=>h,λ_ _ _=>rfl,m1.bS,λ_ _ h _ _=>h,λ_ _ _=>rfl,Xa8 _,λr b c h=>by simp[rY] at h,rfl,rfl,rfl,.inr (Xa8 _)⟩
  rintro e w' ⟨v,he,S',φ',mm,kk,rr,cc⟩;refine⟨v,he,S,φ,?_⟩;have ap :∀b,¬ Js (sy [] φ) ([]:O OB).length b:=by rintro b ⟨r,c,h1,_⟩;simp at h1
  obtain⟨m2,k2⟩:=m.grown (w':=w') (λb hb=>mm.fr b hb (ap b)) mm.sz mm.os;obtain⟨r1,r2⟩:=rr.vZ (S':=S) (w':=w') (φ':=φ) (ob':=λr=>obl.getD r none) hs;exact⟨m2,k2,r1,r2⟩
end
end Go.AX
end
