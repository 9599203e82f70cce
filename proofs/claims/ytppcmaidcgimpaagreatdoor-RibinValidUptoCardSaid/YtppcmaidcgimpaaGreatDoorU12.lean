/-
  Texts of one proof, packed.
-/
import Derived.Test.YtppcmaidcgimpaaGreatDoorU11
set_option linter.all false
set_option maxRecDepth 100000
set_option maxHeartbeats 4000000
open List renaming length_map→X10,length_append→X11,mem_singleton→X14,length_drop→X17,length_take→X18,mem_cons_of_mem→X19,length_replicate→X20,length_set→X21,mem_append→X23
open Option.some renaming injEq→X24
open Go renaming Operand→Xbq,FuncId→Xdm
open Nat renaming beq→Xab
open Go.Op renaming operands→Xbg
section
namespace Go.AX
def xc (rs:I Nat)(ob ob':I (O OB)):Prop:=∀r∈rs,ob'[r]?=ob[r]?
def xc.mono {rs H:I Nat}{ob ob':I (O OB)}(h:xc rs ob ob')(J :∀r∈H,r∈rs):xc H ob ob':=λr K=>h r (J r K)
def xE (rs:I Nat)(w:W):Prop:=∀q∈w,q.1∈rs
def Loc (rs:I Nat)(ob:I (O OB))(Q:AV->W->Prop)(F:I (O OB)->(AV->W->Prop)->Prop):Prop:=
 ∀K,F ob K->∃v w,K v w/\Q v w/\∀H,xc rs ob H->∀J:AV->W->Prop,J v w->F H J
def qC (r:Nat) :∀(l:I Nat) (n:Nat) {F N:Nat->Prop},Nv.go r l n F N->(∃k,F k/\∀H J:Nat->Prop,H k->Nv.go r l n H J)\/(∃k,N k/\∀H J:Nat->Prop,J k->Nv.go r l n H J)
 | [],n,F,N,h=>.inr ⟨n,h,λH J K=>K⟩
 | x::l,n,F,N,h=>by
  simp only[Nv.go] at h⊢;cases U:Xab x r with
  | true=>simp only[U] at h⊢;exact .inl ⟨n,h,λH J K=>K⟩
  | false=>
   simp only[U] at h⊢;rcases qC r l (n+1) h with ⟨k,M,P⟩|⟨k,M,P⟩
   ·exact .inl ⟨k,M,P⟩
   exact .inr ⟨k,M,P⟩
section
variable {rs:I Nat} {ob:I (O OB)} {Q:AV->W->Prop} {F G:I (O OB)->(AV->W->Prop)->Prop}
def Loc.ret {v:AV}{w:W}(h:Q v w):Loc rs ob Q λ_ K=>K v w:=λ_ k=>⟨v,w,k,h,λ_ _ _ k=>k⟩
def Loc.no:Loc rs ob Q λ_ _=>False:=λ_ h=>h.elim
def Loc.and {P:Prop}(h:P->Loc rs ob Q F):Loc rs ob Q λob K=>P/\F ob K:=λK ⟨p,k⟩=>
 let ⟨v,w,a,b,c⟩:=h p K k
 ⟨v,w,a,b,λH J M k=>⟨p,c H J M k⟩⟩
def Loc.ex {α:Type}{F:α->I (O OB)->(AV->W->Prop)->Prop}(h :∀x,Loc rs ob Q (F x)):Loc rs ob Q λob K=>∃x,F x ob K:=λK ⟨x,k⟩=>
 let ⟨v,w,a,b,c⟩:=h x K k
 ⟨v,w,a,b,λH J M k=>⟨x,c H J M k⟩⟩
def Loc.or (h:Loc rs ob Q F)(g:Loc rs ob Q G):Loc rs ob Q λob K=>F ob K\/G ob K:=λK k=>by
 rcases k with k|k
 ·obtain⟨v,w,a,b,c⟩:=h K k;exact⟨v,w,a,b,λH J M k=>.inl (c H J M k)⟩
 obtain⟨v,w,a,b,c⟩:=g K k;exact⟨v,w,a,b,λH J M k=>.inr (c H J M k)⟩
def Loc.only {c:C}(h:c=true->Loc rs ob Q F):Loc rs ob Q λob K=>AZ c (F ob K):=by
 cases c with
 | true=>exact h rfl
 | false=>exact Loc.no
def Loc.z6 {r:Nat}(M:r∈rs)(h:Loc rs ob Q F):Loc rs ob Q λob K=>z6 ob r (F ob K):=λK k=>by have k:=(Gz _ _ _).1 k;obtain⟨v,w,a,b,c⟩:=h K k.2;exact⟨v,w,a,b,λH J P q=>(Gz _ _ _).2 ⟨(J r M).trans k.1,c H J P q⟩⟩
def Loc.find {r:Nat}{F:OB->I (O OB)->(AV->W->Prop)->Prop}(P:r∈rs)(h :∀o,Loc rs ob Q (F o)):Loc rs ob Q λob K=>DY ob r λo=>F o ob K:=λK k=>by obtain⟨o,J,k⟩:=(BF _ _ _).1 k;obtain⟨v,w,a,b,c⟩:=h o K k;refine⟨v,w,a,b,λH M U q=>(BF _ _ _).2 ⟨o,?_,c H M U q⟩⟩;rw[Xa6] at J⊢;rw[M r P];exact J
def lH :∀{M:I AV} {G:I D->W->I (O OB)->(AV->W->Prop)->Prop},(∀r∈AV.refs.refsL M,r∈rs)->(∀l w,xE rs w->Loc rs ob Q (G l w))->Loc rs ob Q λob K=>fv.toDs ob M λl w=>G l w ob K
 | [],G,_,h=>h [] [] nofun
 | c::M,G,V,h=>by
  have U:=λG h=>@lH M G (λr P=>V r (by simp[AV.refs.refsL,P])) h;cases c with
  | d x=>cases x with
   | agg=>exact Loc.no
   | _=>exact U (λl w=>G (_::l) w) λl w H=>h _ _ H
  | own r n=>
   have P:r∈rs:=V r (by simp[AV.refs.refsL,AV.refs]);refine Loc.find P λo=>?_;cases o with
   | row e sz Y f=>exact Loc.and λ_=>U (λl w=>G (.wE sz Y::l) ((r,.row e sz Y .wS)::w)) λl w H=>h _ _ λq Z=>(Xa3.1 Z).elim (λe=>e▸P) (H q)
   | _=>exact Loc.no
  | fn f J=>cases J with
   | nil=>exact U (λl w=>G (_::l) w) λl w H=>h _ _ H
   | cons=>exact Loc.no
  | _=>exact Loc.no
def Z3 {a:AV}{G:D->W->I (O OB)->(AV->W->Prop)->Prop}(H :∀r∈a.refs,r∈rs)(h :∀x w,xE rs w->Loc rs ob Q (G x w)):Loc rs ob Q λob K=>fv ob a λx w=>G x w ob K:=by
 cases a with
 | d x=>simp only[fv,He];exact h _ _ nofun
 | own r n=>
  have J:r∈rs:=H r (by simp[AV.refs]);simp only[fv];refine Loc.find J λo=>?_;cases o with
  | row e sz U f=>exact Loc.and λ_=>h _ _ λq M=>by simp only[X14] at M;exact M▸J
  | _=>exact Loc.no
 | agg V=>exact lH (G:=λl w=>G (.agg l) w) H λl w P=>h _ _ P
 | _=>exact Loc.no
def ww {sz:Nat} :∀{H:I (Nat×AV)} {i:Nat} {G:I D->W->I (O OB)->(AV->W->Prop)->Prop},(∀r∈AV.refs.refsL (H.map (·.2)),r∈rs)->(∀l w,xE rs w->Loc rs ob Q (G l w))-> Loc rs ob Q λob K=>II.elems ob sz i H λl w=>G l w ob K
 | [],i,G,_,h=>h [] [] nofun
 | (j,v)::H,i,G,P,h=>by
  simp only[II.elems];split
  ·exact Z3 (G:=λx w ob K=>AZ _ (II.elems ob sz (i+1) H λl w'=>G (x::l) (w++w') ob K)) (λr J=>P r (by simp[AV.refs.refsL,J])) λx w U=>Loc.only λ_=>
    ww (λr J=>P r (by simp only[Xbu,AV.refs.refsL,X23];exact .inr J)) λl w' M=>h _ _ λq V=>(X23.1 V).elim (U q) (M q)
  exact Loc.no
def PF {H:Nat->O (Nat×Nat)} :∀{M:I (Nat×AV)} {J:I AV} {G:I AV->I (O OB)->(AV->W->Prop)->Prop},(∀l,Loc rs ob Q (G l))->Loc rs ob Q λob K=>Rh.go H M J λl=>G l ob K
 | [],J,G,h=>h J
 | (i,v)::M,J,G,h=>by
  simp only[Rh.go];split
  ·simp only[Jw,LY];exact Loc.ex λl=>Loc.and λ_=>Loc.only λ_=>Loc.and λ_=>PF h
  exact Loc.no
def R3 {o:O AV}{H:Int}{G:Int->I (O OB)->(AV->W->Prop)->Prop}(h :∀i,Loc rs ob Q (G i)):Loc rs ob Q λob K=>E9 o H λi=>G i ob K:=by
 unfold E9;split
 ·exact h _
 ·exact h _
 exact Loc.no
def PA {y:AV}{G:Nat->I D->I (O OB)->(AV->W->Prop)->Prop}(J :∀r∈y.refs,r∈rs)(h :∀n l,Loc rs ob Q (G n l)):Loc rs ob Q λob K=>mW ob y λn l=>G n l ob K:=by
 have H :∀{r},y.refs=[r]->r∈rs:=λe=>J _ (e▸List.mem_singleton_self _);cases y with
 | d x=>cases x with
  | wE=>exact h _ _
  | nil=>exact h _ _
  | _=>exact Loc.no
 | own r n=>
  simp only[mW,lB];refine Loc.find (H rfl) λo=>?_;cases o with
  | row=>exact Loc.and λ_=>h _ _
  | _=>exact Loc.no
 | xn r a n m=>
  simp only[mW,lB];refine Loc.find (H rfl) λo=>?_;cases o with
  | row=>exact Loc.and λ_=>Loc.ex λ_=>Loc.and λ_=>h _ _
  | _=>exact Loc.no
 | _=>exact Loc.no
def R0 {y:AV}{k sz:Nat}{frz:FZ}{G:FZ->I (O OB)->(AV->W->Prop)->Prop}(V :∀r∈y.refs,r∈rs)(h :∀f,Loc rs ob Q (G f)):Loc rs ob Q λob K=>qI ob y k sz frz λf=>G f ob K:=by
 unfold qI;intro K J;split at J
 ·obtain⟨v,w,a,b,c⟩:=h _ K J;exact⟨v,w,a,b,c⟩
 split at J
 ·rename_i q n;have e :∀H,xc rs ob H->H.getD q none=ob.getD q none:=λH M=>by rw[Xa6,Xa6,M q (V q (by simp[AV.refs]))]
  split at J
  ·rename_i e0 Y ys i j q' m P;split at J
   ·rename_i U;obtain⟨v,w,a,b,c⟩:=h _ K J.2;exact⟨v,w,a,b,λH M K k=>by simp only[e H M,P,U];exact⟨J.1,c H M K k⟩⟩
   rename_i U;obtain⟨v,w,a,b,c⟩:=h _ K J;exact⟨v,w,a,b,λH M K k=>by simp only[e H M,P,U];exact c H M K k⟩
  rename_i Z;obtain⟨v,w,a,b,c⟩:=h _ K J;refine⟨v,w,a,b,λH M K k=>?_⟩;dsimp only;rw[e H M];split
  ·rename_i P;exact absurd P (Z _ _ _ _ _ _ _)
  exact c H M K k
 obtain⟨v,w,a,b,c⟩:=h _ K J;exact⟨v,w,a,b,c⟩
def VZ {r:Nat}{ρ:I Nat}{G:Nat->I Nat->I (O OB)->(AV->W->Prop)->Prop}(U:r∈rs)(J :∀x∈ρ,x∈rs)(h :∀i ρ',(∀x∈ρ',x∈rs)->Loc rs ob Q (G i ρ')):Loc rs ob Q λob K=>Nv.refK r ρ λi ρ=>G i ρ ob K:=λK k=>by
 rcases qC r ρ 0 k with ⟨i,k,g⟩|⟨i,k,g⟩
 ·obtain⟨v,w,a,b,c⟩:=h i ρ J K k;exact⟨v,w,a,b,λH M P k=>g _ _ (c H M P k)⟩
 obtain⟨v,w,a,b,c⟩:=h i (ρ++[r]) (λx V=>(X23.1 V).elim (J x) λe=>X14.1 e▸U) K k;exact⟨v,w,a,b,λH M P k=>g _ _ (c H M P k)⟩
def eO :∀{J:I AV} {ρ:I Nat} {G:I AV->I Nat->I (O OB)->(AV->W->Prop)->Prop},(∀r∈AV.refs.refsL J,r∈rs)->(∀x∈ρ,x∈rs)->(∀c ρ',(∀x∈ρ',x∈rs)->Loc rs ob Q (G c ρ'))-> Loc rs ob Q λob K=>Nv.capsK J ρ λc ρ=>G c ρ ob K
 | [],ρ,G,_,H,h=>h _ _ H
 | c::J,ρ,G,P,H,h=>by
  cases c with
  | ref r M=>exact VZ (G:=λi ρ ob K=>Nv.capsK J ρ λc ρ=>G (.ref i M::c) ρ ob K) (P r (by simp[AV.refs.refsL,AV.refs])) H λi ρ H=>eO (λr U=>P r (by simp[AV.refs.refsL,U])) H λc ρ H=>h _ _ H
  | _=>exact Loc.no
def rP {wc:C}{a:AV}{ρ:I Nat}{G:AV->I Nat->W->I (O OB)->(AV->W->Prop)->Prop}(J :∀r∈a.refs,r∈rs)(H :∀x∈ρ,x∈rs)(h :∀a ρ w,(∀x∈ρ,x∈rs)->xE rs w->Loc rs ob Q (G a ρ w)) : Loc rs ob Q λob K=>Nv wc ob a ρ λa ρ w=>G a ρ w ob K:=by
 have one :∀{r},a.refs=[r]->r∈rs:=λe=>J _ (e▸List.mem_singleton_self _);cases a with
 | d x=>
  simp only[Nv,He];split
  ·exact h _ _ _ H nofun
  exact h _ _ _ H nofun
 | own r n=>cases wc with
  | true=>exact VZ (G:=λi ρ=>G (.own i n) ρ []) (one rfl) H λi ρ H=>h _ _ _ H nofun
  | false=>exact Z3 (G:=λx w=>G (.d x) ρ w) J λx w M=>h _ _ _ H M
 | agg V=>exact Z3 (G:=λx w=>G (.d x) ρ w) J λx w M=>h _ _ _ H M
 | ref r P=>exact VZ (G:=λi ρ=>G (.ref i P) ρ []) (one rfl) H λi ρ H=>h _ _ _ H nofun
 | mp r=>exact VZ (G:=λi ρ=>G (.mp i) ρ []) (one rfl) H λi ρ H=>h _ _ _ H nofun
 | it f r=>exact VZ (G:=λi ρ=>G (.it f i) ρ []) (one rfl) H λi ρ H=>h _ _ _ H nofun
 | wU V=>exact h _ _ _ H nofun
 | fn f U=>exact eO (G:=λc ρ=>G (.fn f c) ρ []) J H λc ρ H=>h _ _ _ H nofun
 | _=>exact Loc.no
def eN :∀{wc:I C} {H:I AV} {ρ:I Nat} {G:I AV->I Nat->W->I (O OB)->(AV->W->Prop)->Prop},(∀r∈AV.refs.refsL H,r∈rs)->(∀x∈ρ,x∈rs)->(∀a ρ w,(∀x∈ρ,x∈rs)->xE rs w->Loc rs ob Q (G a ρ w))-> Loc rs ob Q λob K=>VJ wc ob H ρ λa ρ w=>G a ρ w ob K
 | _,[],ρ,G,_,J,h=>h _ _ _ J nofun
 | wc,a::H,ρ,G,U,J,h=>rP (G:=λa ρ w ob K=>VJ wc.tail ob H ρ λH ρ w'=>G (a::H) ρ (w++w') ob K) (λr M=>U r (by simp[AV.refs.refsL,M])) J λa ρ w J V=>
  eN (λr M=>U r (by simp[AV.refs.refsL,M])) J λH ρ w' J P=>h _ _ _ J λq Y=>(X23.1 Y).elim (V q) (P q)
def eo :∀{ρ:I Nat} {G:I OB->I (O OB)->(AV->W->Prop)->Prop},(∀x∈ρ,x∈rs)->(∀l,Loc rs ob Q (G l))->Loc rs ob Q λob K=>JO ob ρ λl=>G l ob K
 | [],G,_,h=>h []
 | r::ρ,G,H,h=>Loc.find (H r (by simp)) λo=>by
  have J:=λo:OB=>@eo ρ (λl=>G (o::l)) (λx M=>H x (by simp[M])) λl=>h _;cases o with
  | box U=>simp only[MQ];exact Loc.and λ_=>J _
  | row e sz P f=>exact Loc.only λ_=>J _
  | map k e P=>exact J _
  | _=>exact Loc.no
def eL {self:Nat}(M:self∈rs) :∀{ρ:I Nat} {gL:I OB} {G:W->I (O OB)->(AV->W->Prop)->Prop},(∀x∈ρ,x∈rs)->(∀w,xE rs w->Loc rs ob Q (G w))->Loc rs ob Q λob K=>NG ρ self gL λw=>G w ob K
 | [],[],G,_,h=>h [] nofun
 | [],[o],G,_,h=>by
  simp only[NG];split
  ·exact h _ λq J=>by simp only[X14] at J;exact J▸M
  exact Loc.no
 | r::ρ,o::os,G,H,h=>by
  simp only[NG];split
  ·exact eL M (G:=λw=>G ((r,o)::w)) (λx P=>H x (by simp[P])) λw U=>h _ λq J=>(Xa3.1 J).elim (λe=>e▸H r (by simp)) (U q)
  exact Loc.no
 | [],_::_::_,G,_,_=>Loc.no
 | _::_,[],G,_,_=>Loc.no
def pi {cx:Cx}{f:Xdm}{self:Nat}{args:I AV}(hr:self∈rs)(hs :∀r∈AV.refs.refsL args,r∈rs)(hQ :∀v w,xE rs w->Q v w):Loc rs ob Q λob K=>Y8 cx f self args ob K:=by
 simp only[Zn];unfold N5;refine eN (G:=λU P w ob K=>AZ (N5.apartW w P) (JO ob P λgL=>∃M H,cx.C f U gL M H/\(H.length=P.length\/ob[self]?=some none)/\Pq P self M λJ=>NG P self H λw'=>K J (w++w'))) hs nofun λa1 P w V hw=>Loc.only λ_=>?_;refine eo V λgL=>Loc.ex λM=>Loc.ex λH=>Loc.and λ_=>?_;intro K k;obtain⟨h1,k⟩:=k
 obtain⟨v,w,a,b,c⟩:=(show Loc rs ob Q (λob K=>Pq P self M λJ=>NG P self H λw'=>K J (w++w')) by
  simp only[Q8]
  exact Loc.ex λa=>Loc.and λ_=>eL hr (G:=λw' ob K=>K a (w++w')) V λw' Y=>Loc.ret (hQ _ _ λq hq=>(X23.1 hq).elim (hw q) (Y q))) K k
 exact⟨v,w,a,b,λZ ha K' k=>⟨h1.imp id λe=>(ha self hr).trans e,c Z ha K' k⟩⟩
def ey {T:TT}{ty self:Nat}{x:AV}(H:self∈rs)(J :∀v w,xE rs w->Q v w):Loc rs ob Q λob K=>aH T ty self x ob K:=by
 unfold aH;split
 ·split
  ·rename_i e _;intro K k;split at k
   ·rename_i M;rw[AK] at k;exact⟨_,_,k.2,J _ _ λq V=>by simp only[X14] at V;exact V▸H,λP U Y q=>by simp only[U _ H,M];exact (AK _ _).2 ⟨k.1,q⟩⟩
   rename_i M;refine⟨_,_,k,J _ _ nofun,λP U Y q=>?_⟩;dsimp only;rw[U _ H];split
   ·rename_i Z;exact absurd Z M
   exact q
  exact Loc.no
 simp only[B8];exact Loc.ret (J _ _ nofun)
end
end Go.AX
end
section
namespace Go.AX
def SE (np:Nat)(o:z)(av:Xbq->AV):I Nat:=
 (match ZR o.op with
  | true=>[np+o.dst.getD 0]
  | false=>[])++(Ug o.op).flatMap λx=>(av x).refs
def rT {np:Nat}{o:z}{av:Xbq->AV}{x:Xbq}(F:x∈o.op.operands.toList)(H:Ug o.op=o.op.operands.toList) :∀r∈(av x).refs,r∈SE np o av:=λ_ J=>
 Xdp _ (Xdw.2 ⟨x,H▸F,J⟩)
def pd {np:Nat}{o:z}{av:Xbq->AV}(h:ZR o.op=true):np+o.dst.getD 0∈SE np o av:=by unfold SE;rw[h];simp
def OC {av av':Xbq->AV} :∀(l:I (Nat×Xbq)),(∀x∈l.map (·.2),av' x=av x)->(l.map λ(i,x)=>(i,av' x))=l.map λ(i,x)=>(i,av x)
 | [],_=>rfl
 | (i,x)::l,h=>by simp only[Xbu,Xa3,forall_eq_or_imp] at h⊢;rw[h.1,OC l h.2]
def Wq {F:I AV}{r:Nat}:r∈AV.refs.refsL F ↔∃a∈F,r∈a.refs:=by
 induction F with
 | nil=>simp[AV.refs.refsL]
 | cons a l H=>simp[AV.refs.refsL,H]
def VD {av:Xbq->AV}{r:Nat} :∀{l:I (Nat×Xbq)},r∈AV.refs.refsL ((l.map λ(i,x)=>(i,av x)).map (·.2))->∃x∈l.map (·.2),r∈(av x).refs
 | [],h=>by simp[AV.refs.refsL] at h
 | (i,x)::l,h=>by
  simp only[Xbu,AV.refs.refsL,X23] at h;rcases h with h|h
  ·exact⟨x,by simp,h⟩
  obtain⟨y,F,h⟩:=VD h;exact⟨y,by simp only[Xbu,Xa3];exact .inr F,h⟩
def SA {T:TT}{t:Nat}{a:AV} :∀r∈(I5 T t a).refs,r∈a.refs:=by
 intro r F;unfold I5 at F;split at F
 ·split at F
  ·simp[AV.refs] at F
  exact F
 exact F
def TD {T:TT}{av av':Xbq->AV} :∀(l:I Xbq) (ts:I Nat),(∀x∈l,av' x=av x)->Hr T av' l ts=Hr T av l ts
 | [],ts,_=>by simp[Hr]
 | x::xs,[],h=>by simp only[Hr];exact List.map_congr_left h
 | x::xs,t::ts,h=>by simp only[Hr];rw[h x (by simp),TD xs ts λy F=>h y (by simp[F])]
def Uu {T:TT}{av:Xbq->AV}{a:AV} :∀{l:I Xbq} {ts:I Nat},a∈Hr T av l ts->∃x∈l,∀r∈a.refs,r∈(av x).refs
 | [],ts,h=>by simp[Hr] at h
 | x::xs,[],h=>by simp only[Hr] at h;obtain⟨y,F,rfl⟩:=Xaf.1 h;exact⟨y,F,λr H=>H⟩
 | x::xs,t::ts,h=>by
  simp only[Hr,Xa3] at h;rcases h with rfl|h
  ·exact⟨x,by simp,SA⟩
  obtain⟨y,F,H⟩:=Uu h;exact⟨y,by simp[F],H⟩
def jF (np:Nat)(o:z)(av:Xbq->AV)(v:AV)(w:W):Prop:=
 (ZR o.op=false->w=[])/\(oY o.op=true->v.yX=true->w=[])/\(∀x,HP o.op=some x->xE ((np+o.dst.getD 0)::(av x).refs) w)/\xE (SE np o av) w
def VE {av av':Xbq->AV}{q:O Xbq}(h :∀x∈q.toArray.toList,av' x=av x):q.map av'=q.map av:=by
 cases q with
 | none=>rfl
 | some y=>simp only[Xbf];rw[h y (by simp)]
def gJ {cx:Cx}{o:z}{av av':Xbq->AV}{ob:I (O OB)}{K:AV->W->Prop}(h :∀x∈o.op.operands.toList,av' x=av x):wy cx o av' ob K=wy cx o av ob K:=by
 obtain⟨dst,op,Y,pos,after,guard⟩:=o;cases op with
 | build t H=>simp only[wy,OC (av:=av) (av':=av') H.toList λx F=>h x (by simpa[Xbg] using F)]
 | buildSlice t l H=>simp only[wy,OC (av:=av) (av':=av') H.toList λx F=>h x (by simpa[Xbg] using F)]
 | makeFunc f first M=>cases f<;>simp only[wy,List.map_congr_left (f:=av') (g:=av) λx F=>h x (by simp only[Xbg,Array.toList_append,X23];exact .inr F)]
 | makeMap t r=>cases r<;>rfl
 | slice t x P Q mx=>
  have e:=h x (by simp[Xbg]);have e1:=VE (av:=av) (av':=av') (q:=P) λy J=>h y (by simp only[Xbg,Array.toList_append,X23];exact .inl (.inl (.inr J)));have e2:=VE (av:=av) (av':=av') (q:=Q) λy J=>h y (by simp only[Xbg,Array.toList_append,X23];exact .inl (.inr J));cases mx with
  | none=>simp only[wy,e,e1,e2]
  | some m=>simp only[wy,e,e1,e2,h m (by simp[Xbg])]
 | call c=>
  obtain⟨callee,args,U⟩:=c;have V :∀x∈args.toList,av' x=av x:=λx F=>h x (by cases callee<;>simp[Xbg,Call.operands,F]);cases callee with
  | value x=>simp only[wy,h x (by simp[Xbg,Call.operands]),TD (av:=av) (av':=av') _ _ V]
  | builtin b=>cases b<;>simp only[wy];all_goals (split<;>first|rfl|(simp_all;done))
  | invoke=>rfl
 | move x=>cases x<;>simp[Xbg] at h<;>simp[wy,h]
 | assign x=>cases x<;>simp[Xbg] at h<;>simp[wy,h]
 | _=>simp[Xbg] at h;simp[wy,h]
def xE.one {rs:I Nat}{r:Nat}{o:OB}(h:r∈rs):xE rs [(r,o)]:=λq F=>by simp only[X14] at F;exact F▸h
def xE.yn {rs:I Nat}{w w':W}(h:xE rs w)(k:xE rs w'):xE rs (w++w'):=λq F=>(X23.1 F).elim (h q) (k q)
def Vz :∀(F:I D) (K:I AV->Prop),UC (λc K=>K (AV.d c)) F K↔K (F.map .d)
 | [],K=>Iff.rfl
 | c::F,K=>Vz F λl=>K (.d c::l)
def uF {cx:Cx}{o:Oper}{av:Xbq->AV}{ob:I (O OB)}:Loc (SE cx.np o av) ob (jF cx.np o av) λob K=>wy cx o av ob K:=by
 have q0 :∀v,jF cx.np o av v []:=λv=>⟨λ_=>rfl,λ_ _=>rfl,λ_ _=>nofun,nofun⟩;have qa:ZR o.op=true->∀v w,(oY o.op=true->v.yX=true->w=[])->(∀x,HP o.op=some x->xE ((cx.np+o.dst.getD 0)::(av x).refs) w)->xE (SE cx.np o av) w->jF cx.np o av v w:=λa v w c d h=>⟨λe=>by simp[a] at e,c,d,h⟩;have J:ZR o.op=true->oY o.op=false->HP o.op=none->∀v w,xE (SE cx.np o av) w->jF cx.np o av v w:=λa c b v w h=>qa a v w (λe=>by simp[c] at e) (λx e=>by simp[b] at e) h;have self:ZR o.op=true->cx.np+o.dst.getD 0∈SE cx.np o av:=pd;have F:Ug o.op=o.op.operands.toList->∀x∈o.op.operands.toList,∀r∈(av x).refs,r∈SE cx.np o av:=λe x P r U=>rT P e r U;have a1 :∀z t,(∀r∈(av z).refs,r∈SE cx.np o av)->∀r∈(I5 cx.T t (av z)).refs,r∈SE cx.np o av:=λz t h r U=>h r (SA r U);generalize SE cx.np o av=rs at *;generalize jF cx.np o av=Q at *;obtain⟨dst,op,ty,pos,after,guard⟩:=o;have dA :∀r∈AV.dead.refs,r∈rs:=nofun;cases op;case move x=>cases x with
  | const v=>exact ey (self rfl) (J rfl rfl rfl)
  | _=>simp only[wy,B8];exact Loc.ret (q0 _)
 case assign x=>cases x with
  | const v=>exact ey (self rfl) (J rfl rfl rfl)
  | _=>simp only[wy,B8];exact Loc.ret (q0 _)
 case makeFunc f first H=>cases f<;>simp only[wy];repeat' first|exact Loc.no|exact Loc.ret (q0 _)|split
 case' pick c a b=>simp only[wy,ke,B8];generalize av c=C;generalize av a=A;generalize av b=B
 case' alloc t=>have V:=self rfl;replace J:=J rfl rfl rfl;simp only[wy]
 case' box t x=>have V:=self rfl;replace J:=J rfl rfl rfl;simp only[wy,Jw]
 case' build t ps=>simp only[wy,Rh,IP]
 case' buildSlice t l ps=>
  have V:=self rfl;replace J:=J rfl rfl rfl;have hE :∀r∈AV.refs.refsL ((ps.toList.map λ(i,x)=>(i,av x)).map (·.2)),r∈rs:=λr U=>by obtain⟨x,P,U⟩:=VD U;exact F rfl x (by simpa[Xbg] using P) r U
  simp only[wy,KY,II,OT,PD];generalize (ps.toList.map λ(i,x)=>(i,av x))=p at *
 case' load t x=>have M:=F rfl x (by simp[Xbg]);simp only[wy,fX,ZD,Py,B8,IR,HW,IP];generalize av x=A at *
 case' store t a x=>replace J:=J rfl rfl rfl;have Z:=a1 x t (F rfl x (by simp[Xbg]));have M:=F rfl a (by simp[Xbg]);simp only[wy,Rq,Vt,Ju,IM,LE,Jw,LY,He];generalize I5 cx.T t (av x)=X at *;generalize av a=A at *
 case' nilCheck x=>simp only[wy]
 case' binOp op t x y yt=>simp only[wy,eh,ep];generalize av x=X;generalize av y=Y
 case' unOp op t x=>simp only[wy,JT]
 case' convert s d x=>have Z:=F rfl x (by simp[Xbg]);simp only[wy,fo];generalize av x=X at *
 case' fieldAddr t x i=>have M:=F rfl x (by simp[Xbg]);simp only[wy,QK,IR,HW];generalize av x=A at *
 case' field t x i=>simp only[wy,X4,Lm,eU,Vz,B8,IR,HW,IP];generalize av x=A
 case' indexAddr t x y=>have M:=F rfl x (by simp[Xbg]);simp only[wy,MX,MR,KU];generalize av x=A at *;generalize av y=Y
 case' index t x y=>simp only[wy,Xo,Lm,Vz,B8];generalize av x=X;generalize av y=Y
 case' makeMap t r=>have V:=self rfl;replace J:=J rfl rfl rfl;cases r<;>simp only[wy]
 case' lookup t x y ok=>have M:=F rfl x (by simp[Xbg]);simp only[wy,eu,nH,eK];generalize av x=A at *;generalize av y=Y
 case' mapUpdate t m k v=>replace J:=J rfl rfl rfl;have M:=F rfl m (by simp[Xbg]);have Z:=F rfl v (by simp[Xbg]);simp only[wy,QF,OW,RE];generalize av m=A at *;generalize av v=X at *;generalize av k=Y
 case' insert t m k v=>replace J:=J rfl rfl rfl;have M:=F rfl m (by simp[Xbg]);have Z:=F rfl v (by simp[Xbg]);simp only[wy,QF,OW,RE];generalize av m=A at *;generalize av v=X at *;generalize av k=Y
 case' slice t x lo hi mx=>have V:=self rfl;have qs :∀v w,v.yX=false->xE rs w->Q v w:=λv w c=>qa rfl v w (λ_ e=>by simp[c] at e) nofun;have P:=F rfl x (by simp[Xbg]);have M:=a1 x t P;cases mx<;>simp only[wy,bR,Xr,Ri,cZ,VV,Vw]
 case' slice.none=>generalize I5 cx.T _ (av _)=A at *
 case' slice.some=>replace M:=P;generalize av _=A at *
 case' makeSlice t n c=>have V:=self rfl;replace J:=J rfl rfl rfl;simp only[wy,fk];generalize av n=X;generalize av c=Y
 case' extract x i=>simp only[wy,B8]
 case' call c=>obtain⟨callee,args,a8⟩:=c;have ha :∀z∈args.toList,∀r∈(av z).refs,r∈rs:=λz hz=>F rfl z (by cases callee<;>simp[Xbg,Call.operands,hz]);cases callee
 case' call.value x=>
  have V :∀H,(∀r∈AV.refs.refsL H,r∈rs)->∀r∈AV.refs.refsL (Hr cx.T av args.toList a8.toList++H),r∈rs:=λH hc r U=>by
   obtain⟨a,h,U⟩:=Wq.1 U;rcases X23.1 h with h|h
   ·obtain⟨y,hy,h2⟩:=Uu h;exact ha y hy r (h2 r U)
   exact hc r (Wq.2 ⟨a,h,U⟩)
  have P:=F rfl x (by simp[Xbg,Call.operands]);simp only[wy,Fc];generalize av x=X at *;have hc :∀f H,(∀r∈AV.refs.refsL H,r∈rs)->Loc rs ob Q λob K=>Y8 cx f (cx.np+dst.getD 0) (Hr cx.T av args.toList a8.toList++H) ob K:=λf H h=>pi (self rfl) (V H h) (J rfl rfl rfl)
 case' call.builtin b=>cases b
 case' call.builtin.append=>
  have V:=self rfl;simp only[wy];split
  ·rename_i x y t u a6 _;have P:=ha x (by rw[a6];simp);have Z:=a1 y t (ha y (by rw[a6];simp));have a7 :∀r∈(I5 cx.T t (av x)).refs,r∈(av x).refs:=SA
   have q :∀v w,xE ((cx.np+dst.getD 0)::(av x).refs) w->Q v w:=λv w h=>qa rfl v w nofun (λz hz=>by
    simp only[HP,a6,X24] at hz
    exact hz▸h) λq hq=>(Xa3.1 (h q hq)).elim (λe=>e▸V) (P _)
   have M :∀r∈(I5 cx.T t (av x)).refs,r∈rs:=λr U=>P r (a7 r U);simp only[UD,lO,sB,s8];generalize I5 cx.T t (av x)=A at *;generalize I5 cx.T t (av y)=X at *;generalize av y=Y at *;repeat' first
    | exact Loc.no
    | refine Loc.only λ_=>?_
    | refine Loc.z6 V ?_
    | refine Loc.find (M _ (by simp[AV.refs])) λ_=>?_
    | refine Loc.and λ_=>?_
    | refine Loc.ex λ_=>?_
    | refine PA Z λ_ _=>?_
    | refine R0 Z λ_=>?_
    | split
    | exact Loc.ret (q _ _ (xE.one (Xcd ..)))
    | exact Loc.ret (q _ _ (xE.one (X19 _ (a7 _ (by simp[AV.refs])))))
    | exact Loc.ret (q _ _ (xE.yn (w:=[_]) (xE.one (X19 _ (a7 _ (by simp[AV.refs])))) (xE.one (Xcd ..))))
  exact Loc.no
 case' call.builtin.len=>simp only[wy,mb]
 case' call.builtin.cap=>simp only[wy,qy]
 case' call.builtin.max=>simp only[wy,pW]
 case' call.builtin.min=>simp only[wy,oz]
 case' call.builtin.clear=>
  replace J:=J rfl rfl rfl;simp only[wy];split;rotate_left
  ·exact Loc.no
  rename_i x t P _;have M:=ha x (by rw[P];simp);simp only[YO];generalize av x=A at *
 case' call.builtin.copy=>
  replace J:=J rfl rfl rfl;simp only[wy];split;rotate_left
  ·exact Loc.no
  rename_i x y t u P _;have M:=ha x (by rw[P];simp);have Z:=ha y (by rw[P];simp);simp only[ln,tN];generalize av x=A at *;generalize av y=X at *
 all_goals repeat' first
  | exact Loc.no
  | refine Loc.only λ_=>?_
  | refine Loc.z6 V ?_
  | refine Loc.find (M _ (by simp[AV.refs])) λ_=>?_
  | refine Loc.and λ_=>?_
  | refine Loc.ex λ_=>?_
  | refine Loc.or ?_ ?_
  | refine Z3 Z λ_ _ _=>?_
  | refine Z3 M λ_ _ _=>?_
  | refine Z3 (by simpa[AV.refs.refsL] using hE) λ_ _ _=>?_
  | refine ww hE λ_ _ _=>?_
  | refine PA Z λ_ _=>?_
  | refine R3 λ_=>?_
  | refine PF λ_=>?_
  | exact hc _ _ (by first|exact P|simp[AV.refs.refsL])
  | exact Loc.ret (q0 _)
  | exact Loc.ret (J _ _ (xE.one V))
  | exact Loc.ret (J _ _ (xE.one (M _ (by simp[AV.refs]))))
  | exact Loc.ret (J _ _ (xE.yn (by assumption) (xE.one (M _ (by simp[AV.refs])))))
  | exact Loc.ret (J _ _ (xE.yn (by assumption) (xE.one V)))
  | exact Loc.ret (qs _ _ rfl (by assumption))
  | exact Loc.ret (qs _ _ rfl (xE.yn (w:=[_]) (xE.one (M _ (by simp[AV.refs]))) (xE.one V)))
  | split
  | (cases ‹Bool›<;>simp only[KD])
def qm {cx:Cx}{o:z}{av:Xbq->AV}{ob:I (O OB)}{K:AV->W->Prop}(h:wy cx o av ob K) : ∃v w,K v w/\jF cx.np o av v w/\∀av' ob',(∀x∈o.op.operands.toList,av' x=av x)->xc (SE cx.np o av) ob ob'->∀F:AV->W->Prop,F v w->wy cx o av' ob' F:=by obtain⟨v,w,a,b,c⟩:=uF K h;exact⟨v,w,a,b,λav' ob' H J F k=>gJ H▸c ob' J F k⟩
def yn (dst:O Nat)(v:AV)(w:W)(st:sI):sI:=⟨NK st.tm dst v,yN st.ob w⟩
def xZ (F:Array z)(o:z)(st H:sI):Prop:=∀t∈o.looksAt F,H.tm.getD t .dead=st.tm.getD t .dead
structure yS (cx:Cx)(ops:Array Oper)(o:Oper)(st:sI)(e:List Nat×List Nat)(v:AV)(w:W):Prop where
 ee:e.1=Ut cx.np o st.tm
 wr :∀q∈w,q.1∈e.2
 sub :∀q∈w,q.1∈e.1
 go :∀st',xZ ops o st st'->xc e.1 st.ob st'.ob->∀K:sI->Prop,K (yn o.dst v w st')->O3 cx ops o st' K
def aP {H:Array z}{o:z}{st F:sI}(h:xZ H o st F) :∀x∈o.op.operands.toList,yp F.tm x=yp st.tm x:=by
 intro x J;cases x with
 | tmp t=>exact h t (Xcr _ (List.mem_filterMap.2 ⟨.tmp t,J,rfl⟩))
 | _=>rfl
def N6 {α F:Type}{f g:α->I F} :∀{l:I α},(∀x∈l,f x=g x)->l.flatMap f=l.flatMap g
 | [],_=>rfl
 | x::l,h=>by simp only[Xaw];rw[h x (by simp),N6 λy H=>h y (by simp[H])]
def pO {np:Nat}{J:Array z}{o:z}{st F:sI}(h:xZ J o st F):Ut np o F.tm=Ut np o st.tm:=by
 unfold Ut;congr 1;refine N6 λx H=>?_;have K:x∈o.op.operands.toList:=by
  unfold Ug at H;split at H;all_goals first
   | (simp at H;done)
   | exact H
 rw[aP h x K]
def xZ.trans {F:Array z}{o:z}{a b c:sI}(h:xZ F o a b)(k:xZ F o b c):xZ F o a c:=λt H=>(k t H).trans (h t H)
def xc.trans {rs:I Nat}{a b c:I (O OB)}(h:xc rs a b)(k:xc rs b c):xc rs a c:=λt F=>(k t F).trans (h t F)
def xZ.symm {F:Array z}{o:z}{a b:sI}(h:xZ F o a b):xZ F o b a:=λt H=>(h t H).symm
def xc.symm {rs:I Nat}{a b:I (O OB)}(h:xc rs a b):xc rs b a:=λt F=>(h t F).symm
def yS.move {cx:Cx}{F:Array z}{o:z}{st H:sI}{e:I Nat×I Nat}{v:AV}{w:W}(h:yS cx F o st e v w)(Q:xZ F o st H)(U:xc e.1 st.ob H.ob):yS cx F o H e v w:=
 ⟨by rw[pO Q];exact h.ee,h.wr,h.sub,λJ M P K V=>h.go J (Q.trans M) (U.trans P) K V⟩
def hY {tm:I AV}{t:Nat}{a:AV}(h:tm.getD t .dead=a):tm.set t a=tm:=by
 by_cases F:t<tm.length
 ·have:tm[t]=a:=by simpa[F] using h
  rw[<- this];exact List.set_getElem_self F
 exact List.set_eq_of_length_le (by omega)
def mQ {J:Array z}{o:z}{tm:I AV}{wS no:I AV->Prop}(h:L1 J o tm wS no) : (wS tm/\∀tm' F H,(∀t∈o.looksAt J,tm'.getD t .dead=tm.getD t .dead)->F tm'->L1 J o tm' F H) \/ (no tm/\∀tm' F H,(∀t∈o.looksAt J,tm'.getD t .dead=tm.getD t .dead)->H tm'->L1 J o tm' F H):=by
 unfold L1 at h⊢;cases hg:o.guard with
 | none=>simp only[hg] at h⊢;exact .inl ⟨h,λ_ _ _ _ M=>M⟩
 | some g=>
  obtain⟨j,U⟩:=g;simp only[hg] at h⊢;cases Y:(J[j]?).bind (·.dst) with
  | none=>simp only[Y] at h
  | some t=>
   simp only[Y] at h⊢;have P:t∈o.looksAt J:=Xdp _ (by rw[hg];simp[Y]);split at h
   ·rename_i b Q;have V :∀{tm':I AV},tm'.getD t .dead=tm.getD t .dead->tm'.set t (.b b)=tm':=λhq=>hY (hq.trans Q);have Z:=V (tm':=tm) rfl;cases b<;>cases U<;>simp only[KD,Ge] at h<;>rw[Z] at h
    ·exact .inl ⟨h,λtm' F H K M=>by rw[K t P,Q];simp only[KD,Ge];rw[V (K t P)];exact M⟩
    ·exact .inr ⟨h,λtm' F H K M=>by rw[K t P,Q];simp only[KD,Ge];rw[V (K t P)];exact M⟩
    ·exact .inr ⟨h,λtm' F H K M=>by rw[K t P,Q];simp only[KD,Ge];rw[V (K t P)];exact M⟩
    exact .inl ⟨h,λtm' F H K M=>by rw[K t P,Q];simp only[KD,Ge];rw[V (K t P)];exact M⟩
   ·rename_i vs Q;exact .inr ⟨h,λtm' F H K M=>by rw[K t P,Q];exact M⟩
   exact h.elim
def pj {cx:Cx}{M:Array z}{o:z}{st:sI}{K:sI->Prop}(h:O3 cx M o st K) : ∃v w,K (yn o.dst v w st)/\yS cx M o st (Ut cx.np o st.tm,lP cx.np o st.tm (yn o.dst v w st).tm) v w:=by
 obtain⟨tm,ob⟩:=st;simp only[O3] at h;rcases mQ h with ⟨h,hg⟩|⟨h,hg⟩
 ·obtain⟨v,w,h1,⟨h2,Y,Z,U⟩,h4⟩:=qm h;rw[JE,UE] at h1;refine⟨v,w,h1,rfl,λq F=>?_,U,λH V ha K hK=>?_⟩
  ·simp only[lP];split
   ·rename_i hs;split
    ·rename_i d hd;split
     ·rename_i e
      have:=Y hs (by
       simp only[yn,hd,NK,Xa6] at e;by_cases P:d<tm.length
       ·rw[List.getElem?_set_self (by simpa using P)] at e;exact e
       rw[Xc1 (by simpa using P)] at e
       simp[AV.yX] at e)
      rw[this] at F;simp at F
     exact U q F
    exact U q F
   split
   ·split
    ·rename_i x hx;exact Z x hx q F
    exact U q F
   rename_i e;rw[h2 e] at F;simp at F
  obtain⟨J,Q⟩:=H;simp only[O3];refine hg J _ _ V (h4 _ Q (aP V) ha _ ?_);rw[JE,UE];exact hK
 rw[JE] at h;refine⟨.wx [],[],h,rfl,λq F=>by simp at F,λq F=>by simp at F,λH V ha K hK=>?_⟩;obtain⟨J,Q⟩:=H;simp only[O3];refine hg J _ _ V ?_;rw[JE];exact hK
def BT (cx:Cx)(F:Array z)(f:Nat->I Nat×I Nat)(fin:sI):I Nat->sI->Prop
 | [],st=>st=fin
 | i::l,st=>∃o v w,F[i]?=some o/\yS cx F o st (f i) v w/\BT cx F f fin l (yn o.dst v w st)
structure wm (ops:Array Oper)(f:Nat->List Nat×List Nat)(j i:Nat):Prop where
 apart :∀a b,ops[j]?=some a->ops[i]?=some b->a.apart ops b=true
 xR:(∀r∈(f j).2,r∉(f i).1)/\∀r∈(f j).1,r∉(f i).2
def XO {tm:I AV}{d:O Nat}{v:AV}{t:Nat}(h :∀x,d=some x->x≠t):(NK tm d v).getD t .dead=tm.getD t .dead:=by
 cases d with
 | none=>rfl
 | some x=>simp only[NK,Xa6];rw[Xde (h x rfl)]
def R9 {r:Nat} :∀(w:W) (ob:I (O OB)),(∀q∈w,q.1≠r)->(yN ob w)[r]?=ob[r]?
 | [],ob,_=>rfl
 | (x,o)::w,ob,h=>by simp only[yN];rw[R9 w _ λq F=>h q (by simp[F]),Xde (h (x,o) (by simp))]
def Qj {r:Nat}{o:O OB} :∀(w:W) (ob:I (O OB)),(∀q∈w,q.1≠r)->yN (ob.set r o) w=(yN ob w).set r o
 | [],ob,_=>rfl
 | (x,y)::w,ob,h=>by simp only[yN];rw[List.set_comm _ _ (Ne.symm (h (x,y) (by simp))),Qj w _ λq F=>h q (by simp[F])]
def Zf :∀(w w':W) (ob:I (O OB)),(∀q∈w,∀H∈w',q.1≠H.1)->yN (yN ob w) w'=yN (yN ob w') w
 | [],w',ob,_=>rfl
 | (x,y)::w,w',ob,h=>by simp only[yN];rw[Zf w w' _ λq J H F=>h q (by simp[J]) H F,Qj w' ob λH F=>Ne.symm (h (x,y) (by simp) H F)]
def ik (tm:I AV){x y:O Nat}(v u:AV)(h :∀d,x=some d->y≠some d):NK (NK tm x v) y u=NK (NK tm y u) x v:=by
 cases x with
 | none=>rfl
 | some d=>
  cases y with
  | none=>rfl
  | some e=>have F:d≠e:=λH=>h d rfl (H▸rfl);simp only[NK];rw[List.set_comm _ _ F]
def dQ {cx:Cx}{F:Array z}{f:Nat->I Nat×I Nat}{fin:sI}{i:Nat}{post:I Nat} :∀(pre:I Nat) {st:sI},(∀j∈pre,wm F f j i)->BT cx F f fin (pre++i::post) st-> ∃o v w,F[i]?=some o/\yS cx F o st (f i) v w/\BT cx F f fin (pre++post) (yn o.dst v w st)
 | [],st,_,h=>h
 | j::pre,st,hf,h=>by
  obtain⟨a,M,J,ha,sa,h⟩:=h;obtain⟨b,K,H,hb,U,h⟩:=dQ pre (λk hk=>hf k (by simp[hk])) h;have Q:=hf j (by simp);obtain⟨p1,p2,p3⟩:=Oper.apart_spec (Q.apart a b ha hb);have lb:xZ F b st (yn a.dst M J st):=λt V=>XO λx Y e=>p1 x Y (e▸V);have ab:xc (f i).1 st.ob (yn a.dst M J st).ob:=λr Z=>R9 J _ λq P e=>Q.xR.1 q.1 (sa.wr q P) (e▸Z);have a1:yS cx F b st (f i) K H:=U.move lb.symm ab.symm;have la:xZ F a st (yn b.dst K H st):=λt V=>XO λx Y e=>p3 x Y (e▸V);have aa:xc (f j).1 st.ob (yn b.dst K H st).ob:=λr Z=>R9 H _ λq P e=>Q.xR.2 r Z (e▸U.wr q P);have a6:yS cx F a (yn b.dst K H st) (f j) M J:=sa.move la aa;refine⟨b,K,H,hb,a1,a,M,J,ha,a6,?_⟩;have he:yn a.dst M J (yn b.dst K H st)=yn b.dst K H (yn a.dst M J st):=by simp only[yn];rw[ik st.tm M K p2,Zf J H];intro q P q' a7 e;exact Q.xR.1 q.1 (sa.wr q P) (e▸U.sub q' a7)
  rw[he];exact h
end Go.AX
end
