/-
  Texts of one proof, packed.
-/
import Derived.Test.YthbbpeeghmpcfaaGreatDoorR11
set_option linter.all false
set_option maxRecDepth 100000
set_option maxHeartbeats 4000000
open List renaming length_map→X1,length_append→X2,mem_singleton→X11,length_drop→X14,length_take→X15,mem_cons_of_mem→X16,length_replicate→X17,length_set→X18,mem_append→X20
open Option.some renaming injEq→X21
open Go renaming Operand→Xbq,FuncId→Xdy
open Nat renaming beq→Xal
open Go.Op renaming operands→Xbv
section
namespace Go.AX
def DQ (rs:O Nat)(ob ob':O (C OB)):Prop:=∀r∈rs,ob'[r]?=ob[r]?
def DQ.mono {rs H:O Nat}{ob ob':O (C OB)}(h:DQ rs ob ob')(J :∀r∈H,r∈rs):DQ H ob ob':=λr K=>h r (J r K)
def Gc (rs:O Nat)(w:W):Prop:=∀q∈w,q.1∈rs
def Loc (rs:O Nat)(ob:O (C OB))(Q:AV->W->Prop)(F:O (C OB)->(AV->W->Prop)->Prop):Prop:=
 ∀K,F ob K->∃v w,K v w/\Q v w/\∀H,DQ rs ob H->∀J:AV->W->Prop,J v w->F H J
def tR (r:Nat) :∀(l:O Nat) (n:Nat) {F N:Nat->Prop},Lq.go r l n F N->(∃k,F k/\∀H J:Nat->Prop,H k->Lq.go r l n H J)\/(∃k,N k/\∀H J:Nat->Prop,J k->Lq.go r l n H J)
 | [],n,F,N,h=>.inr ⟨n,h,λH J K=>K⟩
 | x::l,n,F,N,h=>by
  simp only[Lq.go] at h⊢;cases U:Xal x r with
  | true=>simp only[U] at h⊢;exact .inl ⟨n,h,λH J K=>K⟩
  | false=>
   simp only[U] at h⊢;rcases tR r l (n+1) h with ⟨k,M,P⟩|⟨k,M,P⟩
   ·exact .inl ⟨k,M,P⟩
   exact .inr ⟨k,M,P⟩
section
variable {rs:O Nat} {ob:O (C OB)} {Q:AV->W->Prop} {F G:O (C OB)->(AV->W->Prop)->Prop}
def Loc.ret {v:AV}{w:W}(h:Q v w):Loc rs ob Q λ_ K=>K v w:=λ_ k=>⟨v,w,k,h,λ_ _ _ k=>k⟩
def Loc.no:Loc rs ob Q λ_ _=>False:=λ_ h=>h.elim
def Loc.and {P:Prop}(h:P->Loc rs ob Q F):Loc rs ob Q λob K=>P/\F ob K:=λK ⟨p,k⟩=>
 let ⟨v,w,a,b,c⟩:=h p K k
 ⟨v,w,a,b,λH J M k=>⟨p,c H J M k⟩⟩
def Loc.ex {α:Type}{F:α->O (C OB)->(AV->W->Prop)->Prop}(h :∀x,Loc rs ob Q (F x)):Loc rs ob Q λob K=>∃x,F x ob K:=λK ⟨x,k⟩=>
 let ⟨v,w,a,b,c⟩:=h x K k
 ⟨v,w,a,b,λH J M k=>⟨x,c H J M k⟩⟩
def Loc.or (h:Loc rs ob Q F)(g:Loc rs ob Q G):Loc rs ob Q λob K=>F ob K\/G ob K:=λK k=>by
 rcases k with k|k
 ·obtain⟨v,w,a,b,c⟩:=h K k;exact⟨v,w,a,b,λH J M k=>.inl (c H J M k)⟩
 obtain⟨v,w,a,b,c⟩:=g K k;exact⟨v,w,a,b,λH J M k=>.inr (c H J M k)⟩
def Loc.only {c:I}(h:c=true->Loc rs ob Q F):Loc rs ob Q λob K=>AS c (F ob K):=by
 cases c with
 | true=>exact h rfl
 | false=>exact Loc.no
def Loc.Ms {r:Nat}(M:r∈rs)(h:Loc rs ob Q F):Loc rs ob Q λob K=>Ms ob r (F ob K):=λK k=>by have k:=(En _ _ _).1 k;obtain⟨v,w,a,b,c⟩:=h K k.2;exact⟨v,w,a,b,λH J P q=>(En _ _ _).2 ⟨(J r M).trans k.1,c H J P q⟩⟩
def Loc.find {r:Nat}{F:OB->O (C OB)->(AV->W->Prop)->Prop}(P:r∈rs)(h :∀o,Loc rs ob Q (F o)):Loc rs ob Q λob K=>Cc ob r λo=>F o ob K:=λK k=>by obtain⟨o,J,k⟩:=(Ao _ _ _).1 k;obtain⟨v,w,a,b,c⟩:=h o K k;refine⟨v,w,a,b,λH M U q=>(Ao _ _ _).2 ⟨o,?_,c H M U q⟩⟩;rw[Xa8] at J⊢;rw[M r P];exact J
def mr :∀{M:O AV} {G:O D->W->O (C OB)->(AV->W->Prop)->Prop},(∀r∈AV.refs.refsL M,r∈rs)->(∀l w,Gc rs w->Loc rs ob Q (G l w))->Loc rs ob Q λob K=>cW.toDs ob M λl w=>G l w ob K
 | [],G,_,h=>h [] [] nofun
 | c::M,G,V,h=>by
  have U:=λG h=>@mr M G (λr P=>V r (by simp[AV.refs.refsL,P])) h;cases c with
  | d x=>cases x with
   | agg=>exact Loc.no
   | _=>exact U (λl w=>G (_::l) w) λl w H=>h _ _ H
  | own r n=>
   have P:r∈rs:=V r (by simp[AV.refs.refsL,AV.refs]);refine Loc.find P λo=>?_;cases o with
   | row e sz Y f=>exact Loc.and λ_=>U (λl w=>G (.Cg sz Y::l) ((r,.row e sz Y .Dd)::w)) λl w H=>h _ _ λq Z=>(Xa7.1 Z).elim (λe=>e▸P) (H q)
   | _=>exact Loc.no
  | fn f J=>cases J with
   | nil=>exact U (λl w=>G (_::l) w) λl w H=>h _ _ H
   | cons=>exact Loc.no
  | _=>exact Loc.no
def WO {a:AV}{G:D->W->O (C OB)->(AV->W->Prop)->Prop}(H :∀r∈a.refs,r∈rs)(h :∀x w,Gc rs w->Loc rs ob Q (G x w)):Loc rs ob Q λob K=>cW ob a λx w=>G x w ob K:=by
 cases a with
 | d x=>simp only[cW,FU];exact h _ _ nofun
 | own r n=>
  have J:r∈rs:=H r (by simp[AV.refs]);simp only[cW];refine Loc.find J λo=>?_;cases o with
  | row e sz U f=>exact Loc.and λ_=>h _ _ λq M=>by simp only[X11] at M;exact M▸J
  | _=>exact Loc.no
 | agg V=>exact mr (G:=λl w=>G (.agg l) w) H λl w P=>h _ _ P
 | _=>exact Loc.no
def fX {sz:Nat} :∀{H:O (Nat×AV)} {i:Nat} {G:O D->W->O (C OB)->(AV->W->Prop)->Prop},(∀r∈AV.refs.refsL (H.map (·.2)),r∈rs)->(∀l w,Gc rs w->Loc rs ob Q (G l w))-> Loc rs ob Q λob K=>Eg.elems ob sz i H λl w=>G l w ob K
 | [],i,G,_,h=>h [] [] nofun
 | (j,v)::H,i,G,P,h=>by
  simp only[Eg.elems];split
  ·exact WO (G:=λx w ob K=>AS _ (Eg.elems ob sz (i+1) H λl w'=>G (x::l) (w++w') ob K)) (λr J=>P r (by simp[AV.refs.refsL,J])) λx w U=>Loc.only λ_=>
    fX (λr J=>P r (by simp only[Xbk,AV.refs.refsL,X20];exact .inr J)) λl w' M=>h _ _ λq V=>(X20.1 V).elim (U q) (M q)
  exact Loc.no
def vh {H:Nat->C (Nat×Nat)} :∀{M:O (Nat×AV)} {J:O AV} {G:O AV->O (C OB)->(AV->W->Prop)->Prop},(∀l,Loc rs ob Q (G l))->Loc rs ob Q λob K=>LJ.go H M J λl=>G l ob K
 | [],J,G,h=>h J
 | (i,v)::M,J,G,h=>by
  simp only[LJ.go];split
  ·simp only[HM,HS];exact Loc.ex λl=>Loc.and λ_=>Loc.only λ_=>Loc.and λ_=>vh h
  exact Loc.no
def nX {o:C AV}{H:Int}{G:Int->O (C OB)->(AV->W->Prop)->Prop}(h :∀i,Loc rs ob Q (G i)):Loc rs ob Q λob K=>Du o H λi=>G i ob K:=by
 unfold Du;split
 ·exact h _
 ·exact h _
 exact Loc.no
def mD {y:AV}{G:Nat->O D->O (C OB)->(AV->W->Prop)->Prop}(J :∀r∈y.refs,r∈rs)(h :∀n l,Loc rs ob Q (G n l)):Loc rs ob Q λob K=>Xk ob y λn l=>G n l ob K:=by
 have H :∀{r},y.refs=[r]->r∈rs:=λe=>J _ (e▸List.mem_singleton_self _);cases y with
 | d x=>cases x with
  | Cg=>exact h _ _
  | nil=>exact h _ _
  | _=>exact Loc.no
 | own r n=>
  simp only[Xk,Yo];refine Loc.find (H rfl) λo=>?_;cases o with
  | row=>exact Loc.and λ_=>h _ _
  | _=>exact Loc.no
 | Fc r a n m=>
  simp only[Xk,Yo];refine Loc.find (H rfl) λo=>?_;cases o with
  | row=>exact Loc.and λ_=>Loc.ex λ_=>Loc.and λ_=>h _ _
  | _=>exact Loc.no
 | _=>exact Loc.no
def uX {y:AV}{k sz:Nat}{frz:FZ}{G:FZ->O (C OB)->(AV->W->Prop)->Prop}(V :∀r∈y.refs,r∈rs)(h :∀f,Loc rs ob Q (G f)):Loc rs ob Q λob K=>lK ob y k sz frz λf=>G f ob K:=by
 unfold lK;intro K J;split at J
 ·obtain⟨v,w,a,b,c⟩:=h _ K J;exact⟨v,w,a,b,c⟩
 split at J
 ·rename_i q n;have e :∀H,DQ rs ob H->H.getD q none=ob.getD q none:=λH M=>by rw[Xa8,Xa8,M q (V q (by simp[AV.refs]))]
  split at J
  ·rename_i e0 Y ys i j q' m P;split at J
   ·rename_i U;obtain⟨v,w,a,b,c⟩:=h _ K J.2;exact⟨v,w,a,b,λH M K k=>by simp only[e H M,P,U];exact⟨J.1,c H M K k⟩⟩
   rename_i U;obtain⟨v,w,a,b,c⟩:=h _ K J;exact⟨v,w,a,b,λH M K k=>by simp only[e H M,P,U];exact c H M K k⟩
  rename_i Z;obtain⟨v,w,a,b,c⟩:=h _ K J;refine⟨v,w,a,b,λH M K k=>?_⟩;dsimp only;rw[e H M];split
  ·rename_i P;exact absurd P (Z _ _ _ _ _ _ _)
  exact c H M K k
 obtain⟨v,w,a,b,c⟩:=h _ K J;exact⟨v,w,a,b,c⟩
def UL {r:Nat}{ρ:O Nat}{G:Nat->O Nat->O (C OB)->(AV->W->Prop)->Prop}(U:r∈rs)(J :∀x∈ρ,x∈rs)(h :∀i ρ',(∀x∈ρ',x∈rs)->Loc rs ob Q (G i ρ')):Loc rs ob Q λob K=>Lq.refK r ρ λi ρ=>G i ρ ob K:=λK k=>by
 rcases tR r ρ 0 k with ⟨i,k,g⟩|⟨i,k,g⟩
 ·obtain⟨v,w,a,b,c⟩:=h i ρ J K k;exact⟨v,w,a,b,λH M P k=>g _ _ (c H M P k)⟩
 obtain⟨v,w,a,b,c⟩:=h i (ρ++[r]) (λx V=>(X20.1 V).elim (J x) λe=>X11.1 e▸U) K k;exact⟨v,w,a,b,λH M P k=>g _ _ (c H M P k)⟩
def fK :∀{J:O AV} {ρ:O Nat} {G:O AV->O Nat->O (C OB)->(AV->W->Prop)->Prop},(∀r∈AV.refs.refsL J,r∈rs)->(∀x∈ρ,x∈rs)->(∀c ρ',(∀x∈ρ',x∈rs)->Loc rs ob Q (G c ρ'))-> Loc rs ob Q λob K=>Lq.capsK J ρ λc ρ=>G c ρ ob K
 | [],ρ,G,_,H,h=>h _ _ H
 | c::J,ρ,G,P,H,h=>by
  cases c with
  | ref r M=>exact UL (G:=λi ρ ob K=>Lq.capsK J ρ λc ρ=>G (.ref i M::c) ρ ob K) (P r (by simp[AV.refs.refsL,AV.refs])) H λi ρ H=>fK (λr U=>P r (by simp[AV.refs.refsL,U])) H λc ρ H=>h _ _ H
  | _=>exact Loc.no
def vA {zV:I}{a:AV}{ρ:O Nat}{G:AV->O Nat->W->O (C OB)->(AV->W->Prop)->Prop}(J :∀r∈a.refs,r∈rs)(H :∀x∈ρ,x∈rs)(h :∀a ρ w,(∀x∈ρ,x∈rs)->Gc rs w->Loc rs ob Q (G a ρ w)) : Loc rs ob Q λob K=>Lq zV ob a ρ λa ρ w=>G a ρ w ob K:=by
 have one :∀{r},a.refs=[r]->r∈rs:=λe=>J _ (e▸List.mem_singleton_self _);cases a with
 | d x=>
  simp only[Lq,FU];split
  ·exact h _ _ _ H nofun
  exact h _ _ _ H nofun
 | own r n=>cases zV with
  | true=>exact UL (G:=λi ρ=>G (.own i n) ρ []) (one rfl) H λi ρ H=>h _ _ _ H nofun
  | false=>exact WO (G:=λx w=>G (.d x) ρ w) J λx w M=>h _ _ _ H M
 | agg V=>exact WO (G:=λx w=>G (.d x) ρ w) J λx w M=>h _ _ _ H M
 | ref r P=>exact UL (G:=λi ρ=>G (.ref i P) ρ []) (one rfl) H λi ρ H=>h _ _ _ H nofun
 | mp r=>exact UL (G:=λi ρ=>G (.mp i) ρ []) (one rfl) H λi ρ H=>h _ _ _ H nofun
 | it f r=>exact UL (G:=λi ρ=>G (.it f i) ρ []) (one rfl) H λi ρ H=>h _ _ _ H nofun
 | DM V=>exact h _ _ _ H nofun
 | fn f U=>exact fK (G:=λc ρ=>G (.fn f c) ρ []) J H λc ρ H=>h _ _ _ H nofun
 | _=>exact Loc.no
def fH :∀{zV:O I} {H:O AV} {ρ:O Nat} {G:O AV->O Nat->W->O (C OB)->(AV->W->Prop)->Prop},(∀r∈AV.refs.refsL H,r∈rs)->(∀x∈ρ,x∈rs)->(∀a ρ w,(∀x∈ρ,x∈rs)->Gc rs w->Loc rs ob Q (G a ρ w))-> Loc rs ob Q λob K=>Tu zV ob H ρ λa ρ w=>G a ρ w ob K
 | _,[],ρ,G,_,J,h=>h _ _ _ J nofun
 | zV,a::H,ρ,G,U,J,h=>vA (G:=λa ρ w ob K=>Tu zV.tail ob H ρ λH ρ w'=>G (a::H) ρ (w++w') ob K) (λr M=>U r (by simp[AV.refs.refsL,M])) J λa ρ w J V=>
  fH (λr M=>U r (by simp[AV.refs.refsL,M])) J λH ρ w' J P=>h _ _ _ J λq Y=>(X20.1 Y).elim (V q) (P q)
def gK :∀{ρ:O Nat} {G:O OB->O (C OB)->(AV->W->Prop)->Prop},(∀x∈ρ,x∈rs)->(∀l,Loc rs ob Q (G l))->Loc rs ob Q λob K=>IR ob ρ λl=>G l ob K
 | [],G,_,h=>h []
 | r::ρ,G,H,h=>Loc.find (H r (by simp)) λo=>by
  have J:=λo:OB=>@gK ρ (λl=>G (o::l)) (λx M=>H x (by simp[M])) λl=>h _;cases o with
  | box U=>simp only[KO];exact Loc.and λ_=>J _
  | row e sz P f=>exact Loc.only λ_=>J _
  | map k e P=>exact J _
  | _=>exact Loc.no
def fF {self:Nat}(M:self∈rs) :∀{ρ:O Nat} {gM:O OB} {G:W->O (C OB)->(AV->W->Prop)->Prop},(∀x∈ρ,x∈rs)->(∀w,Gc rs w->Loc rs ob Q (G w))->Loc rs ob Q λob K=>Ky ρ self gM λw=>G w ob K
 | [],[],G,_,h=>h [] nofun
 | [],[o],G,_,h=>by
  simp only[Ky];split
  ·exact h _ λq J=>by simp only[X11] at J;exact J▸M
  exact Loc.no
 | r::ρ,o::os,G,H,h=>by
  simp only[Ky];split
  ·exact fF M (G:=λw=>G ((r,o)::w)) (λx P=>H x (by simp[P])) λw U=>h _ λq J=>(Xa7.1 J).elim (λe=>e▸H r (by simp)) (U q)
  exact Loc.no
 | [],_::_::_,G,_,_=>Loc.no
 | _::_,[],G,_,_=>Loc.no
def so {cx:Cx}{f:Xdy}{self:Nat}{args:O AV}(hr:self∈rs)(hs :∀r∈AV.refs.refsL args,r∈rs)(hQ :∀v w,Gc rs w->Q v w):Loc rs ob Q λob K=>YN cx f self args ob K:=by
 simp only[ZO];unfold L6;refine fH (G:=λU P w ob K=>AS (L6.apartW w P) (IR ob P λgM=>∃M H,cx.C f U gM M H/\(H.length=P.length\/ob[self]?=some none)/\N9 P self M λJ=>Ky P self H λw'=>K J (w++w'))) hs nofun λa6 P w V hw=>Loc.only λ_=>?_;refine gK V λgM=>Loc.ex λM=>Loc.ex λH=>Loc.and λ_=>?_;intro K k;obtain⟨h1,k⟩:=k
 obtain⟨v,w,a,b,c⟩:=(show Loc rs ob Q (λob K=>N9 P self M λJ=>Ky P self H λw'=>K J (w++w')) by
  simp only[PH]
  exact Loc.ex λa=>Loc.and λ_=>fF hr (G:=λw' ob K=>K a (w++w')) V λw' Y=>Loc.ret (hQ _ _ λq hq=>(X20.1 hq).elim (hw q) (Y q))) K k
 exact⟨v,w,a,b,λZ ha K' k=>⟨h1.imp id λe=>(ha self hr).trans e,c Z ha K' k⟩⟩
def gX {T:TT}{ty self:Nat}{x:AV}(H:self∈rs)(J :∀v w,Gc rs w->Q v w):Loc rs ob Q λob K=>Zw T ty self x ob K:=by
 unfold Zw;split
 ·split
  ·rename_i e _;intro K k;split at k
   ·rename_i M;rw[AI] at k;exact⟨_,_,k.2,J _ _ λq V=>by simp only[X11] at V;exact V▸H,λP U Y q=>by simp only[U _ H,M];exact (AI _ _).2 ⟨k.1,q⟩⟩
   rename_i M;refine⟨_,_,k,J _ _ nofun,λP U Y q=>?_⟩;dsimp only;rw[U _ H];split
   ·rename_i Z;exact absurd Z M
   exact q
  exact Loc.no
 simp only[BU];exact Loc.ret (J _ _ nofun)
end
end Go.AX
end
section
namespace Go.AX
def QK (np:Nat)(o:z)(av:Xbq->AV):O Nat:=
 (match Yg o.op with
  | true=>[np+o.dst.getD 0]
  | false=>[])++(S7 o.op).flatMap λx=>(av x).refs
def vG {np:Nat}{o:z}{av:Xbq->AV}{x:Xbq}(F:x∈o.op.operands.toList)(H:S7 o.op=o.op.operands.toList) :∀r∈(av x).refs,r∈QK np o av:=λ_ J=>
 Xdk _ (Xc9.2 ⟨x,H▸F,J⟩)
def sg {np:Nat}{o:z}{av:Xbq->AV}(h:Yg o.op=true):np+o.dst.getD 0∈QK np o av:=by unfold QK;rw[h];simp
def MB {av av':Xbq->AV} :∀(l:O (Nat×Xbq)),(∀x∈l.map (·.2),av' x=av x)->(l.map λ(i,x)=>(i,av' x))=l.map λ(i,x)=>(i,av x)
 | [],_=>rfl
 | (i,x)::l,h=>by simp only[Xbk,Xa7,forall_eq_or_imp] at h⊢;rw[h.1,MB l h.2]
def Vj {F:O AV}{r:Nat}:r∈AV.refs.refsL F ↔∃a∈F,r∈a.refs:=by
 induction F with
 | nil=>simp[AV.refs.refsL]
 | cons a l H=>simp[AV.refs.refsL,H]
def Tf {av:Xbq->AV}{r:Nat} :∀{l:O (Nat×Xbq)},r∈AV.refs.refsL ((l.map λ(i,x)=>(i,av x)).map (·.2))->∃x∈l.map (·.2),r∈(av x).refs
 | [],h=>by simp[AV.refs.refsL] at h
 | (i,x)::l,h=>by
  simp only[Xbk,AV.refs.refsL,X20] at h;rcases h with h|h
  ·exact⟨x,by simp,h⟩
  obtain⟨y,F,h⟩:=Tf h;exact⟨y,by simp only[Xbk,Xa7];exact .inr F,h⟩
def QG {T:TT}{t:Nat}{a:AV} :∀r∈(H5 T t a).refs,r∈a.refs:=by
 intro r F;unfold H5 at F;split at F
 ·split at F
  ·simp[AV.refs] at F
  exact F
 exact F
def RA {T:TT}{av av':Xbq->AV} :∀(l:O Xbq) (ts:O Nat),(∀x∈l,av' x=av x)->Gx T av' l ts=Gx T av l ts
 | [],ts,_=>by simp[Gx]
 | x::xs,[],h=>by simp only[Gx];exact List.map_congr_left h
 | x::xs,t::ts,h=>by simp only[Gx];rw[h x (by simp),RA xs ts λy F=>h y (by simp[F])]
def TP {T:TT}{av:Xbq->AV}{a:AV} :∀{l:O Xbq} {ts:O Nat},a∈Gx T av l ts->∃x∈l,∀r∈a.refs,r∈(av x).refs
 | [],ts,h=>by simp[Gx] at h
 | x::xs,[],h=>by simp only[Gx] at h;obtain⟨y,F,rfl⟩:=Xau.1 h;exact⟨y,F,λr H=>H⟩
 | x::xs,t::ts,h=>by
  simp only[Gx,Xa7] at h;rcases h with rfl|h
  ·exact⟨x,by simp,QG⟩
  obtain⟨y,F,H⟩:=TP h;exact⟨y,by simp[F],H⟩
def kZ (np:Nat)(o:z)(av:Xbq->AV)(v:AV)(w:W):Prop:=
 (Yg o.op=false->w=[])/\(rF o.op=true->v.My=true->w=[])/\(∀x,apX o.op=some x->Gc ((np+o.dst.getD 0)::(av x).refs) w)/\Gc (QK np o av) w
def Ti {av av':Xbq->AV}{q:C Xbq}(h :∀x∈q.toArray.toList,av' x=av x):q.map av'=q.map av:=by
 cases q with
 | none=>rfl
 | some y=>simp only[Xcb];rw[h y (by simp)]
def jM {cx:Cx}{o:z}{av av':Xbq->AV}{ob:O (C OB)}{K:AV->W->Prop}(h :∀x∈o.op.operands.toList,av' x=av x):BT cx o av' ob K=BT cx o av ob K:=by
 obtain⟨dst,op,Z,P,after,guard⟩:=o;cases op with
 | build t H=>simp only[BT,MB (av:=av) (av':=av') H.toList λx F=>h x (by simpa[Xbv] using F)]
 | buildSlice t l H=>simp only[BT,MB (av:=av) (av':=av') H.toList λx F=>h x (by simpa[Xbv] using F)]
 | makeFunc f first M=>cases f<;>simp only[BT,List.map_congr_left (f:=av') (g:=av) λx F=>h x (by simp only[Xbv,Array.toList_append,X20];exact .inr F)]
 | makeMap t r=>cases r<;>rfl
 | slice t x Q U mx=>
  have e:=h x (by simp[Xbv]);have e1:=Ti (av:=av) (av':=av') (q:=Q) λy J=>h y (by simp only[Xbv,Array.toList_append,X20];exact .inl (.inl (.inr J)));have e2:=Ti (av:=av) (av':=av') (q:=U) λy J=>h y (by simp only[Xbv,Array.toList_append,X20];exact .inl (.inr J));cases mx with
  | none=>simp only[BT,e,e1,e2]
  | some m=>simp only[BT,e,e1,e2,h m (by simp[Xbv])]
 | call c=>
  obtain⟨callee,args,V⟩:=c;have Y :∀x∈args.toList,av' x=av x:=λx F=>h x (by cases callee<;>simp[Xbv,Call.operands,F]);cases callee with
  | value x=>simp only[BT,h x (by simp[Xbv,Call.operands]),RA (av:=av) (av':=av') _ _ Y]
  | builtin b=>cases b<;>simp only[BT];all_goals (split<;>first|rfl|(simp_all;done))
  | invoke=>rfl
 | move x=>cases x<;>simp[Xbv] at h<;>simp[BT,h]
 | assign x=>cases x<;>simp[Xbv] at h<;>simp[BT,h]
 | _=>simp[Xbv] at h;simp[BT,h]
def Gc.one {F:O Nat}{r:Nat}{o:OB}(h:r∈F):Gc F [(r,o)]:=λq H=>by simp only[X11] at H;exact H▸h
def Gc.Lf {F:O Nat}{w w':W}(h:Gc F w)(k:Gc F w'):Gc F (w++w'):=λq H=>(X20.1 H).elim (h q) (k q)
def Un :∀(F:O D) (K:O AV->Prop),Ru (λc K=>K (AV.d c)) F K↔K (F.map .d)
 | [],K=>Iff.rfl
 | c::F,K=>Un F λl=>K (.d c::l)
def xT {cx:Cx}{o:Oper}{av:Xbq->AV}{ob:O (Option OB)}:Loc (QK cx.np o av) ob (kZ cx.np o av) λob K=>BT cx o av ob K:=by
 have q0 :∀v,kZ cx.np o av v []:=λv=>⟨λ_=>rfl,λ_ _=>rfl,λ_ _=>nofun,nofun⟩;have qa:Yg o.op=true->∀v w,(rF o.op=true->v.My=true->w=[])->(∀x,apX o.op=some x->Gc ((cx.np+o.dst.getD 0)::(av x).refs) w)->Gc (QK cx.np o av) w->kZ cx.np o av v w:=λa v w c d h=>⟨λe=>by simp[a] at e,c,d,h⟩;have J:Yg o.op=true->rF o.op=false->apX o.op=none->∀v w,Gc (QK cx.np o av) w->kZ cx.np o av v w:=λa c b v w h=>qa a v w (λe=>by simp[c] at e) (λx e=>by simp[b] at e) h;have self:Yg o.op=true->cx.np+o.dst.getD 0∈QK cx.np o av:=sg;have F:S7 o.op=o.op.operands.toList->∀x∈o.op.operands.toList,∀r∈(av x).refs,r∈QK cx.np o av:=λe x P r U=>vG P e r U;have a6 :∀z t,(∀r∈(av z).refs,r∈QK cx.np o av)->∀r∈(H5 cx.T t (av z)).refs,r∈QK cx.np o av:=λz t h r U=>h r (QG r U);generalize QK cx.np o av=Z at *;generalize kZ cx.np o av=Q at *;obtain⟨dst,op,ty,ab,after,guard⟩:=o;have dA :∀r∈AV.dead.refs,r∈Z:=nofun;cases op;case move x=>cases x with
  | const v=>exact gX (self rfl) (J rfl rfl rfl)
  | _=>simp only[BT,BU];exact Loc.ret (q0 _)
 case assign x=>cases x with
  | const v=>exact gX (self rfl) (J rfl rfl rfl)
  | _=>simp only[BT,BU];exact Loc.ret (q0 _)
 case makeFunc f first H=>cases f<;>simp only[BT];repeat' first|exact Loc.no|exact Loc.ret (q0 _)|split
 case' pick c a b=>simp only[BT,mM,BU];generalize av c=C;generalize av a=A;generalize av b=B
 case' alloc t=>have V:=self rfl;replace J:=J rfl rfl rfl;simp only[BT]
 case' box t x=>have V:=self rfl;replace J:=J rfl rfl rfl;simp only[BT,HM]
 case' build t ps=>simp only[BT,LJ,HG]
 case' buildSlice t l ps=>
  have V:=self rfl;replace J:=J rfl rfl rfl;have hE :∀r∈AV.refs.refsL ((ps.toList.map λ(i,x)=>(i,av x)).map (·.2)),r∈Z:=λr U=>by obtain⟨x,P,U⟩:=Tf U;exact F rfl x (by simpa[Xbv] using P) r U
  simp only[BT,JU,Eg,MN,KC];generalize (ps.toList.map λ(i,x)=>(i,av x))=p at *
 case' load t x=>have M:=F rfl x (by simp[Xbv]);simp only[BT,iU,YS,OC,BU,HJ,Ge,HG];generalize av x=A at *
 case' store t a x=>replace J:=J rfl rfl rfl;have hX:=a6 x t (F rfl x (by simp[Xbv]));have M:=F rfl a (by simp[Xbv]);simp only[BT,P5,Ug,HL,HE,HF,HM,HS,FU];generalize H5 cx.T t (av x)=X at *;generalize av a=A at *
 case' nilCheck x=>simp only[BT]
 case' binOp op t x y yt=>simp only[BT,gJ,gQ];generalize av x=X;generalize av y=Y
 case' unOp op t x=>simp only[BT,unK]
 case' convert s d x=>have hX:=F rfl x (by simp[Xbv]);simp only[BT,iu];generalize av x=X at *
 case' fieldAddr t x i=>have M:=F rfl x (by simp[Xbv]);simp only[BT,Oa,HJ,Ge];generalize av x=A at *
 case' field t x i=>simp only[BT,XC,Jy,fZ,Un,BU,HJ,Ge,HG];generalize av x=A
 case' indexAddr t x y=>have M:=F rfl x (by simp[Xbv]);simp only[BT,KY,KQ,JM];generalize av x=A at *;generalize av y=Y
 case' index t x y=>simp only[BT,Wp,Jy,Un,BU];generalize av x=X;generalize av y=Y
 case' makeMap t r=>have V:=self rfl;replace J:=J rfl rfl rfl;cases r<;>simp only[BT]
 case' lookup t x y ok=>have M:=F rfl x (by simp[Xbv]);simp only[BT,gR,pi,fE];generalize av x=A at *;generalize av y=Y
 case' mapUpdate t m k v=>replace J:=J rfl rfl rfl;have M:=F rfl m (by simp[Xbv]);have hX:=F rfl v (by simp[Xbv]);simp only[BT,OU,MX,PM];generalize av m=A at *;generalize av v=X at *;generalize av k=Y
 case' insert t m k v=>replace J:=J rfl rfl rfl;have M:=F rfl m (by simp[Xbv]);have hX:=F rfl v (by simp[Xbv]);simp only[BT,OU,MX,PM];generalize av m=A at *;generalize av v=X at *;generalize av k=Y
 case' slice t x lo hi mx=>have V:=self rfl;have qs :∀v w,v.My=false->Gc Z w->Q v w:=λv w c=>qa rfl v w (λ_ e=>by simp[c] at e) nofun;have P:=F rfl x (by simp[Xbv]);have M:=a6 x t P;cases mx<;>simp only[BT,bM,Ww,Pn,cY,UI,Uj]
 case' slice.none=>generalize H5 cx.T _ (av _)=A at *
 case' slice.some=>replace M:=P;generalize av _=A at *
 case' makeSlice t n c=>have V:=self rfl;replace J:=J rfl rfl rfl;simp only[BT,iq];generalize av n=X;generalize av c=Y
 case' extract x i=>simp only[BT,BU]
 case' call c=>obtain⟨callee,args,aa⟩:=c;have ha :∀z∈args.toList,∀r∈(av z).refs,r∈Z:=λz hz=>F rfl z (by cases callee<;>simp[Xbv,Call.operands,hz]);cases callee
 case' call.value x=>
  have V :∀H,(∀r∈AV.refs.refsL H,r∈Z)->∀r∈AV.refs.refsL (Gx cx.T av args.toList aa.toList++H),r∈Z:=λH hc r U=>by
   obtain⟨a,h,U⟩:=Vj.1 U;rcases X20.1 h with h|h
   ·obtain⟨y,hy,h2⟩:=TP h;exact ha y hy r (h2 r U)
   exact hc r (Vj.2 ⟨a,h,U⟩)
  have P:=F rfl x (by simp[Xbv,Call.operands]);simp only[BT,fnK];generalize av x=X at *;have hc :∀f H,(∀r∈AV.refs.refsL H,r∈Z)->Loc Z ob Q λob K=>YN cx f (cx.np+dst.getD 0) (Gx cx.T av args.toList aa.toList++H) ob K:=λf H h=>so (self rfl) (V H h) (J rfl rfl rfl)
 case' call.builtin b=>cases b
 case' call.builtin.append=>
  have V:=self rfl;simp only[BT];split
  ·rename_i x y t u a7 _;have P:=ha x (by rw[a7];simp);have hX:=a6 y t (ha y (by rw[a7];simp));have a8 :∀r∈(H5 cx.T t (av x)).refs,r∈(av x).refs:=QG
   have q :∀v w,Gc ((cx.np+dst.getD 0)::(av x).refs) w->Q v w:=λv w h=>qa rfl v w nofun (λz hz=>by
    simp only[apX,a7,X21] at hz
    exact hz▸h) λq hq=>(Xa7.1 (h q hq)).elim (λe=>e▸V) (P _)
   have M :∀r∈(H5 cx.T t (av x)).refs,r∈Z:=λr U=>P r (a8 r U);simp only[Rz,gW,fG,iG];generalize H5 cx.T t (av x)=A at *;generalize H5 cx.T t (av y)=X at *;generalize av y=Y at *;repeat' first
    | exact Loc.no
    | refine Loc.only λ_=>?_
    | refine Loc.Ms V ?_
    | refine Loc.find (M _ (by simp[AV.refs])) λ_=>?_
    | refine Loc.and λ_=>?_
    | refine Loc.ex λ_=>?_
    | refine mD hX λ_ _=>?_
    | refine uX hX λ_=>?_
    | split
    | exact Loc.ret (q _ _ (Gc.one (Xde ..)))
    | exact Loc.ret (q _ _ (Gc.one (X16 _ (a8 _ (by simp[AV.refs])))))
    | exact Loc.ret (q _ _ (Gc.Lf (w:=[_]) (Gc.one (X16 _ (a8 _ (by simp[AV.refs])))) (Gc.one (Xde ..))))
  exact Loc.no
 case' call.builtin.len=>simp only[BT,pA]
 case' call.builtin.cap=>simp only[BT,ri]
 case' call.builtin.max=>simp only[BT,sc]
 case' call.builtin.min=>simp only[BT,rZ]
 case' call.builtin.clear=>
  replace J:=J rfl rfl rfl;simp only[BT];split;rotate_left
  ·exact Loc.no
  rename_i x t P _;have M:=ha x (by rw[P];simp);simp only[Xf];generalize av x=A at *
 case' call.builtin.copy=>
  replace J:=J rfl rfl rfl;simp only[BT];split;rotate_left
  ·exact Loc.no
  rename_i x y t u P _;have M:=ha x (by rw[P];simp);have hX:=ha y (by rw[P];simp);simp only[iJ,ZK];generalize av x=A at *;generalize av y=X at *
 all_goals repeat' first
  | exact Loc.no
  | refine Loc.only λ_=>?_
  | refine Loc.Ms V ?_
  | refine Loc.find (M _ (by simp[AV.refs])) λ_=>?_
  | refine Loc.and λ_=>?_
  | refine Loc.ex λ_=>?_
  | refine Loc.or ?_ ?_
  | refine WO hX λ_ _ _=>?_
  | refine WO M λ_ _ _=>?_
  | refine WO (by simpa[AV.refs.refsL] using hE) λ_ _ _=>?_
  | refine fX hE λ_ _ _=>?_
  | refine mD hX λ_ _=>?_
  | refine nX λ_=>?_
  | refine vh λ_=>?_
  | exact hc _ _ (by first|exact P|simp[AV.refs.refsL])
  | exact Loc.ret (q0 _)
  | exact Loc.ret (J _ _ (Gc.one V))
  | exact Loc.ret (J _ _ (Gc.one (M _ (by simp[AV.refs]))))
  | exact Loc.ret (J _ _ (Gc.Lf (by assumption) (Gc.one (M _ (by simp[AV.refs])))))
  | exact Loc.ret (J _ _ (Gc.Lf (by assumption) (Gc.one V)))
  | exact Loc.ret (qs _ _ rfl (by assumption))
  | exact Loc.ret (qs _ _ rfl (Gc.Lf (w:=[_]) (Gc.one (M _ (by simp[AV.refs]))) (Gc.one V)))
  | split
  | (cases ‹I›<;>simp only[JC])
def uZ {cx:Cx}{o:z}{av:Xbq->AV}{ob:O (C OB)}{K:AV->W->Prop}(h:BT cx o av ob K) : ∃v w,K v w/\kZ cx.np o av v w/\∀av' ob',(∀x∈o.op.operands.toList,av' x=av x)->DQ (QK cx.np o av) ob ob'->∀F:AV->W->Prop,F v w->BT cx o av' ob' F:=by obtain⟨v,w,a,b,c⟩:=xT K h;exact⟨v,w,a,b,λav' ob' H J F k=>jM H▸c ob' J F k⟩
def Lf (dst:C Nat)(v:AV)(w:W)(st:wD):wD:=⟨K2 st.tm dst v,Mp st.ob w⟩
def Kg (F:Array z)(o:z)(st H:wD):Prop:=∀t∈o.looksAt F,H.tm.getD t .dead=st.tm.getD t .dead
structure Mt (cx:Cx)(ops:Array Oper)(o:Oper)(st:wD)(e:List Nat×List Nat)(v:AV)(w:W):Prop where
 ee:e.1=TN cx.np o st.tm
 wr :∀q∈w,q.1∈e.2
 sub :∀q∈w,q.1∈e.1
 go :∀st',Kg ops o st st'->DQ e.1 st.ob st'.ob->∀K:wD->Prop,K (Lf o.dst v w st')->NV cx ops o st' K
def aA {H:Array z}{o:z}{st F:wD}(h:Kg H o st F) :∀x∈o.op.operands.toList,Li F.tm x=Li st.tm x:=by
 intro x J;cases x with
 | tmp t=>exact h t (Xcf _ (List.mem_filterMap.2 ⟨.tmp t,J,rfl⟩))
 | _=>rfl
def L8 {α F:Type}{f g:α->O F} :∀{l:O α},(∀x∈l,f x=g x)->l.flatMap f=l.flatMap g
 | [],_=>rfl
 | x::l,h=>by simp only[Xat];rw[h x (by simp),L8 λy H=>h y (by simp[H])]
def sK {np:Nat}{J:Array z}{o:z}{st F:wD}(h:Kg J o st F):TN np o F.tm=TN np o st.tm:=by
 unfold TN;congr 1;refine L8 λx H=>?_;have K:x∈o.op.operands.toList:=by
  unfold S7 at H;split at H;all_goals first
   | (simp at H;done)
   | exact H
 rw[aA h x K]
def Kg.trans {F:Array z}{o:z}{a b c:wD}(h:Kg F o a b)(k:Kg F o b c):Kg F o a c:=λt H=>(k t H).trans (h t H)
def DQ.trans {F:O Nat}{a b c:O (C OB)}(h:DQ F a b)(k:DQ F b c):DQ F a c:=λt H=>(k t H).trans (h t H)
def Kg.symm {F:Array z}{o:z}{a b:wD}(h:Kg F o a b):Kg F o b a:=λt H=>(h t H).symm
def DQ.symm {F:O Nat}{a b:O (C OB)}(h:DQ F a b):DQ F b a:=λt H=>(h t H).symm
def Mt.move {cx:Cx}{F:Array z}{o:z}{st H:wD}{e:O Nat×O Nat}{v:AV}{w:W}(h:Mt cx F o st e v w)(Q:Kg F o st H)(U:DQ e.1 st.ob H.ob):Mt cx F o H e v w:=
 ⟨by rw[sK Q];exact h.ee,h.wr,h.sub,λJ M P K V=>h.go J (Q.trans M) (U.trans P) K V⟩
def jg {tm:O AV}{t:Nat}{a:AV}(h:tm.getD t .dead=a):tm.set t a=tm:=by
 by_cases F:t<tm.length
 ·have:tm[t]=a:=by simpa[F] using h
  rw[<- this];exact List.set_getElem_self F
 exact List.set_eq_of_length_le (by omega)
def oe {J:Array z}{o:z}{tm:O AV}{Dd no:O AV->Prop}(h:J5 J o tm Dd no) : (Dd tm/\∀tm' F H,(∀t∈o.looksAt J,tm'.getD t .dead=tm.getD t .dead)->F tm'->J5 J o tm' F H) \/ (no tm/\∀tm' F H,(∀t∈o.looksAt J,tm'.getD t .dead=tm.getD t .dead)->H tm'->J5 J o tm' F H):=by
 unfold J5 at h⊢;cases hg:o.guard with
 | none=>simp only[hg] at h⊢;exact .inl ⟨h,λ_ _ _ _ M=>M⟩
 | some g=>
  obtain⟨j,U⟩:=g;simp only[hg] at h⊢;cases Y:(J[j]?).bind (·.dst) with
  | none=>simp only[Y] at h
  | some t=>
   simp only[Y] at h⊢;have P:t∈o.looksAt J:=Xdk _ (by rw[hg];simp[Y]);split at h
   ·rename_i b Q;have V :∀{tm':O AV},tm'.getD t .dead=tm.getD t .dead->tm'.set t (.b b)=tm':=λhq=>jg (hq.trans Q);have Z:=V (tm':=tm) rfl;cases b<;>cases U<;>simp only[JC,FQ] at h<;>rw[Z] at h
    ·exact .inl ⟨h,λtm' F H K M=>by rw[K t P,Q];simp only[JC,FQ];rw[V (K t P)];exact M⟩
    ·exact .inr ⟨h,λtm' F H K M=>by rw[K t P,Q];simp only[JC,FQ];rw[V (K t P)];exact M⟩
    ·exact .inr ⟨h,λtm' F H K M=>by rw[K t P,Q];simp only[JC,FQ];rw[V (K t P)];exact M⟩
    exact .inl ⟨h,λtm' F H K M=>by rw[K t P,Q];simp only[JC,FQ];rw[V (K t P)];exact M⟩
   ·rename_i vs Q;exact .inr ⟨h,λtm' F H K M=>by rw[K t P,Q];exact M⟩
   exact h.elim
def sq {cx:Cx}{M:Array z}{o:z}{st:wD}{K:wD->Prop}(h:NV cx M o st K) : ∃v w,K (Lf o.dst v w st)/\Mt cx M o st (TN cx.np o st.tm,nE cx.np o st.tm (Lf o.dst v w st).tm) v w:=by
 obtain⟨tm,ob⟩:=st;simp only[NV] at h;rcases oe h with ⟨h,hg⟩|⟨h,hg⟩
 ·obtain⟨v,w,h1,⟨h2,Y,Z,U⟩,h4⟩:=uZ h;rw[IE,R1] at h1;refine⟨v,w,h1,rfl,λq F=>?_,U,λH V ha K hK=>?_⟩
  ·simp only[nE];split
   ·rename_i hs;split
    ·rename_i d hd;split
     ·rename_i e
      have:=Y hs (by
       simp only[Lf,hd,K2,Xa8] at e;by_cases P:d<tm.length
       ·rw[Xe0 (by simpa using P)] at e;exact e
       rw[Xdl (by simpa using P)] at e
       simp[AV.My] at e)
      rw[this] at F;simp at F
     exact U q F
    exact U q F
   split
   ·split
    ·rename_i x hx;exact Z x hx q F
    exact U q F
   rename_i e;rw[h2 e] at F;simp at F
  obtain⟨J,Q⟩:=H;simp only[NV];refine hg J _ _ V (h4 _ Q (aA V) ha _ ?_);rw[IE,R1];exact hK
 rw[IE] at h;refine⟨.Ca [],[],h,rfl,λq F=>by simp at F,λq F=>by simp at F,λH V ha K hK=>?_⟩;obtain⟨J,Q⟩:=H;simp only[NV];refine hg J _ _ V ?_;rw[IE];exact hK
def T2 (cx:Cx)(F:Array z)(f:Nat->O Nat×O Nat)(fin:wD):O Nat->wD->Prop
 | [],st=>st=fin
 | i::l,st=>∃o v w,F[i]?=some o/\Mt cx F o st (f i) v w/\T2 cx F f fin l (Lf o.dst v w st)
structure zq (ops:Array Oper)(f:Nat->List Nat×List Nat)(j i:Nat):Prop where
 apart :∀a b,ops[j]?=some a->ops[i]?=some b->a.apart ops b=true
 Hp:(∀r∈(f j).2,r∉(f i).1)/\∀r∈(f j).1,r∉(f i).2
def WI {tm:O AV}{d:C Nat}{v:AV}{t:Nat}(h :∀x,d=some x->x≠t):(K2 tm d v).getD t .dead=tm.getD t .dead:=by
 cases d with
 | none=>rfl
 | some x=>simp only[K2,Xa8];rw[Xds (h x rfl)]
def QF {r:Nat} :∀(w:W) (ob:O (C OB)),(∀q∈w,q.1≠r)->(Mp ob w)[r]?=ob[r]?
 | [],ob,_=>rfl
 | (x,o)::w,ob,h=>by simp only[Mp];rw[QF w _ λq F=>h q (by simp[F]),Xds (h (x,o) (by simp))]
def O0 {r:Nat}{o:C OB} :∀(w:W) (ob:O (C OB)),(∀q∈w,q.1≠r)->Mp (ob.set r o) w=(Mp ob w).set r o
 | [],ob,_=>rfl
 | (x,y)::w,ob,h=>by simp only[Mp];rw[List.set_comm _ _ (Ne.symm (h (x,y) (by simp))),O0 w _ λq F=>h q (by simp[F])]
def Y8 :∀(w w':W) (ob:O (C OB)),(∀q∈w,∀H∈w',q.1≠H.1)->Mp (Mp ob w) w'=Mp (Mp ob w') w
 | [],w',ob,_=>rfl
 | (x,y)::w,w',ob,h=>by simp only[Mp];rw[Y8 w w' _ λq J H F=>h q (by simp[J]) H F,O0 w' ob λH F=>Ne.symm (h (x,y) (by simp) H F)]
def kE (tm:O AV){x y:C Nat}(v u:AV)(h :∀d,x=some d->y≠some d):K2 (K2 tm x v) y u=K2 (K2 tm y u) x v:=by
 cases x with
 | none=>rfl
 | some d=>
  cases y with
  | none=>rfl
  | some e=>have F:d≠e:=λH=>h d rfl (H▸rfl);simp only[K2];rw[List.set_comm _ _ F]
def dU {cx:Cx}{F:Array z}{f:Nat->O Nat×O Nat}{fin:wD}{i:Nat}{post:O Nat} :∀(pre:O Nat) {st:wD},(∀j∈pre,zq F f j i)->T2 cx F f fin (pre++i::post) st-> ∃o v w,F[i]?=some o/\Mt cx F o st (f i) v w/\T2 cx F f fin (pre++post) (Lf o.dst v w st)
 | [],st,_,h=>h
 | j::pre,st,hf,h=>by
  obtain⟨a,M,J,ha,sa,h⟩:=h;obtain⟨b,K,H,hb,U,h⟩:=dU pre (λk hk=>hf k (by simp[hk])) h;have Q:=hf j (by simp);obtain⟨p1,p2,p3⟩:=Oper.apart_spec (Q.apart a b ha hb);have lb:Kg F b st (Lf a.dst M J st):=λt V=>WI λx Y e=>p1 x Y (e▸V);have ab:DQ (f i).1 st.ob (Lf a.dst M J st).ob:=λr Z=>QF J _ λq P e=>Q.Hp.1 q.1 (sa.wr q P) (e▸Z);have a6:Mt cx F b st (f i) K H:=U.move lb.symm ab.symm;have la:Kg F a st (Lf b.dst K H st):=λt V=>WI λx Y e=>p3 x Y (e▸V);have aa:DQ (f j).1 st.ob (Lf b.dst K H st).ob:=λr Z=>QF H _ λq P e=>Q.Hp.2 r Z (e▸U.wr q P);have a7:Mt cx F a (Lf b.dst K H st) (f j) M J:=sa.move la aa;refine⟨b,K,H,hb,a6,a,M,J,ha,a7,?_⟩;have he:Lf a.dst M J (Lf b.dst K H st)=Lf b.dst K H (Lf a.dst M J st):=by simp only[Lf];rw[kE st.tm M K p2,Y8 J H];intro q P q' a8 e;exact Q.Hp.1 q.1 (sa.wr q P) (e▸U.sub q' a8)
  rw[he];exact h
end Go.AX
end
