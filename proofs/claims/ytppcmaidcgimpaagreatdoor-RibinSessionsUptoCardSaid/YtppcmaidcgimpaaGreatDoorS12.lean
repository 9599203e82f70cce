/-
  Texts of one proof, packed.
-/
import Derived.Test.YtppcmaidcgimpaaGreatDoorS11
set_option linter.all false
set_option maxRecDepth 100000
set_option maxHeartbeats 4000000
open List renaming length_map→X6,length_append→X10,mem_singleton→X13,length_drop→X16,length_take→X17,mem_cons_of_mem→X18,length_replicate→X19,length_set→X20,mem_append→X22
open Option.some renaming injEq→X23
open Go renaming Operand→Xau,FuncId→Xcs
open Nat renaming beq→Xa0
open Go.Op renaming operands→Xb1
section
namespace Go.AX
def ry (rs:I Nat)(ob ob':I (O OB)):Prop:=∀r∈rs,ob'[r]?=ob[r]?
def ry.mono {rs H:I Nat}{ob ob':I (O OB)}(h:ry rs ob ob')(J :∀r∈H,r∈rs):ry H ob ob':=λr K=>h r (J r K)
def rS (rs:I Nat)(w:W):Prop:=∀q∈w,q.1∈rs
def Loc (rs:I Nat)(ob:I (O OB))(Q:AV->W->Prop)(F:I (O OB)->(AV->W->Prop)->Prop):Prop:=
 ∀K,F ob K->∃v w,K v w/\Q v w/\∀H,ry rs ob H->∀J:AV->W->Prop,J v w->F H J
def kz (r:Nat) :∀(l:I Nat) (n:Nat) {F N:Nat->Prop},LD.go r l n F N->(∃k,F k/\∀H J:Nat->Prop,H k->LD.go r l n H J)\/(∃k,N k/\∀H J:Nat->Prop,J k->LD.go r l n H J)
 | [],n,F,N,h=>.inr ⟨n,h,λH J K=>K⟩
 | x::l,n,F,N,h=>by
  simp only[LD.go] at h⊢;cases U:Xa0 x r with
  | true=>simp only[U] at h⊢;exact .inl ⟨n,h,λH J K=>K⟩
  | false=>
   simp only[U] at h⊢;rcases kz r l (n+1) h with ⟨k,M,P⟩|⟨k,M,P⟩
   ·exact .inl ⟨k,M,P⟩
   exact .inr ⟨k,M,P⟩
section
variable {rs:I Nat} {ob:I (O OB)} {Q:AV->W->Prop} {F G:I (O OB)->(AV->W->Prop)->Prop}
def Loc.ret {v:AV}{w:W}(h:Q v w):Loc rs ob Q λ_ K=>K v w:=λ_ k=>⟨v,w,k,h,λ_ _ _ k=>k⟩
def Loc.no:Loc rs ob Q λ_ _=>False:=λ_ h=>h.elim
def Loc.and {P:Prop}(h:P->Loc rs ob Q F):Loc rs ob Q λob K=>P/\F ob K:=λK ⟨p,k⟩=>
 let ⟨v,w,a,b,c⟩:=h p K k
 ⟨v,w,a,b,λH J M k=>⟨p,c H J M k⟩⟩
def Loc.ex {α:Type}{F:α->I (O OB)->(AV->W->Prop)->Prop}(h :∀x,Loc rs ob Q (F x)):Loc rs ob Q λob K=>∃x,F x ob K:=λK ⟨x,k⟩=>
 let ⟨v,w,a,b,c⟩:=h x K k
 ⟨v,w,a,b,λH J M k=>⟨x,c H J M k⟩⟩
def Loc.or (h:Loc rs ob Q F)(g:Loc rs ob Q G):Loc rs ob Q λob K=>F ob K\/G ob K:=λK k=>by
 rcases k with k|k
 ·obtain⟨v,w,a,b,c⟩:=h K k;exact⟨v,w,a,b,λH J M k=>.inl (c H J M k)⟩
 obtain⟨v,w,a,b,c⟩:=g K k;exact⟨v,w,a,b,λH J M k=>.inr (c H J M k)⟩
def Loc.only {c:C}(h:c=true->Loc rs ob Q F):Loc rs ob Q λob K=>AU c (F ob K):=by
 cases c with
 | true=>exact h rfl
 | false=>exact Loc.no
def Loc.tb {r:Nat}(M:r∈rs)(h:Loc rs ob Q F):Loc rs ob Q λob K=>tb ob r (F ob K):=λK k=>by have k:=(FC _ _ _).1 k;obtain⟨v,w,a,b,c⟩:=h K k.2;exact⟨v,w,a,b,λH J P q=>(FC _ _ _).2 ⟨(J r M).trans k.1,c H J P q⟩⟩
def Loc.find {r:Nat}{F:OB->I (O OB)->(AV->W->Prop)->Prop}(P:r∈rs)(h :∀o,Loc rs ob Q (F o)):Loc rs ob Q λob K=>CX ob r λo=>F o ob K:=λK k=>by obtain⟨o,J,k⟩:=(Ax _ _ _).1 k;obtain⟨v,w,a,b,c⟩:=h o K k;refine⟨v,w,a,b,λH M U q=>(Ax _ _ _).2 ⟨o,?_,c H M U q⟩⟩;rw[Xo] at J⊢;rw[M r P];exact J
def fK :∀{M:I AV} {G:I D->W->I (O OB)->(AV->W->Prop)->Prop},(∀r∈AV.refs.refsL M,r∈rs)->(∀l w,rS rs w->Loc rs ob Q (G l w))->Loc rs ob Q λob K=>fv.toDs ob M λl w=>G l w ob K
 | [],G,_,h=>h [] [] nofun
 | c::M,G,V,h=>by
  have U:=λG h=>@fK M G (λr P=>V r (by simp[AV.refs.refsL,P])) h;cases c with
  | d x=>cases x with
   | agg=>exact Loc.no
   | _=>exact U (λl w=>G (_::l) w) λl w H=>h _ _ H
  | own r n=>
   have P:r∈rs:=V r (by simp[AV.refs.refsL,AV.refs]);refine Loc.find P λo=>?_;cases o with
   | row e sz Y f=>exact Loc.and λ_=>U (λl w=>G (.qY sz Y::l) ((r,.row e sz Y .rl)::w)) λl w H=>h _ _ λq Z=>(Xp.1 Z).elim (λe=>e▸P) (H q)
   | _=>exact Loc.no
  | fn f J=>cases J with
   | nil=>exact U (λl w=>G (_::l) w) λl w H=>h _ _ H
   | cons=>exact Loc.no
  | _=>exact Loc.no
def Uj {a:AV}{G:D->W->I (O OB)->(AV->W->Prop)->Prop}(H :∀r∈a.refs,r∈rs)(h :∀x w,rS rs w->Loc rs ob Q (G x w)):Loc rs ob Q λob K=>fv ob a λx w=>G x w ob K:=by
 cases a with
 | d x=>simp only[fv,Fv];exact h _ _ nofun
 | own r n=>
  have J:r∈rs:=H r (by simp[AV.refs]);simp only[fv];refine Loc.find J λo=>?_;cases o with
  | row e sz U f=>exact Loc.and λ_=>h _ _ λq M=>by simp only[X13] at M;exact M▸J
  | _=>exact Loc.no
 | agg V=>exact fK (G:=λl w=>G (.agg l) w) H λl w P=>h _ _ P
 | _=>exact Loc.no
def ZC {sz:Nat} :∀{H:I (Nat×AV)} {i:Nat} {G:I D->W->I (O OB)->(AV->W->Prop)->Prop},(∀r∈AV.refs.refsL (H.map (·.2)),r∈rs)->(∀l w,rS rs w->Loc rs ob Q (G l w))-> Loc rs ob Q λob K=>EK.elems ob sz i H λl w=>G l w ob K
 | [],i,G,_,h=>h [] [] nofun
 | (j,v)::H,i,G,P,h=>by
  simp only[EK.elems];split
  ·exact Uj (G:=λx w ob K=>AU _ (EK.elems ob sz (i+1) H λl w'=>G (x::l) (w++w') ob K)) (λr J=>P r (by simp[AV.refs.refsL,J])) λx w U=>Loc.only λ_=>
    ZC (λr J=>P r (by simp only[Xb5,AV.refs.refsL,X22];exact .inr J)) λl w' M=>h _ _ λq V=>(X22.1 V).elim (U q) (M q)
  exact Loc.no
def mg {H:Nat->O (Nat×Nat)} :∀{M:I (Nat×AV)} {J:I AV} {G:I AV->I (O OB)->(AV->W->Prop)->Prop},(∀l,Loc rs ob Q (G l))->Loc rs ob Q λob K=>KP.go H M J λl=>G l ob K
 | [],J,G,h=>h J
 | (i,v)::M,J,G,h=>by
  simp only[KP.go];split
  ·simp only[GZ,Hm];exact Loc.ex λl=>Loc.and λ_=>Loc.only λ_=>Loc.and λ_=>mg h
  exact Loc.no
def fj {o:O AV}{H:Int}{G:Int->I (O OB)->(AV->W->Prop)->Prop}(h :∀i,Loc rs ob Q (G i)):Loc rs ob Q λob K=>Dm o H λi=>G i ob K:=by
 unfold Dm;split
 ·exact h _
 ·exact h _
 exact Loc.no
def eT {y:AV}{G:Nat->I D->I (O OB)->(AV->W->Prop)->Prop}(J :∀r∈y.refs,r∈rs)(h :∀n l,Loc rs ob Q (G n l)):Loc rs ob Q λob K=>XK ob y λn l=>G n l ob K:=by
 have H :∀{r},y.refs=[r]->r∈rs:=λe=>J _ (e▸List.mem_singleton_self _);cases y with
 | d x=>cases x with
  | qY=>exact h _ _
  | nil=>exact h _ _
  | _=>exact Loc.no
 | own r n=>
  simp only[XK,WY];refine Loc.find (H rfl) λo=>?_;cases o with
  | row=>exact Loc.and λ_=>h _ _
  | _=>exact Loc.no
 | rO r a n m=>
  simp only[XK,WY];refine Loc.find (H rfl) λo=>?_;cases o with
  | row=>exact Loc.and λ_=>Loc.ex λ_=>Loc.and λ_=>h _ _
  | _=>exact Loc.no
 | _=>exact Loc.no
def li {y:AV}{k sz:Nat}{frz:FZ}{G:FZ->I (O OB)->(AV->W->Prop)->Prop}(V :∀r∈y.refs,r∈rs)(h :∀f,Loc rs ob Q (G f)):Loc rs ob Q λob K=>dp ob y k sz frz λf=>G f ob K:=by
 unfold dp;intro K J;split at J
 ·obtain⟨v,w,a,b,c⟩:=h _ K J;exact⟨v,w,a,b,c⟩
 split at J
 ·rename_i q n;have e :∀H,ry rs ob H->H.getD q none=ob.getD q none:=λH M=>by rw[Xo,Xo,M q (V q (by simp[AV.refs]))]
  split at J
  ·rename_i e0 Y ys i j q' m P;split at J
   ·rename_i U;obtain⟨v,w,a,b,c⟩:=h _ K J.2;exact⟨v,w,a,b,λH M K k=>by simp only[e H M,P,U];exact⟨J.1,c H M K k⟩⟩
   rename_i U;obtain⟨v,w,a,b,c⟩:=h _ K J;exact⟨v,w,a,b,λH M K k=>by simp only[e H M,P,U];exact c H M K k⟩
  rename_i Z;obtain⟨v,w,a,b,c⟩:=h _ K J;refine⟨v,w,a,b,λH M K k=>?_⟩;dsimp only;rw[e H M];split
  ·rename_i P;exact absurd P (Z _ _ _ _ _ _ _)
  exact c H M K k
 obtain⟨v,w,a,b,c⟩:=h _ K J;exact⟨v,w,a,b,c⟩
def SC {r:Nat}{ρ:I Nat}{G:Nat->I Nat->I (O OB)->(AV->W->Prop)->Prop}(U:r∈rs)(J :∀x∈ρ,x∈rs)(h :∀i ρ',(∀x∈ρ',x∈rs)->Loc rs ob Q (G i ρ')):Loc rs ob Q λob K=>LD.refK r ρ λi ρ=>G i ρ ob K:=λK k=>by
 rcases kz r ρ 0 k with ⟨i,k,g⟩|⟨i,k,g⟩
 ·obtain⟨v,w,a,b,c⟩:=h i ρ J K k;exact⟨v,w,a,b,λH M P k=>g _ _ (c H M P k)⟩
 obtain⟨v,w,a,b,c⟩:=h i (ρ++[r]) (λx V=>(X22.1 V).elim (J x) λe=>X13.1 e▸U) K k;exact⟨v,w,a,b,λH M P k=>g _ _ (c H M P k)⟩
def Y5 :∀{J:I AV} {ρ:I Nat} {G:I AV->I Nat->I (O OB)->(AV->W->Prop)->Prop},(∀r∈AV.refs.refsL J,r∈rs)->(∀x∈ρ,x∈rs)->(∀c ρ',(∀x∈ρ',x∈rs)->Loc rs ob Q (G c ρ'))-> Loc rs ob Q λob K=>LD.capsK J ρ λc ρ=>G c ρ ob K
 | [],ρ,G,_,H,h=>h _ _ H
 | c::J,ρ,G,P,H,h=>by
  cases c with
  | ref r M=>exact SC (G:=λi ρ ob K=>LD.capsK J ρ λc ρ=>G (.ref i M::c) ρ ob K) (P r (by simp[AV.refs.refsL,AV.refs])) H λi ρ H=>Y5 (λr U=>P r (by simp[AV.refs.refsL,U])) H λc ρ H=>h _ _ H
  | _=>exact Loc.no
def mL {qL:C}{a:AV}{ρ:I Nat}{G:AV->I Nat->W->I (O OB)->(AV->W->Prop)->Prop}(J :∀r∈a.refs,r∈rs)(H :∀x∈ρ,x∈rs)(h :∀a ρ w,(∀x∈ρ,x∈rs)->rS rs w->Loc rs ob Q (G a ρ w)) : Loc rs ob Q λob K=>LD qL ob a ρ λa ρ w=>G a ρ w ob K:=by
 have one :∀{r},a.refs=[r]->r∈rs:=λe=>J _ (e▸List.mem_singleton_self _);cases a with
 | d x=>
  simp only[LD,Fv];split
  ·exact h _ _ _ H nofun
  exact h _ _ _ H nofun
 | own r n=>cases qL with
  | true=>exact SC (G:=λi ρ=>G (.own i n) ρ []) (one rfl) H λi ρ H=>h _ _ _ H nofun
  | false=>exact Uj (G:=λx w=>G (.d x) ρ w) J λx w M=>h _ _ _ H M
 | agg V=>exact Uj (G:=λx w=>G (.d x) ρ w) J λx w M=>h _ _ _ H M
 | ref r P=>exact SC (G:=λi ρ=>G (.ref i P) ρ []) (one rfl) H λi ρ H=>h _ _ _ H nofun
 | mp r=>exact SC (G:=λi ρ=>G (.mp i) ρ []) (one rfl) H λi ρ H=>h _ _ _ H nofun
 | it f r=>exact SC (G:=λi ρ=>G (.it f i) ρ []) (one rfl) H λi ρ H=>h _ _ _ H nofun
 | ru V=>exact h _ _ _ H nofun
 | fn f U=>exact Y5 (G:=λc ρ=>G (.fn f c) ρ []) J H λc ρ H=>h _ _ _ H nofun
 | _=>exact Loc.no
def Y4 :∀{qL:I C} {H:I AV} {ρ:I Nat} {G:I AV->I Nat->W->I (O OB)->(AV->W->Prop)->Prop},(∀r∈AV.refs.refsL H,r∈rs)->(∀x∈ρ,x∈rs)->(∀a ρ w,(∀x∈ρ,x∈rs)->rS rs w->Loc rs ob Q (G a ρ w))-> Loc rs ob Q λob K=>Rq qL ob H ρ λa ρ w=>G a ρ w ob K
 | _,[],ρ,G,_,J,h=>h _ _ _ J nofun
 | qL,a::H,ρ,G,U,J,h=>mL (G:=λa ρ w ob K=>Rq qL.tail ob H ρ λH ρ w'=>G (a::H) ρ (w++w') ob K) (λr M=>U r (by simp[AV.refs.refsL,M])) J λa ρ w J V=>
  Y4 (λr M=>U r (by simp[AV.refs.refsL,M])) J λH ρ w' J P=>h _ _ _ J λq Y=>(X22.1 Y).elim (V q) (P q)
def ZM :∀{ρ:I Nat} {G:I OB->I (O OB)->(AV->W->Prop)->Prop},(∀x∈ρ,x∈rs)->(∀l,Loc rs ob Q (G l))->Loc rs ob Q λob K=>HO ob ρ λl=>G l ob K
 | [],G,_,h=>h []
 | r::ρ,G,H,h=>Loc.find (H r (by simp)) λo=>by
  have J:=λo:OB=>@ZM ρ (λl=>G (o::l)) (λx M=>H x (by simp[M])) λl=>h _;cases o with
  | box U=>simp only[Jq];exact Loc.and λ_=>J _
  | row e sz P f=>exact Loc.only λ_=>J _
  | map k e P=>exact J _
  | _=>exact Loc.no
def Y2 {self:Nat}(M:self∈rs) :∀{ρ:I Nat} {gD:I OB} {G:W->I (O OB)->(AV->W->Prop)->Prop},(∀x∈ρ,x∈rs)->(∀w,rS rs w->Loc rs ob Q (G w))->Loc rs ob Q λob K=>J9 ρ self gD λw=>G w ob K
 | [],[],G,_,h=>h [] nofun
 | [],[o],G,_,h=>by
  simp only[J9];split
  ·exact h _ λq J=>by simp only[X13] at J;exact J▸M
  exact Loc.no
 | r::ρ,o::os,G,H,h=>by
  simp only[J9];split
  ·exact Y2 M (G:=λw=>G ((r,o)::w)) (λx P=>H x (by simp[P])) λw U=>h _ λq J=>(Xp.1 J).elim (λe=>e▸H r (by simp)) (U q)
  exact Loc.no
 | [],_::_::_,G,_,_=>Loc.no
 | _::_,[],G,_,_=>Loc.no
def kZ {cx:Cx}{f:Xcs}{self:Nat}{args:I AV}(hr:self∈rs)(hs :∀r∈AV.refs.refsL args,r∈rs)(hQ :∀v w,rS rs w->Q v w):Loc rs ob Q λob K=>V9 cx f self args ob K:=by
 simp only[W4];unfold LK;refine Y4 (G:=λU P w ob K=>AU (LK.apartW w P) (HO ob P λgD=>∃M H,cx.C f U gD M H/\(H.length=P.length\/ob[self]?=some none)/\NT P self M λJ=>J9 P self H λw'=>K J (w++w'))) hs nofun λa1 P w V hw=>Loc.only λ_=>?_;refine ZM V λgD=>Loc.ex λM=>Loc.ex λH=>Loc.and λ_=>?_;intro K k;obtain⟨h1,k⟩:=k
 obtain⟨v,w,a,b,c⟩:=(show Loc rs ob Q (λob K=>NT P self M λJ=>J9 P self H λw'=>K J (w++w')) by
  simp only[OU]
  exact Loc.ex λa=>Loc.and λ_=>Y2 hr (G:=λw' ob K=>K a (w++w')) V λw' Y=>Loc.ret (hQ _ _ λq hq=>(X22.1 hq).elim (hw q) (Y q))) K k
 exact⟨v,w,a,b,λZ ha K' k=>⟨h1.imp id λe=>(ha self hr).trans e,c Z ha K' k⟩⟩
def ZR {T:TT}{ty self:Nat}{x:AV}(H:self∈rs)(J :∀v w,rS rs w->Q v w):Loc rs ob Q λob K=>XW T ty self x ob K:=by
 unfold XW;split
 ·split
  ·rename_i e _;intro K k;split at k
   ·rename_i M;rw[AD] at k;exact⟨_,_,k.2,J _ _ λq V=>by simp only[X13] at V;exact V▸H,λP U Y q=>by simp only[U _ H,M];exact (AD _ _).2 ⟨k.1,q⟩⟩
   rename_i M;refine⟨_,_,k,J _ _ nofun,λP U Y q=>?_⟩;dsimp only;rw[U _ H];split
   ·rename_i Z;exact absurd Z M
   exact q
  exact Loc.no
 simp only[Ba];exact Loc.ret (J _ _ nofun)
end
end Go.AX
end
section
namespace Go.AX
def O8 (np:Nat)(o:z)(av:Xau->AV):I Nat:=
 (match WT o.op with
  | true=>[np+o.dst.getD 0]
  | false=>[])++(Q8 o.op).flatMap λx=>(av x).refs
def mQ {np:Nat}{o:z}{av:Xau->AV}{x:Xau}(F:x∈o.op.operands.toList)(H:Q8 o.op=o.op.operands.toList) :∀r∈(av x).refs,r∈O8 np o av:=λ_ J=>
 List.mem_append_right _ (Xd0.2 ⟨x,H▸F,J⟩)
def kU {np:Nat}{o:z}{av:Xau->AV}(h:WT o.op=true):np+o.dst.getD 0∈O8 np o av:=by unfold O8;rw[h];simp
def LV {av av':Xau->AV} :∀(l:I (Nat×Xau)),(∀x∈l.map (·.2),av' x=av x)->(l.map λ(i,x)=>(i,av' x))=l.map λ(i,x)=>(i,av x)
 | [],_=>rfl
 | (i,x)::l,h=>by simp only[Xb5,Xp,forall_eq_or_imp] at h⊢;rw[h.1,LV l h.2]
def Tz {F:I AV}{r:Nat}:r∈AV.refs.refsL F ↔∃a∈F,r∈a.refs:=by
 induction F with
 | nil=>simp[AV.refs.refsL]
 | cons a l H=>simp[AV.refs.refsL,H]
def Rj {av:Xau->AV}{r:Nat} :∀{l:I (Nat×Xau)},r∈AV.refs.refsL ((l.map λ(i,x)=>(i,av x)).map (·.2))->∃x∈l.map (·.2),r∈(av x).refs
 | [],h=>by simp[AV.refs.refsL] at h
 | (i,x)::l,h=>by
  simp only[Xb5,AV.refs.refsL,X22] at h;rcases h with h|h
  ·exact⟨x,by simp,h⟩
  obtain⟨y,F,h⟩:=Rj h;exact⟨y,by simp only[Xb5,Xp];exact .inr F,h⟩
def O5 {T:TT}{t:Nat}{a:AV} :∀r∈(G6 T t a).refs,r∈a.refs:=by
 intro r F;unfold G6 at F;split at F
 ·split at F
  ·simp[AV.refs] at F
  exact F
 exact F
def Pv {T:TT}{av av':Xau->AV} :∀(l:I Xau) (ts:I Nat),(∀x∈l,av' x=av x)->F8 T av' l ts=F8 T av l ts
 | [],ts,_=>by simp[F8]
 | x::xs,[],h=>by simp only[F8];exact List.map_congr_left h
 | x::xs,t::ts,h=>by simp only[F8];rw[h x (by simp),Pv xs ts λy F=>h y (by simp[F])]
def RQ {T:TT}{av:Xau->AV}{a:AV} :∀{l:I Xau} {ts:I Nat},a∈F8 T av l ts->∃x∈l,∀r∈a.refs,r∈(av x).refs
 | [],ts,h=>by simp[F8] at h
 | x::xs,[],h=>by simp only[F8] at h;obtain⟨y,F,rfl⟩:=Xaz.1 h;exact⟨y,F,λr H=>H⟩
 | x::xs,t::ts,h=>by
  simp only[F8,Xp] at h;rcases h with rfl|h
  ·exact⟨x,by simp,O5⟩
  obtain⟨y,F,H⟩:=RQ h;exact⟨y,by simp[F],H⟩
def cR (np:Nat)(o:z)(av:Xau->AV)(v:AV)(w:W):Prop:=
 (WT o.op=false->w=[])/\(jb o.op=true->v.sY=true->w=[])/\(∀x,vP o.op=some x->rS ((np+o.dst.getD 0)::(av x).refs) w)/\rS (O8 np o av) w
def Rk {av av':Xau->AV}{q:O Xau}(h :∀x∈q.toArray.toList,av' x=av x):q.map av'=q.map av:=by
 cases q with
 | none=>rfl
 | some y=>simp only[Xbf];rw[h y (by simp)]
def aA {cx:Cx}{o:z}{av av':Xau->AV}{ob:I (O OB)}{K:AV->W->Prop}(h :∀x∈o.op.operands.toList,av' x=av x):qU cx o av' ob K=qU cx o av ob K:=by
 obtain⟨dst,op,Z,P,after,guard⟩:=o;cases op with
 | build t H=>simp only[qU,LV (av:=av) (av':=av') H.toList λx F=>h x (by simpa[Xb1] using F)]
 | buildSlice t l H=>simp only[qU,LV (av:=av) (av':=av') H.toList λx F=>h x (by simpa[Xb1] using F)]
 | makeFunc f first M=>cases f<;>simp only[qU,List.map_congr_left (f:=av') (g:=av) λx F=>h x (by simp only[Xb1,Array.toList_append,X22];exact .inr F)]
 | makeMap t r=>cases r<;>rfl
 | slice t x Q U mx=>
  have e:=h x (by simp[Xb1]);have e1:=Rk (av:=av) (av':=av') (q:=Q) λy J=>h y (by simp only[Xb1,Array.toList_append,X22];exact .inl (.inl (.inr J)));have e2:=Rk (av:=av) (av':=av') (q:=U) λy J=>h y (by simp only[Xb1,Array.toList_append,X22];exact .inl (.inr J));cases mx with
  | none=>simp only[qU,e,e1,e2]
  | some m=>simp only[qU,e,e1,e2,h m (by simp[Xb1])]
 | call c=>
  obtain⟨callee,args,V⟩:=c;have Y :∀x∈args.toList,av' x=av x:=λx F=>h x (by cases callee<;>simp[Xb1,Call.operands,F]);cases callee with
  | value x=>simp only[qU,h x (by simp[Xb1,Call.operands]),Pv (av:=av) (av':=av') _ _ Y]
  | builtin b=>cases b<;>simp only[qU];all_goals (split<;>first|rfl|(simp_all;done))
  | invoke=>rfl
 | move x=>cases x<;>simp[Xb1] at h<;>simp[qU,h]
 | assign x=>cases x<;>simp[Xb1] at h<;>simp[qU,h]
 | _=>simp[Xb1] at h;simp[qU,h]
def rS.one {rs:I Nat}{r:Nat}{o:OB}(h:r∈rs):rS rs [(r,o)]:=λq F=>by simp only[X13] at F;exact F▸h
def rS.sH {rs:I Nat}{w w':W}(h:rS rs w)(k:rS rs w'):rS rs (w++w'):=λq F=>(X22.1 F).elim (h q) (k q)
def S4 :∀(F:I D) (K:I AV->Prop),QU (λc K=>K (AV.d c)) F K↔K (F.map .d)
 | [],K=>Iff.rfl
 | c::F,K=>S4 F λl=>K (.d c::l)
def oa {cx:Cx}{o:Oper}{av:Xau->AV}{ob:I (O OB)}:Loc (O8 cx.np o av) ob (cR cx.np o av) λob K=>qU cx o av ob K:=by
 have q0 :∀v,cR cx.np o av v []:=λv=>⟨λ_=>rfl,λ_ _=>rfl,λ_ _=>nofun,nofun⟩;have qa:WT o.op=true->∀v w,(jb o.op=true->v.sY=true->w=[])->(∀x,vP o.op=some x->rS ((cx.np+o.dst.getD 0)::(av x).refs) w)->rS (O8 cx.np o av) w->cR cx.np o av v w:=λa v w c d h=>⟨λe=>by simp[a] at e,c,d,h⟩;have J:WT o.op=true->jb o.op=false->vP o.op=none->∀v w,rS (O8 cx.np o av) w->cR cx.np o av v w:=λa c b v w h=>qa a v w (λe=>by simp[c] at e) (λx e=>by simp[b] at e) h;have self:WT o.op=true->cx.np+o.dst.getD 0∈O8 cx.np o av:=kU;have F:Q8 o.op=o.op.operands.toList->∀x∈o.op.operands.toList,∀r∈(av x).refs,r∈O8 cx.np o av:=λe x P r U=>mQ P e r U;have a1 :∀z t,(∀r∈(av z).refs,r∈O8 cx.np o av)->∀r∈(G6 cx.T t (av z)).refs,r∈O8 cx.np o av:=λz t h r U=>h r (O5 r U);generalize O8 cx.np o av=rs at *;generalize cR cx.np o av=Q at *;obtain⟨dst,op,ty,aa,after,guard⟩:=o;have dA :∀r∈AV.dead.refs,r∈rs:=nofun;cases op;case move x=>cases x with
  | const v=>exact ZR (self rfl) (J rfl rfl rfl)
  | _=>simp only[qU,Ba];exact Loc.ret (q0 _)
 case assign x=>cases x with
  | const v=>exact ZR (self rfl) (J rfl rfl rfl)
  | _=>simp only[qU,Ba];exact Loc.ret (q0 _)
 case makeFunc f first H=>cases f<;>simp only[qU];repeat' first|exact Loc.no|exact Loc.ret (q0 _)|split
 case' pick c a b=>simp only[qU,ec,Ba];generalize av c=C;generalize av a=A;generalize av b=B
 case' alloc t=>have V:=self rfl;replace J:=J rfl rfl rfl;simp only[qU]
 case' box t x=>have V:=self rfl;replace J:=J rfl rfl rfl;simp only[qU,GZ]
 case' build t ps=>simp only[qU,KP,GT]
 case' buildSlice t l ps=>
  have V:=self rfl;replace J:=J rfl rfl rfl;have hE :∀r∈AV.refs.refsL ((ps.toList.map λ(i,x)=>(i,av x)).map (·.2)),r∈rs:=λr U=>by obtain⟨x,P,U⟩:=Rj U;exact F rfl x (by simpa[Xb1] using P) r U
  simp only[qU,Ii,EK,Lj,M1];generalize (ps.toList.map λ(i,x)=>(i,av x))=p at *
 case' load t x=>have M:=F rfl x (by simp[Xb1]);simp only[qU,Zp,WG,NW,Ba,GV,Fo,GT];generalize av x=A at *
 case' store t a x=>replace J:=J rfl rfl rfl;have Z:=a1 x t (F rfl x (by simp[Xb1]));have M:=F rfl a (by simp[Xb1]);simp only[qU,Oy,Sr,H2,GR,I5,GZ,Hm,Fv];generalize G6 cx.T t (av x)=X at *;generalize av a=A at *
 case' nilCheck x=>simp only[qU]
 case' binOp op t x y yt=>simp only[qU,ZK,ZN];generalize av x=X;generalize av y=Y
 case' unOp op t x=>simp only[qU,vX]
 case' convert s d x=>have Z:=F rfl x (by simp[Xb1]);simp only[qU,Zx];generalize av x=X at *
 case' fieldAddr t x i=>have M:=F rfl x (by simp[Xb1]);simp only[qU,Nw,GV,Fo];generalize av x=A at *
 case' field t x i=>simp only[qU,VG,JI,ZE,S4,Ba,GV,Fo,GT];generalize av x=A
 case' indexAddr t x y=>have M:=F rfl x (by simp[Xb1]);simp only[qU,Jx,Js,Ib];generalize av x=A at *;generalize av y=Y
 case' index t x y=>simp only[qU,Uz,JI,S4,Ba];generalize av x=X;generalize av y=Y
 case' makeMap t r=>have V:=self rfl;replace J:=J rfl rfl rfl;cases r<;>simp only[qU]
 case' lookup t x y ok=>have M:=F rfl x (by simp[Xb1]);simp only[qU,ZO,iV,Y1];generalize av x=A at *;generalize av y=Y
 case' mapUpdate t m k v=>replace J:=J rfl rfl rfl;have M:=F rfl m (by simp[Xb1]);have Z:=F rfl v (by simp[Xb1]);simp only[qU,Nr,Lp,OW];generalize av m=A at *;generalize av v=X at *;generalize av k=Y
 case' insert t m k v=>replace J:=J rfl rfl rfl;have M:=F rfl m (by simp[Xb1]);have Z:=F rfl v (by simp[Xb1]);simp only[qU,Nr,Lp,OW];generalize av m=A at *;generalize av v=X at *;generalize av k=Y
 case' slice t x lo hi mx=>have V:=self rfl;have qs :∀v w,v.sY=false->rS rs w->Q v w:=λv w c=>qa rfl v w (λ_ e=>by simp[c] at e) nofun;have P:=F rfl x (by simp[Xb1]);have M:=a1 x t P;cases mx<;>simp only[qU,Xz,U0,Ol,YL,R7,Sz]
 case' slice.none=>generalize G6 cx.T _ (av _)=A at *
 case' slice.some=>replace M:=P;generalize av _=A at *
 case' makeSlice t n c=>have V:=self rfl;replace J:=J rfl rfl rfl;simp only[qU,Zv];generalize av n=X;generalize av c=Y
 case' extract x i=>simp only[qU,Ba]
 case' call c=>obtain⟨callee,args,a8⟩:=c;have ha :∀z∈args.toList,∀r∈(av z).refs,r∈rs:=λz hz=>F rfl z (by cases callee<;>simp[Xb1,Call.operands,hz]);cases callee
 case' call.value x=>
  have V :∀H,(∀r∈AV.refs.refsL H,r∈rs)->∀r∈AV.refs.refsL (F8 cx.T av args.toList a8.toList++H),r∈rs:=λH hc r U=>by
   obtain⟨a,h,U⟩:=Tz.1 U;rcases X22.1 h with h|h
   ·obtain⟨y,hy,h2⟩:=RQ h;exact ha y hy r (h2 r U)
   exact hc r (Tz.2 ⟨a,h,U⟩)
  have P:=F rfl x (by simp[Xb1,Call.operands]);simp only[qU,vg];generalize av x=X at *;have hc :∀f H,(∀r∈AV.refs.refsL H,r∈rs)->Loc rs ob Q λob K=>V9 cx f (cx.np+dst.getD 0) (F8 cx.T av args.toList a8.toList++H) ob K:=λf H h=>kZ (self rfl) (V H h) (J rfl rfl rfl)
 case' call.builtin b=>cases b
 case' call.builtin.append=>
  have V:=self rfl;simp only[qU];split
  ·rename_i x y t u a6 _;have P:=ha x (by rw[a6];simp);have Z:=a1 y t (ha y (by rw[a6];simp));have a7 :∀r∈(G6 cx.T t (av x)).refs,r∈(av x).refs:=O5
   have q :∀v w,rS ((cx.np+dst.getD 0)::(av x).refs) w->Q v w:=λv w h=>qa rfl v w nofun (λz hz=>by
    simp only[vP,a6,X23] at hz
    exact hz▸h) λq hq=>(Xp.1 (h q hq)).elim (λe=>e▸V) (P _)
   have M :∀r∈(G6 cx.T t (av x)).refs,r∈rs:=λr U=>P r (a7 r U);simp only[QW,fS,mj,nU];generalize G6 cx.T t (av x)=A at *;generalize G6 cx.T t (av y)=X at *;generalize av y=Y at *;repeat' first
    | exact Loc.no
    | refine Loc.only λ_=>?_
    | refine Loc.tb V ?_
    | refine Loc.find (M _ (by simp[AV.refs])) λ_=>?_
    | refine Loc.and λ_=>?_
    | refine Loc.ex λ_=>?_
    | refine eT Z λ_ _=>?_
    | refine li Z λ_=>?_
    | split
    | exact Loc.ret (q _ _ (rS.one (Xc6 ..)))
    | exact Loc.ret (q _ _ (rS.one (X18 _ (a7 _ (by simp[AV.refs])))))
    | exact Loc.ret (q _ _ (rS.sH (w:=[_]) (rS.one (X18 _ (a7 _ (by simp[AV.refs])))) (rS.one (Xc6 ..))))
  exact Loc.no
 case' call.builtin.len=>simp only[qU,hZ]
 case' call.builtin.cap=>simp only[qU,lw]
 case' call.builtin.max=>simp only[qU,kP]
 case' call.builtin.min=>simp only[qU,jp]
 case' call.builtin.clear=>
  replace J:=J rfl rfl rfl;simp only[qU];split;rotate_left
  ·exact Loc.no
  rename_i x t P _;have M:=ha x (by rw[P];simp);simp only[VW];generalize av x=A at *
 case' call.builtin.copy=>
  replace J:=J rfl rfl rfl;simp only[qU];split;rotate_left
  ·exact Loc.no
  rename_i x y t u P _;have M:=ha x (by rw[P];simp);have Z:=ha y (by rw[P];simp);simp only[fu,ng];generalize av x=A at *;generalize av y=X at *
 all_goals repeat' first
  | exact Loc.no
  | refine Loc.only λ_=>?_
  | refine Loc.tb V ?_
  | refine Loc.find (M _ (by simp[AV.refs])) λ_=>?_
  | refine Loc.and λ_=>?_
  | refine Loc.ex λ_=>?_
  | refine Loc.or ?_ ?_
  | refine Uj Z λ_ _ _=>?_
  | refine Uj M λ_ _ _=>?_
  | refine Uj (by simpa[AV.refs.refsL] using hE) λ_ _ _=>?_
  | refine ZC hE λ_ _ _=>?_
  | refine eT Z λ_ _=>?_
  | refine fj λ_=>?_
  | refine mg λ_=>?_
  | exact hc _ _ (by first|exact P|simp[AV.refs.refsL])
  | exact Loc.ret (q0 _)
  | exact Loc.ret (J _ _ (rS.one V))
  | exact Loc.ret (J _ _ (rS.one (M _ (by simp[AV.refs]))))
  | exact Loc.ret (J _ _ (rS.sH (by assumption) (rS.one (M _ (by simp[AV.refs])))))
  | exact Loc.ret (J _ _ (rS.sH (by assumption) (rS.one V)))
  | exact Loc.ret (qs _ _ rfl (by assumption))
  | exact Loc.ret (qs _ _ rfl (rS.sH (w:=[_]) (rS.one (M _ (by simp[AV.refs]))) (rS.one V)))
  | split
  | (cases ‹Bool›<;>simp only[IR])
def ll {cx:Cx}{o:z}{av:Xau->AV}{ob:I (O OB)}{K:AV->W->Prop}(h:qU cx o av ob K) : ∃v w,K v w/\cR cx.np o av v w/\∀av' ob',(∀x∈o.op.operands.toList,av' x=av x)->ry (O8 cx.np o av) ob ob'->∀F:AV->W->Prop,F v w->qU cx o av' ob' F:=by obtain⟨v,w,a,b,c⟩:=oa K h;exact⟨v,w,a,b,λav' ob' H J F k=>aA H▸c ob' J F k⟩
def sH (dst:O Nat)(v:AV)(w:W)(st:pw):pw:=⟨KD st.tm dst v,sU st.ob w⟩
def sr (F:Array z)(o:z)(st H:pw):Prop:=∀t∈o.looksAt F,H.tm.getD t .dead=st.tm.getD t .dead
structure sW (cx:Cx)(ops:Array Oper)(o:Oper)(st:pw)(e:List Nat×List Nat)(v:AV)(w:W):Prop where
 ee:e.1=RP cx.np o st.tm
 wr :∀q∈w,q.1∈e.2
 sub :∀q∈w,q.1∈e.1
 go :∀st',sr ops o st st'->ry e.1 st.ob st'.ob->∀K:pw->Prop,K (sH o.dst v w st')->MY cx ops o st' K
def Xc {H:Array z}{o:z}{st F:pw}(h:sr H o st F) :∀x∈o.op.operands.toList,sJ F.tm x=sJ st.tm x:=by
 intro x J;cases x with
 | tmp t=>exact h t (List.mem_append_left _ (List.mem_filterMap.2 ⟨.tmp t,J,rfl⟩))
 | _=>rfl
def LM {α F:Type}{f g:α->I F} :∀{l:I α},(∀x∈l,f x=g x)->l.flatMap f=l.flatMap g
 | [],_=>rfl
 | x::l,h=>by simp only[Xat];rw[h x (by simp),LM λy H=>h y (by simp[H])]
def kC {np:Nat}{J:Array z}{o:z}{st F:pw}(h:sr J o st F):RP np o F.tm=RP np o st.tm:=by
 unfold RP;congr 1;refine LM λx H=>?_;have K:x∈o.op.operands.toList:=by
  unfold Q8 at H;split at H;all_goals first
   | (simp at H;done)
   | exact H
 rw[Xc h x K]
def sr.trans {F:Array z}{o:z}{a b c:pw}(h:sr F o a b)(k:sr F o b c):sr F o a c:=λt H=>(k t H).trans (h t H)
def ry.trans {rs:I Nat}{a b c:I (O OB)}(h:ry rs a b)(k:ry rs b c):ry rs a c:=λt F=>(k t F).trans (h t F)
def sr.symm {F:Array z}{o:z}{a b:pw}(h:sr F o a b):sr F o b a:=λt H=>(h t H).symm
def ry.symm {rs:I Nat}{a b:I (O OB)}(h:ry rs a b):ry rs b a:=λt F=>(h t F).symm
def sW.move {cx:Cx}{F:Array z}{o:z}{st H:pw}{e:I Nat×I Nat}{v:AV}{w:W}(h:sW cx F o st e v w)(Q:sr F o st H)(U:ry e.1 st.ob H.ob):sW cx F o H e v w:=
 ⟨by rw[kC Q];exact h.ee,h.wr,h.sub,λJ M P K V=>h.go J (Q.trans M) (U.trans P) K V⟩
def ac {tm:I AV}{t:Nat}{a:AV}(h:tm.getD t .dead=a):tm.set t a=tm:=by
 by_cases F:t<tm.length
 ·have:tm[t]=a:=by simpa[F] using h
  rw[<- this];exact List.set_getElem_self F
 exact List.set_eq_of_length_le (by omega)
def gi {J:Array z}{o:z}{tm:I AV}{rl no:I AV->Prop}(h:JV J o tm rl no) : (rl tm/\∀tm' F H,(∀t∈o.looksAt J,tm'.getD t .dead=tm.getD t .dead)->F tm'->JV J o tm' F H) \/ (no tm/\∀tm' F H,(∀t∈o.looksAt J,tm'.getD t .dead=tm.getD t .dead)->H tm'->JV J o tm' F H):=by
 unfold JV at h⊢;cases hg:o.guard with
 | none=>simp only[hg] at h⊢;exact .inl ⟨h,λ_ _ _ _ M=>M⟩
 | some g=>
  obtain⟨j,U⟩:=g;simp only[hg] at h⊢;cases Y:(J[j]?).bind (·.dst) with
  | none=>simp only[Y] at h
  | some t=>
   simp only[Y] at h⊢;have P:t∈o.looksAt J:=List.mem_append_right _ (by rw[hg];simp[Y]);split at h
   ·rename_i b Q;have V :∀{tm':I AV},tm'.getD t .dead=tm.getD t .dead->tm'.set t (.b b)=tm':=λhq=>ac (hq.trans Q);have Z:=V (tm':=tm) rfl;cases b<;>cases U<;>simp only[IR,Eu] at h<;>rw[Z] at h
    ·exact .inl ⟨h,λtm' F H K M=>by rw[K t P,Q];simp only[IR,Eu];rw[V (K t P)];exact M⟩
    ·exact .inr ⟨h,λtm' F H K M=>by rw[K t P,Q];simp only[IR,Eu];rw[V (K t P)];exact M⟩
    ·exact .inr ⟨h,λtm' F H K M=>by rw[K t P,Q];simp only[IR,Eu];rw[V (K t P)];exact M⟩
    exact .inl ⟨h,λtm' F H K M=>by rw[K t P,Q];simp only[IR,Eu];rw[V (K t P)];exact M⟩
   ·rename_i vs Q;exact .inr ⟨h,λtm' F H K M=>by rw[K t P,Q];exact M⟩
   exact h.elim
def kc {cx:Cx}{M:Array z}{o:z}{st:pw}{K:pw->Prop}(h:MY cx M o st K) : ∃v w,K (sH o.dst v w st)/\sW cx M o st (RP cx.np o st.tm,fU cx.np o st.tm (sH o.dst v w st).tm) v w:=by
 obtain⟨tm,ob⟩:=st;simp only[MY] at h;rcases gi h with ⟨h,hg⟩|⟨h,hg⟩
 ·obtain⟨v,w,h1,⟨h2,Y,Z,U⟩,h4⟩:=ll h;rw[HF,QX] at h1;refine⟨v,w,h1,rfl,λq F=>?_,U,λH V ha K hK=>?_⟩
  ·simp only[fU];split
   ·rename_i hs;split
    ·rename_i d hd;split
     ·rename_i e
      have:=Y hs (by
       simp only[sH,hd,KD,Xo] at e;by_cases P:d<tm.length
       ·rw[List.getElem?_set_self (by simpa using P)] at e;exact e
       rw[List.getElem?_eq_none (by simpa using P)] at e
       simp[AV.sY] at e)
      rw[this] at F;simp at F
     exact U q F
    exact U q F
   split
   ·split
    ·rename_i x hx;exact Z x hx q F
    exact U q F
   rename_i e;rw[h2 e] at F;simp at F
  obtain⟨J,Q⟩:=H;simp only[MY];refine hg J _ _ V (h4 _ Q (Xc V) ha _ ?_);rw[HF,QX];exact hK
 rw[HF] at h;refine⟨.qT [],[],h,rfl,λq F=>by simp at F,λq F=>by simp at F,λH V ha K hK=>?_⟩;obtain⟨J,Q⟩:=H;simp only[MY];refine hg J _ _ V ?_;rw[HF];exact hK
def ud (cx:Cx)(F:Array z)(f:Nat->I Nat×I Nat)(fin:pw):I Nat->pw->Prop
 | [],st=>st=fin
 | i::l,st=>∃o v w,F[i]?=some o/\sW cx F o st (f i) v w/\ud cx F f fin l (sH o.dst v w st)
structure qX (ops:Array Oper)(f:Nat->List Nat×List Nat)(j i:Nat):Prop where
 apart :∀a b,ops[j]?=some a->ops[i]?=some b->a.apart ops b=true
 sb:(∀r∈(f j).2,r∉(f i).1)/\∀r∈(f j).1,r∉(f i).2
def Uh {tm:I AV}{d:O Nat}{v:AV}{t:Nat}(h :∀x,d=some x->x≠t):(KD tm d v).getD t .dead=tm.getD t .dead:=by
 cases d with
 | none=>rfl
 | some x=>simp only[KD,Xo];rw[List.getElem?_set_ne (h x rfl)]
def O4 {r:Nat} :∀(w:W) (ob:I (O OB)),(∀q∈w,q.1≠r)->(sU ob w)[r]?=ob[r]?
 | [],ob,_=>rfl
 | (x,o)::w,ob,h=>by simp only[sU];rw[O4 w _ λq F=>h q (by simp[F]),List.getElem?_set_ne (h (x,o) (by simp))]
def OI {r:Nat}{o:O OB} :∀(w:W) (ob:I (O OB)),(∀q∈w,q.1≠r)->sU (ob.set r o) w=(sU ob w).set r o
 | [],ob,_=>rfl
 | (x,y)::w,ob,h=>by simp only[sU];rw[List.set_comm _ _ (Ne.symm (h (x,y) (by simp))),OI w _ λq F=>h q (by simp[F])]
def Wn :∀(w w':W) (ob:I (O OB)),(∀q∈w,∀H∈w',q.1≠H.1)->sU (sU ob w) w'=sU (sU ob w') w
 | [],w',ob,_=>rfl
 | (x,y)::w,w',ob,h=>by simp only[sU];rw[Wn w w' _ λq J H F=>h q (by simp[J]) H F,OI w' ob λH F=>Ne.symm (h (x,y) (by simp) H F)]
def bY (tm:I AV){x y:O Nat}(v u:AV)(h :∀d,x=some d->y≠some d):KD (KD tm x v) y u=KD (KD tm y u) x v:=by
 cases x with
 | none=>rfl
 | some d=>
  cases y with
  | none=>rfl
  | some e=>have F:d≠e:=λH=>h d rfl (H▸rfl);simp only[KD];rw[List.set_comm _ _ F]
def YY {cx:Cx}{F:Array z}{f:Nat->I Nat×I Nat}{fin:pw}{i:Nat}{post:I Nat} :∀(pre:I Nat) {st:pw},(∀j∈pre,qX F f j i)->ud cx F f fin (pre++i::post) st-> ∃o v w,F[i]?=some o/\sW cx F o st (f i) v w/\ud cx F f fin (pre++post) (sH o.dst v w st)
 | [],st,_,h=>h
 | j::pre,st,hf,h=>by
  obtain⟨a,M,J,ha,sa,h⟩:=h;obtain⟨b,K,H,hb,U,h⟩:=YY pre (λk hk=>hf k (by simp[hk])) h;have Q:=hf j (by simp);obtain⟨p1,p2,p3⟩:=Oper.apart_spec (Q.apart a b ha hb);have lb:sr F b st (sH a.dst M J st):=λt V=>Uh λx Y e=>p1 x Y (e▸V);have ab:ry (f i).1 st.ob (sH a.dst M J st).ob:=λr Z=>O4 J _ λq P e=>Q.sb.1 q.1 (sa.wr q P) (e▸Z);have a1:sW cx F b st (f i) K H:=U.move lb.symm ab.symm;have la:sr F a st (sH b.dst K H st):=λt V=>Uh λx Y e=>p3 x Y (e▸V);have aa:ry (f j).1 st.ob (sH b.dst K H st).ob:=λr Z=>O4 H _ λq P e=>Q.sb.2 r Z (e▸U.wr q P);have a6:sW cx F a (sH b.dst K H st) (f j) M J:=sa.move la aa;refine⟨b,K,H,hb,a1,a,M,J,ha,a6,?_⟩;have he:sH a.dst M J (sH b.dst K H st)=sH b.dst K H (sH a.dst M J st):=by simp only[sH];rw[bY st.tm M K p2,Wn J H];intro q P q' a7 e;exact Q.sb.1 q.1 (sa.wr q P) (e▸U.sub q' a7)
  rw[he];exact h
end Go.AX
end
