/-
  Texts of one proof, packed.
-/
import Derived.Test.YtgbncopbacigiaaGreatDoorD11
set_option linter.all false
set_option maxRecDepth 100000
set_option maxHeartbeats 4000000
open List renaming length_map→X10,length_append→X11,mem_singleton→X14,length_drop→X17,length_take→X18,mem_cons_of_mem→X19,length_replicate→X20,length_set→X21,mem_append→X23
open Option.some renaming injEq→X24
open Go renaming Operand→Xaw,FuncId→Xcx
open Nat renaming beq→Xa6
open Go.Op renaming operands→Xb3
section
namespace Go.AX
def sU (rs:O Nat)(ob ob':O (C OB)):Prop:=∀r∈rs,ob'[r]?=ob[r]?
def sU.mono {rs H:O Nat}{ob ob':O (C OB)}(h:sU rs ob ob')(J :∀r∈H,r∈rs):sU H ob ob':=λr K=>h r (J r K)
def tp (rs:O Nat)(w:W):Prop:=∀q∈w,q.1∈rs
def Loc (rs:O Nat)(ob:O (C OB))(Q:AV->W->Prop)(F:O (C OB)->(AV->W->Prop)->Prop):Prop:=
 ∀K,F ob K->∃v w,K v w/\Q v w/\∀H,sU rs ob H->∀J:AV->W->Prop,J v w->F H J
def lK (r:Nat) :∀(l:O Nat) (n:Nat) {F N:Nat->Prop},J3.go r l n F N->(∃k,F k/\∀H J:Nat->Prop,H k->J3.go r l n H J)\/(∃k,N k/\∀H J:Nat->Prop,J k->J3.go r l n H J)
 | [],n,F,N,h=>.inr ⟨n,h,λH J K=>K⟩
 | x::l,n,F,N,h=>by
  simp only[J3.go] at h⊢;cases U:Xa6 x r with
  | true=>simp only[U] at h⊢;exact .inl ⟨n,h,λH J K=>K⟩
  | false=>
   simp only[U] at h⊢;rcases lK r l (n+1) h with ⟨k,M,P⟩|⟨k,M,P⟩
   ·exact .inl ⟨k,M,P⟩
   exact .inr ⟨k,M,P⟩
section
variable {rs:O Nat} {ob:O (C OB)} {Q:AV->W->Prop} {F G:O (C OB)->(AV->W->Prop)->Prop}
def Loc.ret {v:AV}{w:W}(h:Q v w):Loc rs ob Q λ_ K=>K v w:=λ_ k=>⟨v,w,k,h,λ_ _ _ k=>k⟩
def Loc.no:Loc rs ob Q λ_ _=>False:=λ_ h=>h.elim
def Loc.and {P:Prop}(h:P->Loc rs ob Q F):Loc rs ob Q λob K=>P/\F ob K:=λK ⟨p,k⟩=>
 let ⟨v,w,a,b,c⟩:=h p K k
 ⟨v,w,a,b,λH J M k=>⟨p,c H J M k⟩⟩
def Loc.ex {α:Type}{F:α->O (C OB)->(AV->W->Prop)->Prop}(h :∀x,Loc rs ob Q (F x)):Loc rs ob Q λob K=>∃x,F x ob K:=λK ⟨x,k⟩=>
 let ⟨v,w,a,b,c⟩:=h x K k
 ⟨v,w,a,b,λH J M k=>⟨x,c H J M k⟩⟩
def Loc.or (h:Loc rs ob Q F)(g:Loc rs ob Q G):Loc rs ob Q λob K=>F ob K\/G ob K:=λK k=>by
 rcases k with k|k
 ·obtain⟨v,w,a,b,c⟩:=h K k;exact⟨v,w,a,b,λH J M k=>.inl (c H J M k)⟩
 obtain⟨v,w,a,b,c⟩:=g K k;exact⟨v,w,a,b,λH J M k=>.inr (c H J M k)⟩
def Loc.only {c:I}(h:c=true->Loc rs ob Q F):Loc rs ob Q λob K=>AS c (F ob K):=by
 cases c with
 | true=>exact h rfl
 | false=>exact Loc.no
def Loc.uz {r:Nat}(M:r∈rs)(h:Loc rs ob Q F):Loc rs ob Q λob K=>uz ob r (F ob K):=λK k=>by have k:=(Eu _ _ _).1 k;obtain⟨v,w,a,b,c⟩:=h K k.2;exact⟨v,w,a,b,λH J P q=>(Eu _ _ _).2 ⟨(J r M).trans k.1,c H J P q⟩⟩
def Loc.find {r:Nat}{F:OB->O (C OB)->(AV->W->Prop)->Prop}(P:r∈rs)(h :∀o,Loc rs ob Q (F o)):Loc rs ob Q λob K=>CC ob r λo=>F o ob K:=λK k=>by obtain⟨o,J,k⟩:=(An _ _ _).1 k;obtain⟨v,w,a,b,c⟩:=h o K k;refine⟨v,w,a,b,λH M U q=>(An _ _ _).2 ⟨o,?_,c H M U q⟩⟩;rw[Wq] at J⊢;rw[M r P];exact J
def eK :∀{M:O AV} {G:O D->W->O (C OB)->(AV->W->Prop)->Prop},(∀r∈AV.refs.refsL M,r∈rs)->(∀l w,tp rs w->Loc rs ob Q (G l w))->Loc rs ob Q λob K=>cW.toDs ob M λl w=>G l w ob K
 | [],G,_,h=>h [] [] nofun
 | c::M,G,V,h=>by
  have U:=λG h=>@eK M G (λr P=>V r (by simp[AV.refs.refsL,P])) h;cases c with
  | d x=>cases x with
   | agg=>exact Loc.no
   | _=>exact U (λl w=>G (_::l) w) λl w H=>h _ _ H
  | own r n=>
   have P:r∈rs:=V r (by simp[AV.refs.refsL,AV.refs]);refine Loc.find P λo=>?_;cases o with
   | row e sz Y f=>exact Loc.and λ_=>U (λl w=>G (.su sz Y::l) ((r,.row e sz Y .sQ)::w)) λl w H=>h _ _ λq Z=>(Wp.1 Z).elim (λe=>e▸P) (H q)
   | _=>exact Loc.no
  | fn f J=>cases J with
   | nil=>exact U (λl w=>G (_::l) w) λl w H=>h _ _ H
   | cons=>exact Loc.no
  | _=>exact Loc.no
def S8 {a:AV}{G:D->W->O (C OB)->(AV->W->Prop)->Prop}(H :∀r∈a.refs,r∈rs)(h :∀x w,tp rs w->Loc rs ob Q (G x w)):Loc rs ob Q λob K=>cW ob a λx w=>G x w ob K:=by
 cases a with
 | d x=>simp only[cW,FY];exact h _ _ nofun
 | own r n=>
  have J:r∈rs:=H r (by simp[AV.refs]);simp only[cW];refine Loc.find J λo=>?_;cases o with
  | row e sz U f=>exact Loc.and λ_=>h _ _ λq M=>by simp only[X14] at M;exact M▸J
  | _=>exact Loc.no
 | agg V=>exact eK (G:=λl w=>G (.agg l) w) H λl w P=>h _ _ P
 | _=>exact Loc.no
def Ye {sz:Nat} :∀{H:O (Nat×AV)} {i:Nat} {G:O D->W->O (C OB)->(AV->W->Prop)->Prop},(∀r∈AV.refs.refsL (H.map (·.2)),r∈rs)->(∀l w,tp rs w->Loc rs ob Q (G l w))-> Loc rs ob Q λob K=>D7.elems ob sz i H λl w=>G l w ob K
 | [],i,G,_,h=>h [] [] nofun
 | (j,v)::H,i,G,P,h=>by
  simp only[D7.elems];split
  ·exact S8 (G:=λx w ob K=>AS _ (D7.elems ob sz (i+1) H λl w'=>G (x::l) (w++w') ob K)) (λr J=>P r (by simp[AV.refs.refsL,J])) λx w U=>Loc.only λ_=>
    Ye (λr J=>P r (by simp only[Xam,AV.refs.refsL,X23];exact .inr J)) λl w' M=>h _ _ λq V=>(X23.1 V).elim (U q) (M q)
  exact Loc.no
def nN {H:Nat->C (Nat×Nat)} :∀{M:O (Nat×AV)} {J:O AV} {G:O AV->O (C OB)->(AV->W->Prop)->Prop},(∀l,Loc rs ob Q (G l))->Loc rs ob Q λob K=>Jc.go H M J λl=>G l ob K
 | [],J,G,h=>h J
 | (i,v)::M,J,G,h=>by
  simp only[Jc.go];split
  ·simp only[GU,HH];exact Loc.ex λl=>Loc.and λ_=>Loc.only λ_=>Loc.and λ_=>nN h
  exact Loc.no
def ep {o:C AV}{H:Int}{G:Int->O (C OB)->(AV->W->Prop)->Prop}(h :∀i,Loc rs ob Q (G i)):Loc rs ob Q λob K=>DF o H λi=>G i ob K:=by
 unfold DF;split
 ·exact h _
 ·exact h _
 exact Loc.no
def dY {y:AV}{G:Nat->O D->O (C OB)->(AV->W->Prop)->Prop}(J :∀r∈y.refs,r∈rs)(h :∀n l,Loc rs ob Q (G n l)):Loc rs ob Q λob K=>WA ob y λn l=>G n l ob K:=by
 have H :∀{r},y.refs=[r]->r∈rs:=λe=>J _ (e▸List.mem_singleton_self _);cases y with
 | d x=>cases x with
  | su=>exact h _ _
  | nil=>exact h _ _
  | _=>exact Loc.no
 | own r n=>
  simp only[WA,VN];refine Loc.find (H rfl) λo=>?_;cases o with
  | row=>exact Loc.and λ_=>h _ _
  | _=>exact Loc.no
 | th r a n m=>
  simp only[WA,VN];refine Loc.find (H rfl) λo=>?_;cases o with
  | row=>exact Loc.and λ_=>Loc.ex λ_=>Loc.and λ_=>h _ _
  | _=>exact Loc.no
 | _=>exact Loc.no
def mG {y:AV}{k sz:Nat}{frz:FZ}{G:FZ->O (C OB)->(AV->W->Prop)->Prop}(V :∀r∈y.refs,r∈rs)(h :∀f,Loc rs ob Q (G f)):Loc rs ob Q λob K=>cQ ob y k sz frz λf=>G f ob K:=by
 unfold cQ;intro K J;split at J
 ·obtain⟨v,w,a,b,c⟩:=h _ K J;exact⟨v,w,a,b,c⟩
 split at J
 ·rename_i q n;have e :∀H,sU rs ob H->H.getD q none=ob.getD q none:=λH M=>by rw[Wq,Wq,M q (V q (by simp[AV.refs]))]
  split at J
  ·rename_i e0 Y ys i j q' m P;split at J
   ·rename_i U;obtain⟨v,w,a,b,c⟩:=h _ K J.2;exact⟨v,w,a,b,λH M K k=>by simp only[e H M,P,U];exact⟨J.1,c H M K k⟩⟩
   rename_i U;obtain⟨v,w,a,b,c⟩:=h _ K J;exact⟨v,w,a,b,λH M K k=>by simp only[e H M,P,U];exact c H M K k⟩
  rename_i Z;obtain⟨v,w,a,b,c⟩:=h _ K J;refine⟨v,w,a,b,λH M K k=>?_⟩;dsimp only;rw[e H M];split
  ·rename_i P;exact absurd P (Z _ _ _ _ _ _ _)
  exact c H M K k
 obtain⟨v,w,a,b,c⟩:=h _ K J;exact⟨v,w,a,b,c⟩
def QZ {r:Nat}{ρ:O Nat}{G:Nat->O Nat->O (C OB)->(AV->W->Prop)->Prop}(U:r∈rs)(J :∀x∈ρ,x∈rs)(h :∀i ρ',(∀x∈ρ',x∈rs)->Loc rs ob Q (G i ρ')):Loc rs ob Q λob K=>J3.refK r ρ λi ρ=>G i ρ ob K:=λK k=>by
 rcases lK r ρ 0 k with ⟨i,k,g⟩|⟨i,k,g⟩
 ·obtain⟨v,w,a,b,c⟩:=h i ρ J K k;exact⟨v,w,a,b,λH M P k=>g _ _ (c H M P k)⟩
 obtain⟨v,w,a,b,c⟩:=h i (ρ++[r]) (λx V=>(X23.1 V).elim (J x) λe=>X14.1 e▸U) K k;exact⟨v,w,a,b,λH M P k=>g _ _ (c H M P k)⟩
def YV :∀{J:O AV} {ρ:O Nat} {G:O AV->O Nat->O (C OB)->(AV->W->Prop)->Prop},(∀r∈AV.refs.refsL J,r∈rs)->(∀x∈ρ,x∈rs)->(∀c ρ',(∀x∈ρ',x∈rs)->Loc rs ob Q (G c ρ'))-> Loc rs ob Q λob K=>J3.capsK J ρ λc ρ=>G c ρ ob K
 | [],ρ,G,_,H,h=>h _ _ H
 | c::J,ρ,G,P,H,h=>by
  cases c with
  | ref r M=>exact QZ (G:=λi ρ ob K=>J3.capsK J ρ λc ρ=>G (.ref i M::c) ρ ob K) (P r (by simp[AV.refs.refsL,AV.refs])) H λi ρ H=>YV (λr U=>P r (by simp[AV.refs.refsL,U])) H λc ρ H=>h _ _ H
  | _=>exact Loc.no
def mh {s9:I}{a:AV}{ρ:O Nat}{G:AV->O Nat->W->O (C OB)->(AV->W->Prop)->Prop}(J :∀r∈a.refs,r∈rs)(H :∀x∈ρ,x∈rs)(h :∀a ρ w,(∀x∈ρ,x∈rs)->tp rs w->Loc rs ob Q (G a ρ w)) : Loc rs ob Q λob K=>J3 s9 ob a ρ λa ρ w=>G a ρ w ob K:=by
 have one :∀{r},a.refs=[r]->r∈rs:=λe=>J _ (e▸List.mem_singleton_self _);cases a with
 | d x=>
  simp only[J3,FY];split
  ·exact h _ _ _ H nofun
  exact h _ _ _ H nofun
 | own r n=>cases s9 with
  | true=>exact QZ (G:=λi ρ=>G (.own i n) ρ []) (one rfl) H λi ρ H=>h _ _ _ H nofun
  | false=>exact S8 (G:=λx w=>G (.d x) ρ w) J λx w M=>h _ _ _ H M
 | agg V=>exact S8 (G:=λx w=>G (.d x) ρ w) J λx w M=>h _ _ _ H M
 | ref r P=>exact QZ (G:=λi ρ=>G (.ref i P) ρ []) (one rfl) H λi ρ H=>h _ _ _ H nofun
 | mp r=>exact QZ (G:=λi ρ=>G (.mp i) ρ []) (one rfl) H λi ρ H=>h _ _ _ H nofun
 | it f r=>exact QZ (G:=λi ρ=>G (.it f i) ρ []) (one rfl) H λi ρ H=>h _ _ _ H nofun
 | sT V=>exact h _ _ _ H nofun
 | fn f U=>exact YV (G:=λc ρ=>G (.fn f c) ρ []) J H λc ρ H=>h _ _ _ H nofun
 | _=>exact Loc.no
def YU :∀{s9:O I} {H:O AV} {ρ:O Nat} {G:O AV->O Nat->W->O (C OB)->(AV->W->Prop)->Prop},(∀r∈AV.refs.refsL H,r∈rs)->(∀x∈ρ,x∈rs)->(∀a ρ w,(∀x∈ρ,x∈rs)->tp rs w->Loc rs ob Q (G a ρ w))-> Loc rs ob Q λob K=>QK s9 ob H ρ λa ρ w=>G a ρ w ob K
 | _,[],ρ,G,_,J,h=>h _ _ _ J nofun
 | s9,a::H,ρ,G,U,J,h=>mh (G:=λa ρ w ob K=>QK s9.tail ob H ρ λH ρ w'=>G (a::H) ρ (w++w') ob K) (λr M=>U r (by simp[AV.refs.refsL,M])) J λa ρ w J V=>
  YU (λr M=>U r (by simp[AV.refs.refsL,M])) J λH ρ w' J P=>h _ _ _ J λq Y=>(X23.1 Y).elim (V q) (P q)
def Yo :∀{ρ:O Nat} {G:O OB->O (C OB)->(AV->W->Prop)->Prop},(∀x∈ρ,x∈rs)->(∀l,Loc rs ob Q (G l))->Loc rs ob Q λob K=>G8 ob ρ λl=>G l ob K
 | [],G,_,h=>h []
 | r::ρ,G,H,h=>Loc.find (H r (by simp)) λo=>by
  have J:=λo:OB=>@Yo ρ (λl=>G (o::l)) (λx M=>H x (by simp[M])) λl=>h _;cases o with
  | box U=>simp only[I6];exact Loc.and λ_=>J _
  | row e sz P f=>exact Loc.only λ_=>J _
  | map k e P=>exact J _
  | _=>exact Loc.no
def YT {self:Nat}(M:self∈rs) :∀{ρ:O Nat} {gF:O OB} {G:W->O (C OB)->(AV->W->Prop)->Prop},(∀x∈ρ,x∈rs)->(∀w,tp rs w->Loc rs ob Q (G w))->Loc rs ob Q λob K=>JM ρ self gF λw=>G w ob K
 | [],[],G,_,h=>h [] nofun
 | [],[o],G,_,h=>by
  simp only[JM];split
  ·exact h _ λq J=>by simp only[X14] at J;exact J▸M
  exact Loc.no
 | r::ρ,o::os,G,H,h=>by
  simp only[JM];split
  ·exact YT M (G:=λw=>G ((r,o)::w)) (λx P=>H x (by simp[P])) λw U=>h _ λq J=>(Wp.1 J).elim (λe=>e▸H r (by simp)) (U q)
  exact Loc.no
 | [],_::_::_,G,_,_=>Loc.no
 | _::_,[],G,_,_=>Loc.no
def kf {cx:Cx}{f:Xcx}{self:Nat}{args:O AV}(hr:self∈rs)(hs :∀r∈AV.refs.refsL args,r∈rs)(hQ :∀v w,tp rs w->Q v w):Loc rs ob Q λob K=>Uz cx f self args ob K:=by
 simp only[Vt];unfold KG;refine YU (G:=λU P w ob K=>AS (KG.apartW w P) (G8 ob P λgF=>∃M H,cx.C f U gF M H/\(H.length=P.length\/ob[self]?=some none)/\Ln P self M λJ=>JM P self H λw'=>K J (w++w'))) hs nofun λa1 P w V hw=>Loc.only λ_=>?_;refine Yo V λgF=>Loc.ex λM=>Loc.ex λH=>Loc.and λ_=>?_;intro K k;obtain⟨h1,k⟩:=k
 obtain⟨v,w,a,b,c⟩:=(show Loc rs ob Q (λob K=>Ln P self M λJ=>JM P self H λw'=>K J (w++w')) by
  simp only[NB]
  exact Loc.ex λa=>Loc.and λ_=>YT hr (G:=λw' ob K=>K a (w++w')) V λw' Y=>Loc.ret (hQ _ _ λq hq=>(X23.1 hq).elim (hw q) (Y q))) K k
 exact⟨v,w,a,b,λZ ha K' k=>⟨h1.imp id λe=>(ha self hr).trans e,c Z ha K' k⟩⟩
def Yt {T:TT}{ty self:Nat}{x:AV}(H:self∈rs)(J :∀v w,tp rs w->Q v w):Loc rs ob Q λob K=>WP T ty self x ob K:=by
 unfold WP;split
 ·split
  ·rename_i e _;intro K k;split at k
   ·rename_i M;rw[AH] at k;exact⟨_,_,k.2,J _ _ λq V=>by simp only[X14] at V;exact V▸H,λP U Y q=>by simp only[U _ H,M];exact (AH _ _).2 ⟨k.1,q⟩⟩
   rename_i M;refine⟨_,_,k,J _ _ nofun,λP U Y q=>?_⟩;dsimp only;rw[U _ H];split
   ·rename_i Z;exact absurd Z M
   exact q
  exact Loc.no
 simp only[BH];exact Loc.ret (J _ _ nofun)
end
end Go.AX
end
section
namespace Go.AX
def Nv (np:Nat)(o:z)(av:Xaw->AV):O Nat:=
 (match VI o.op with
  | true=>[np+o.dst.getD 0]
  | false=>[])++(Pj o.op).flatMap λx=>(av x).refs
def mq {np:Nat}{o:z}{av:Xaw->AV}{x:Xaw}(F:x∈o.op.operands.toList)(H:Pj o.op=o.op.operands.toList) :∀r∈(av x).refs,r∈Nv np o av:=λ_ J=>
 List.mem_append_right _ (Xc5.2 ⟨x,H▸F,J⟩)
def ka {np:Nat}{o:z}{av:Xaw->AV}(h:VI o.op=true):np+o.dst.getD 0∈Nv np o av:=by unfold Nv;rw[h];simp
def KO {av av':Xaw->AV} :∀(l:O (Nat×Xaw)),(∀x∈l.map (·.2),av' x=av x)->(l.map λ(i,x)=>(i,av' x))=l.map λ(i,x)=>(i,av x)
 | [],_=>rfl
 | (i,x)::l,h=>by simp only[Xam,Wp,forall_eq_or_imp] at h⊢;rw[h.1,KO l h.2]
def R9 {F:O AV}{r:Nat}:r∈AV.refs.refsL F ↔∃a∈F,r∈a.refs:=by
 induction F with
 | nil=>simp[AV.refs.refsL]
 | cons a l H=>simp[AV.refs.refsL,H]
def QH {av:Xaw->AV}{r:Nat} :∀{l:O (Nat×Xaw)},r∈AV.refs.refsL ((l.map λ(i,x)=>(i,av x)).map (·.2))->∃x∈l.map (·.2),r∈(av x).refs
 | [],h=>by simp[AV.refs.refsL] at h
 | (i,x)::l,h=>by
  simp only[Xam,AV.refs.refsL,X23] at h;rcases h with h|h
  ·exact⟨x,by simp,h⟩
  obtain⟨y,F,h⟩:=QH h;exact⟨y,by simp only[Xam,Wp];exact .inr F,h⟩
def Nq {T:TT}{t:Nat}{a:AV} :∀r∈(Gw T t a).refs,r∈a.refs:=by
 intro r F;unfold Gw at F;split at F
 ·split at F
  ·simp[AV.refs] at F
  exact F
 exact F
def OS {T:TT}{av av':Xaw->AV} :∀(l:O Xaw) (ts:O Nat),(∀x∈l,av' x=av x)->F4 T av' l ts=F4 T av l ts
 | [],ts,_=>by simp[F4]
 | x::xs,[],h=>by simp only[F4];exact List.map_congr_left h
 | x::xs,t::ts,h=>by simp only[F4];rw[h x (by simp),OS xs ts λy F=>h y (by simp[F])]
def P6 {T:TT}{av:Xaw->AV}{a:AV} :∀{l:O Xaw} {ts:O Nat},a∈F4 T av l ts->∃x∈l,∀r∈a.refs,r∈(av x).refs
 | [],ts,h=>by simp[F4] at h
 | x::xs,[],h=>by simp only[F4] at h;obtain⟨y,F,rfl⟩:=Xa0.1 h;exact⟨y,F,λr H=>H⟩
 | x::xs,t::ts,h=>by
  simp only[F4,Wp] at h;rcases h with rfl|h
  ·exact⟨x,by simp,Nq⟩
  obtain⟨y,F,H⟩:=P6 h;exact⟨y,by simp[F],H⟩
def bD (np:Nat)(o:z)(av:Xaw->AV)(v:AV)(w:W):Prop:=
 (VI o.op=false->w=[])/\(jT o.op=true->v.uw=true->w=[])/\(∀x,xC o.op=some x->tp ((np+o.dst.getD 0)::(av x).refs) w)/\tp (Nv np o av) w
def QI {av av':Xaw->AV}{q:C Xaw}(h :∀x∈q.toArray.toList,av' x=av x):q.map av'=q.map av:=by
 cases q with
 | none=>rfl
 | some y=>simp only[Xbt];rw[h y (by simp)]
def ZY {cx:Cx}{o:z}{av av':Xaw->AV}{ob:O (C OB)}{K:AV->W->Prop}(h :∀x∈o.op.operands.toList,av' x=av x):sk cx o av' ob K=sk cx o av ob K:=by
 obtain⟨dst,op,Z,P,after,guard⟩:=o;cases op with
 | build t H=>simp only[sk,KO (av:=av) (av':=av') H.toList λx F=>h x (by simpa[Xb3] using F)]
 | buildSlice t l H=>simp only[sk,KO (av:=av) (av':=av') H.toList λx F=>h x (by simpa[Xb3] using F)]
 | makeFunc f first M=>cases f<;>simp only[sk,List.map_congr_left (f:=av') (g:=av) λx F=>h x (by simp only[Xb3,Array.toList_append,X23];exact .inr F)]
 | makeMap t r=>cases r<;>rfl
 | slice t x Q U mx=>
  have e:=h x (by simp[Xb3]);have e1:=QI (av:=av) (av':=av') (q:=Q) λy J=>h y (by simp only[Xb3,Array.toList_append,X23];exact .inl (.inl (.inr J)));have e2:=QI (av:=av) (av':=av') (q:=U) λy J=>h y (by simp only[Xb3,Array.toList_append,X23];exact .inl (.inr J));cases mx with
  | none=>simp only[sk,e,e1,e2]
  | some m=>simp only[sk,e,e1,e2,h m (by simp[Xb3])]
 | call c=>
  obtain⟨callee,args,V⟩:=c;have Y :∀x∈args.toList,av' x=av x:=λx F=>h x (by cases callee<;>simp[Xb3,Call.operands,F]);cases callee with
  | value x=>simp only[sk,h x (by simp[Xb3,Call.operands]),OS (av:=av) (av':=av') _ _ Y]
  | builtin b=>cases b<;>simp only[sk];all_goals (split<;>first|rfl|(simp_all;done))
  | invoke=>rfl
 | move x=>cases x<;>simp[Xb3] at h<;>simp[sk,h]
 | assign x=>cases x<;>simp[Xb3] at h<;>simp[sk,h]
 | _=>simp[Xb3] at h;simp[sk,h]
def tp.one {rs:O Nat}{r:Nat}{o:OB}(h:r∈rs):tp rs [(r,o)]:=λq F=>by simp only[X14] at F;exact F▸h
def tp.ua {rs:O Nat}{w w':W}(h:tp rs w)(k:tp rs w'):tp rs (w++w'):=λq F=>(X23.1 F).elim (h q) (k q)
def Q8 :∀(F:O D) (K:O AV->Prop),O1 (λc K=>K (AV.d c)) F K↔K (F.map .d)
 | [],K=>Iff.rfl
 | c::F,K=>Q8 F λl=>K (.d c::l)
def pS {cx:Cx}{o:Oper}{av:Xaw->AV}{ob:O (Option OB)}:Loc (Nv cx.np o av) ob (bD cx.np o av) λob K=>sk cx o av ob K:=by
 have q0 :∀v,bD cx.np o av v []:=λv=>⟨λ_=>rfl,λ_ _=>rfl,λ_ _=>nofun,nofun⟩;have qa:VI o.op=true->∀v w,(jT o.op=true->v.uw=true->w=[])->(∀x,xC o.op=some x->tp ((cx.np+o.dst.getD 0)::(av x).refs) w)->tp (Nv cx.np o av) w->bD cx.np o av v w:=λa v w c d h=>⟨λe=>by simp[a] at e,c,d,h⟩;have J:VI o.op=true->jT o.op=false->xC o.op=none->∀v w,tp (Nv cx.np o av) w->bD cx.np o av v w:=λa c b v w h=>qa a v w (λe=>by simp[c] at e) (λx e=>by simp[b] at e) h;have self:VI o.op=true->cx.np+o.dst.getD 0∈Nv cx.np o av:=ka;have F:Pj o.op=o.op.operands.toList->∀x∈o.op.operands.toList,∀r∈(av x).refs,r∈Nv cx.np o av:=λe x P r U=>mq P e r U;have a1 :∀z t,(∀r∈(av z).refs,r∈Nv cx.np o av)->∀r∈(Gw cx.T t (av z)).refs,r∈Nv cx.np o av:=λz t h r U=>h r (Nq r U);generalize Nv cx.np o av=rs at *;generalize bD cx.np o av=Q at *;obtain⟨dst,op,ty,aa,after,guard⟩:=o;have dA :∀r∈AV.dead.refs,r∈rs:=nofun;cases op;case move x=>cases x with
  | const v=>exact Yt (self rfl) (J rfl rfl rfl)
  | _=>simp only[sk,BH];exact Loc.ret (q0 _)
 case assign x=>cases x with
  | const v=>exact Yt (self rfl) (J rfl rfl rfl)
  | _=>simp only[sk,BH];exact Loc.ret (q0 _)
 case makeFunc f first H=>cases f<;>simp only[sk];repeat' first|exact Loc.no|exact Loc.ret (q0 _)|split
 case' pick c a b=>simp only[sk,dn,BH];generalize av c=C;generalize av a=A;generalize av b=B
 case' alloc t=>have V:=self rfl;replace J:=J rfl rfl rfl;simp only[sk]
 case' box t x=>have V:=self rfl;replace J:=J rfl rfl rfl;simp only[sk,GU]
 case' build t ps=>simp only[sk,Jc,GP]
 case' buildSlice t l ps=>
  have V:=self rfl;replace J:=J rfl rfl rfl;have hE :∀r∈AV.refs.refsL ((ps.toList.map λ(i,x)=>(i,av x)).map (·.2)),r∈rs:=λr U=>by obtain⟨x,P,U⟩:=QH U;exact F rfl x (by simpa[Xb3] using P) r U
  simp only[sk,ID,D7,KT,LM];generalize (ps.toList.map λ(i,x)=>(i,av x))=p at *
 case' load t x=>have M:=F rfl x (by simp[Xb3]);simp only[sk,ZE,U5,Lr,BH,GR,FT,GP];generalize av x=A at *
 case' store t a x=>replace J:=J rfl rfl rfl;have Z:=a1 x t (F rfl x (by simp[Xb3]));have M:=F rfl a (by simp[Xb3]);simp only[sk,Nc,Qv,Ha,GO,IR,GU,HH,FY];generalize Gw cx.T t (av x)=X at *;generalize av a=A at *
 case' nilCheck x=>simp only[sk]
 case' binOp op t x y yt=>simp only[sk,Ym,Yp];generalize av x=X;generalize av y=Y
 case' unOp op t x=>simp only[sk,xM]
 case' convert s d x=>have Z:=F rfl x (by simp[Xb3]);simp only[sk,ZN];generalize av x=X at *
 case' fieldAddr t x i=>have M:=F rfl x (by simp[Xb3]);simp only[sk,MJ,GR,FT];generalize av x=A at *
 case' field t x i=>simp only[sk,Tu,Ij,Yf,Q8,BH,GR,FT,GP];generalize av x=A
 case' indexAddr t x y=>have M:=F rfl x (by simp[Xb3]);simp only[sk,JC,I7,H5];generalize av x=A at *;generalize av y=Y
 case' index t x y=>simp only[sk,TR,Ij,Q8,BH];generalize av x=X;generalize av y=Y
 case' makeMap t r=>have V:=self rfl;replace J:=J rfl rfl rfl;cases r<;>simp only[sk]
 case' lookup t x y ok=>have M:=F rfl x (by simp[Xb3]);simp only[sk,Yr,gu,YS];generalize av x=A at *;generalize av y=Y
 case' mapUpdate t m k v=>replace J:=J rfl rfl rfl;have M:=F rfl m (by simp[Xb3]);have Z:=F rfl v (by simp[Xb3]);simp only[sk,MA,KW,ND];generalize av m=A at *;generalize av v=X at *;generalize av k=Y
 case' insert t m k v=>replace J:=J rfl rfl rfl;have M:=F rfl m (by simp[Xb3]);have Z:=F rfl v (by simp[Xb3]);simp only[sk,MA,KW,ND];generalize av m=A at *;generalize av v=X at *;generalize av k=Y
 case' slice t x lo hi mx=>have V:=self rfl;have qs :∀v w,v.uw=false->tp rs w->Q v w:=λv w c=>qa rfl v w (λ_ e=>by simp[c] at e) nofun;have P:=F rfl x (by simp[Xb3]);have M:=a1 x t P;cases mx<;>simp only[sk,XG,TW,NT,Xg,QV,Qy]
 case' slice.none=>generalize Gw cx.T _ (av _)=A at *
 case' slice.some=>replace M:=P;generalize av _=A at *
 case' makeSlice t n c=>have V:=self rfl;replace J:=J rfl rfl rfl;simp only[sk,ZM];generalize av n=X;generalize av c=Y
 case' extract x i=>simp only[sk,BH]
 case' call c=>obtain⟨callee,args,a8⟩:=c;have ha :∀z∈args.toList,∀r∈(av z).refs,r∈rs:=λz hz=>F rfl z (by cases callee<;>simp[Xb3,Call.operands,hz]);cases callee
 case' call.value x=>
  have V :∀H,(∀r∈AV.refs.refsL H,r∈rs)->∀r∈AV.refs.refsL (F4 cx.T av args.toList a8.toList++H),r∈rs:=λH hc r U=>by
   obtain⟨a,h,U⟩:=R9.1 U;rcases X23.1 h with h|h
   ·obtain⟨y,hy,h2⟩:=P6 h;exact ha y hy r (h2 r U)
   exact hc r (R9.2 ⟨a,h,U⟩)
  have P:=F rfl x (by simp[Xb3,Call.operands]);simp only[sk,x0];generalize av x=X at *;have hc :∀f H,(∀r∈AV.refs.refsL H,r∈rs)->Loc rs ob Q λob K=>Uz cx f (cx.np+dst.getD 0) (F4 cx.T av args.toList a8.toList++H) ob K:=λf H h=>kf (self rfl) (V H h) (J rfl rfl rfl)
 case' call.builtin b=>cases b
 case' call.builtin.append=>
  have V:=self rfl;simp only[sk];split
  ·rename_i x y t u a6 _;have P:=ha x (by rw[a6];simp);have Z:=a1 y t (ha y (by rw[a6];simp));have a7 :∀r∈(Gw cx.T t (av x)).refs,r∈(av x).refs:=Nq
   have q :∀v w,tp ((cx.np+dst.getD 0)::(av x).refs) w->Q v w:=λv w h=>qa rfl v w nofun (λz hz=>by
    simp only[xC,a6,X24] at hz
    exact hz▸h) λq hq=>(Wp.1 (h q hq)).elim (λe=>e▸V) (P _)
   have M :∀r∈(Gw cx.T t (av x)).refs,r∈rs:=λr U=>P r (a7 r U);simp only[O4,eS,nO,oV];generalize Gw cx.T t (av x)=A at *;generalize Gw cx.T t (av y)=X at *;generalize av y=Y at *;repeat' first
    | exact Loc.no
    | refine Loc.only λ_=>?_
    | refine Loc.uz V ?_
    | refine Loc.find (M _ (by simp[AV.refs])) λ_=>?_
    | refine Loc.and λ_=>?_
    | refine Loc.ex λ_=>?_
    | refine dY Z λ_ _=>?_
    | refine mG Z λ_=>?_
    | split
    | exact Loc.ret (q _ _ (tp.one (Xc1 ..)))
    | exact Loc.ret (q _ _ (tp.one (X19 _ (a7 _ (by simp[AV.refs])))))
    | exact Loc.ret (q _ _ (tp.ua (w:=[_]) (tp.one (X19 _ (a7 _ (by simp[AV.refs])))) (tp.one (Xc1 ..))))
  exact Loc.no
 case' call.builtin.len=>simp only[sk,gG]
 case' call.builtin.cap=>simp only[sk,mP]
 case' call.builtin.max=>simp only[sk,kV]
 case' call.builtin.min=>simp only[sk,jk]
 case' call.builtin.clear=>
  replace J:=J rfl rfl rfl;simp only[sk];split;rotate_left
  ·exact Loc.no
  rename_i x t P _;have M:=ha x (by rw[P];simp);simp only[UL];generalize av x=A at *
 case' call.builtin.copy=>
  replace J:=J rfl rfl rfl;simp only[sk];split;rotate_left
  ·exact Loc.no
  rename_i x y t u P _;have M:=ha x (by rw[P];simp);have Z:=ha y (by rw[P];simp);simp only[e7,ol];generalize av x=A at *;generalize av y=X at *
 all_goals repeat' first
  | exact Loc.no
  | refine Loc.only λ_=>?_
  | refine Loc.uz V ?_
  | refine Loc.find (M _ (by simp[AV.refs])) λ_=>?_
  | refine Loc.and λ_=>?_
  | refine Loc.ex λ_=>?_
  | refine Loc.or ?_ ?_
  | refine S8 Z λ_ _ _=>?_
  | refine S8 M λ_ _ _=>?_
  | refine S8 (by simpa[AV.refs.refsL] using hE) λ_ _ _=>?_
  | refine Ye hE λ_ _ _=>?_
  | refine dY Z λ_ _=>?_
  | refine ep λ_=>?_
  | refine nN λ_=>?_
  | exact hc _ _ (by first|exact P|simp[AV.refs.refsL])
  | exact Loc.ret (q0 _)
  | exact Loc.ret (J _ _ (tp.one V))
  | exact Loc.ret (J _ _ (tp.one (M _ (by simp[AV.refs]))))
  | exact Loc.ret (J _ _ (tp.ua (by assumption) (tp.one (M _ (by simp[AV.refs])))))
  | exact Loc.ret (J _ _ (tp.ua (by assumption) (tp.one V)))
  | exact Loc.ret (qs _ _ rfl (by assumption))
  | exact Loc.ret (qs _ _ rfl (tp.ua (w:=[_]) (tp.one (M _ (by simp[AV.refs]))) (tp.one V)))
  | split
  | (cases ‹I›<;>simp only[Hv])
def mK {cx:Cx}{o:z}{av:Xaw->AV}{ob:O (C OB)}{K:AV->W->Prop}(h:sk cx o av ob K) : ∃v w,K v w/\bD cx.np o av v w/\∀av' ob',(∀x∈o.op.operands.toList,av' x=av x)->sU (Nv cx.np o av) ob ob'->∀F:AV->W->Prop,F v w->sk cx o av' ob' F:=by obtain⟨v,w,a,b,c⟩:=pS K h;exact⟨v,w,a,b,λav' ob' H J F k=>ZY H▸c ob' J F k⟩
def ua (dst:C Nat)(v:AV)(w:W)(st:r9):r9:=⟨JS st.tm dst v,uo st.ob w⟩
def tS (F:Array z)(o:z)(st H:r9):Prop:=∀t∈o.looksAt F,H.tm.getD t .dead=st.tm.getD t .dead
structure ur (cx:Cx)(ops:Array Oper)(o:Oper)(st:r9)(e:List Nat×List Nat)(v:AV)(w:W):Prop where
 ee:e.1=P4 cx.np o st.tm
 wr :∀q∈w,q.1∈e.2
 sub :∀q∈w,q.1∈e.1
 go :∀st',tS ops o st st'->sU e.1 st.ob st'.ob->∀K:r9->Prop,K (ua o.dst v w st')->LI cx ops o st' K
def We {H:Array z}{o:z}{st F:r9}(h:tS H o st F) :∀x∈o.op.operands.toList,uc F.tm x=uc st.tm x:=by
 intro x J;cases x with
 | tmp t=>exact h t (List.mem_append_left _ (List.mem_filterMap.2 ⟨.tmp t,J,rfl⟩))
 | _=>rfl
def KH {α F:Type}{f g:α->O F} :∀{l:O α},(∀x∈l,f x=g x)->l.flatMap f=l.flatMap g
 | [],_=>rfl
 | x::l,h=>by simp only[Xac];rw[h x (by simp),KH λy H=>h y (by simp[H])]
def kE {np:Nat}{J:Array z}{o:z}{st F:r9}(h:tS J o st F):P4 np o F.tm=P4 np o st.tm:=by
 unfold P4;congr 1;refine KH λx H=>?_;have K:x∈o.op.operands.toList:=by
  unfold Pj at H;split at H;all_goals first
   | (simp at H;done)
   | exact H
 rw[We h x K]
def tS.trans {F:Array z}{o:z}{a b c:r9}(h:tS F o a b)(k:tS F o b c):tS F o a c:=λt H=>(k t H).trans (h t H)
def sU.trans {rs:O Nat}{a b c:O (C OB)}(h:sU rs a b)(k:sU rs b c):sU rs a c:=λt F=>(k t F).trans (h t F)
def tS.symm {F:Array z}{o:z}{a b:r9}(h:tS F o a b):tS F o b a:=λt H=>(h t H).symm
def sU.symm {rs:O Nat}{a b:O (C OB)}(h:sU rs a b):sU rs b a:=λt F=>(h t F).symm
def ur.move {cx:Cx}{F:Array z}{o:z}{st H:r9}{e:O Nat×O Nat}{v:AV}{w:W}(h:ur cx F o st e v w)(Q:tS F o st H)(U:sU e.1 st.ob H.ob):ur cx F o H e v w:=
 ⟨by rw[kE Q];exact h.ee,h.wr,h.sub,λJ M P K V=>h.go J (Q.trans M) (U.trans P) K V⟩
def Zt {tm:O AV}{t:Nat}{a:AV}(h:tm.getD t .dead=a):tm.set t a=tm:=by
 by_cases F:t<tm.length
 ·have:tm[t]=a:=by simpa[F] using h
  rw[<- this];exact List.set_getElem_self F
 exact List.set_eq_of_length_le (by omega)
def fg {J:Array z}{o:z}{tm:O AV}{sQ no:O AV->Prop}(h:Iq J o tm sQ no) : (sQ tm/\∀tm' F H,(∀t∈o.looksAt J,tm'.getD t .dead=tm.getD t .dead)->F tm'->Iq J o tm' F H) \/ (no tm/\∀tm' F H,(∀t∈o.looksAt J,tm'.getD t .dead=tm.getD t .dead)->H tm'->Iq J o tm' F H):=by
 unfold Iq at h⊢;cases hg:o.guard with
 | none=>simp only[hg] at h⊢;exact .inl ⟨h,λ_ _ _ _ M=>M⟩
 | some g=>
  obtain⟨j,U⟩:=g;simp only[hg] at h⊢;cases Y:(J[j]?).bind (·.dst) with
  | none=>simp only[Y] at h
  | some t=>
   simp only[Y] at h⊢;have P:t∈o.looksAt J:=List.mem_append_right _ (by rw[hg];simp[Y]);split at h
   ·rename_i b Q;have V :∀{tm':O AV},tm'.getD t .dead=tm.getD t .dead->tm'.set t (.b b)=tm':=λhq=>Zt (hq.trans Q);have Z:=V (tm':=tm) rfl;cases b<;>cases U<;>simp only[Hv,Eb] at h<;>rw[Z] at h
    ·exact .inl ⟨h,λtm' F H K M=>by rw[K t P,Q];simp only[Hv,Eb];rw[V (K t P)];exact M⟩
    ·exact .inr ⟨h,λtm' F H K M=>by rw[K t P,Q];simp only[Hv,Eb];rw[V (K t P)];exact M⟩
    ·exact .inr ⟨h,λtm' F H K M=>by rw[K t P,Q];simp only[Hv,Eb];rw[V (K t P)];exact M⟩
    exact .inl ⟨h,λtm' F H K M=>by rw[K t P,Q];simp only[Hv,Eb];rw[V (K t P)];exact M⟩
   ·rename_i vs Q;exact .inr ⟨h,λtm' F H K M=>by rw[K t P,Q];exact M⟩
   exact h.elim
def kg {cx:Cx}{M:Array z}{o:z}{st:r9}{K:r9->Prop}(h:LI cx M o st K) : ∃v w,K (ua o.dst v w st)/\ur cx M o st (P4 cx.np o st.tm,eU cx.np o st.tm (ua o.dst v w st).tm) v w:=by
 obtain⟨tm,ob⟩:=st;simp only[LI] at h;rcases fg h with ⟨h,hg⟩|⟨h,hg⟩
 ·obtain⟨v,w,h1,⟨h2,Y,Z,U⟩,h4⟩:=mK h;rw[G2,O5] at h1;refine⟨v,w,h1,rfl,λq F=>?_,U,λH V ha K hK=>?_⟩
  ·simp only[eU];split
   ·rename_i hs;split
    ·rename_i d hd;split
     ·rename_i e
      have:=Y hs (by
       simp only[ua,hd,JS,Wq] at e;by_cases P:d<tm.length
       ·rw[Xcm (by simpa using P)] at e;exact e
       rw[List.getElem?_eq_none (by simpa using P)] at e
       simp[AV.uw] at e)
      rw[this] at F;simp at F
     exact U q F
    exact U q F
   split
   ·split
    ·rename_i x hx;exact Z x hx q F
    exact U q F
   rename_i e;rw[h2 e] at F;simp at F
  obtain⟨J,Q⟩:=H;simp only[LI];refine hg J _ _ V (h4 _ Q (We V) ha _ ?_);rw[G2,O5];exact hK
 rw[G2] at h;refine⟨.sH [],[],h,rfl,λq F=>by simp at F,λq F=>by simp at F,λH V ha K hK=>?_⟩;obtain⟨J,Q⟩:=H;simp only[LI];refine hg J _ _ V ?_;rw[G2];exact hK
def vM (cx:Cx)(F:Array z)(f:Nat->O Nat×O Nat)(fin:r9):O Nat->r9->Prop
 | [],st=>st=fin
 | i::l,st=>∃o v w,F[i]?=some o/\ur cx F o st (f i) v w/\vM cx F f fin l (ua o.dst v w st)
structure rI (ops:Array Oper)(f:Nat->List Nat×List Nat)(j i:Nat):Prop where
 apart :∀a b,ops[j]?=some a->ops[i]?=some b->a.apart ops b=true
 tH:(∀r∈(f j).2,r∉(f i).1)/\∀r∈(f j).1,r∉(f i).2
def S4 {tm:O AV}{d:C Nat}{v:AV}{t:Nat}(h :∀x,d=some x->x≠t):(JS tm d v).getD t .dead=tm.getD t .dead:=by
 cases d with
 | none=>rfl
 | some x=>simp only[JS,Wq];rw[Xcf (h x rfl)]
def Np {r:Nat} :∀(w:W) (ob:O (C OB)),(∀q∈w,q.1≠r)->(uo ob w)[r]?=ob[r]?
 | [],ob,_=>rfl
 | (x,o)::w,ob,h=>by simp only[uo];rw[Np w _ λq F=>h q (by simp[F]),Xcf (h (x,o) (by simp))]
def MZ {r:Nat}{o:C OB} :∀(w:W) (ob:O (C OB)),(∀q∈w,q.1≠r)->uo (ob.set r o) w=(uo ob w).set r o
 | [],ob,_=>rfl
 | (x,y)::w,ob,h=>by simp only[uo];rw[List.set_comm _ _ (Ne.symm (h (x,y) (by simp))),MZ w _ λq F=>h q (by simp[F])]
def Vf :∀(w w':W) (ob:O (C OB)),(∀q∈w,∀H∈w',q.1≠H.1)->uo (uo ob w) w'=uo (uo ob w') w
 | [],w',ob,_=>rfl
 | (x,y)::w,w',ob,h=>by simp only[uo];rw[Vf w w' _ λq J H F=>h q (by simp[J]) H F,MZ w' ob λH F=>Ne.symm (h (x,y) (by simp) H F)]
def aN (tm:O AV){x y:C Nat}(v u:AV)(h :∀d,x=some d->y≠some d):JS (JS tm x v) y u=JS (JS tm y u) x v:=by
 cases x with
 | none=>rfl
 | some d=>
  cases y with
  | none=>rfl
  | some e=>have F:d≠e:=λH=>h d rfl (H▸rfl);simp only[JS];rw[List.set_comm _ _ F]
def Xv {cx:Cx}{F:Array z}{f:Nat->O Nat×O Nat}{fin:r9}{i:Nat}{post:O Nat} :∀(pre:O Nat) {st:r9},(∀j∈pre,rI F f j i)->vM cx F f fin (pre++i::post) st-> ∃o v w,F[i]?=some o/\ur cx F o st (f i) v w/\vM cx F f fin (pre++post) (ua o.dst v w st)
 | [],st,_,h=>h
 | j::pre,st,hf,h=>by
  obtain⟨a,M,J,ha,sa,h⟩:=h;obtain⟨b,K,H,hb,U,h⟩:=Xv pre (λk hk=>hf k (by simp[hk])) h;have Q:=hf j (by simp);obtain⟨p1,p2,p3⟩:=Oper.apart_spec (Q.apart a b ha hb);have lb:tS F b st (ua a.dst M J st):=λt V=>S4 λx Y e=>p1 x Y (e▸V);have ab:sU (f i).1 st.ob (ua a.dst M J st).ob:=λr Z=>Np J _ λq P e=>Q.tH.1 q.1 (sa.wr q P) (e▸Z);have a1:ur cx F b st (f i) K H:=U.move lb.symm ab.symm;have la:tS F a st (ua b.dst K H st):=λt V=>S4 λx Y e=>p3 x Y (e▸V);have aa:sU (f j).1 st.ob (ua b.dst K H st).ob:=λr Z=>Np H _ λq P e=>Q.tH.2 r Z (e▸U.wr q P);have a6:ur cx F a (ua b.dst K H st) (f j) M J:=sa.move la aa;refine⟨b,K,H,hb,a1,a,M,J,ha,a6,?_⟩;have he:ua a.dst M J (ua b.dst K H st)=ua b.dst K H (ua a.dst M J st):=by simp only[ua];rw[aN st.tm M K p2,Vf J H];intro q P q' a7 e;exact Q.tH.1 q.1 (sa.wr q P) (e▸U.sub q' a7)
  rw[he];exact h
end Go.AX
end
