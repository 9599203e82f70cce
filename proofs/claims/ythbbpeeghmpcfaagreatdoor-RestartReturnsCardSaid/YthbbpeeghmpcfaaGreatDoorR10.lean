/-
  Texts of one proof, packed.
-/
import Derived.Test.YthbbpeeghmpcfaaGreatDoorR9
import Derived.Deep.LoopGhost
import Derived.Scope
set_option linter.all false
set_option maxRecDepth 100000
set_option maxHeartbeats 4000000
open List renaming length_map→X1,length_append→X2,mem_singleton→X11,getElem?_eq_getElem→X12,length_drop→X14,length_take→X15,length_replicate→X17,length_set→X18,mem_append→X20
open Option.some renaming injEq→X21,inj→X22
open Prod.mk renaming injEq→X23
open Bool renaming and_eq_true→X24
open Nat renaming le_of_ble_eq_true→X26,eq_of_beq_eq_true→X27,mul_le_mul_right→X28,add_mul→X29
open List renaming range→Xbu
open Go renaming Operand→Xbq,execOp→Xce,undef→Xck,MapEntry→Xcq,Program→Xdn,maxLen→Xc7
open Nat renaming beq→Xal
open Go.Region renaming wanted→Xeh
section
namespace Go.AX
def zt (obl:O (C OB)):Nat->C OB:=λr=>obl.getD r none
structure R (E:Env)(st:wD)(a:Act)(w:World)(S:Sc)(φ:Nat->Option (Nat×Rp)):Prop where
 sz:a.tmps.size=st.tm.length
 tm :∀i (hi:i<st.tm.length),kI S w φ (zt st.ob) st.tm[i] (a.tmps.getD i undef)/\oA (zt st.ob) st.tm[i]
 df:a.defers=[]
 mem:Mem E w S φ (zt st.ob)
structure Trk where
 np:Nat
 φ0:Nat->Option (Nat×Rp)
 ob0:Nat->Option OB
def Trk.ok (tr:Trk)(φ:Nat->C (Nat×Rp))(ob:Nat->C OB):Prop:=∀r,r<tr.np->tr.ob0 r≠none->ob r≠none/\DS tr.φ0 tr.ob0 φ ob r
def RR (E:Env)(tr:Trk)(st:wD)(a:Act)(w:B):Prop:=∃S φ,R E st a w S φ/\tr.ok φ (zt st.ob)
def Trk.ok.kept {tr:Trk}{w w':B}{S S':Sc}{φ φ':Nat->C (Nat×Rp)}{ob ob':Nat->C OB}(h:tr.ok φ ob)(k:Kept w S φ ob w' S' φ' ob'):tr.ok φ' ob':=
 λr F H=>⟨k.c r (h r F H).1,(h r F H).2.trans (k.r r (h r F H).1)⟩
section
variable {P:Program} {E:Env} {tr:Trk} {w:B} {S:Sc} {φ:Nat->C (Nat×Rp)}
def R.av {st:wD}{a:Act}(h:R E st a w S φ)(x:Xbq):kI S w φ (zt st.ob) (Li st.tm x) (a.eval x)/\oA (zt st.ob) (Li st.tm x):=by
 cases x with
 | tmp t=>
  simp only[Li,Act.eval];by_cases F:t<st.tm.length
  ·have:=h.tm t F;have e:st.tm.getD t .dead=st.tm[t]:=by simp[F]
   rw[e];exact this
  have e:st.tm.getD t .dead=.dead:=by simp[Nat.le_of_not_lt F]
  rw[e];exact⟨.dead _,GT _⟩
 | const v=>
  simp only[Li,Act.eval];split
  ·rename_i K;exact⟨.d _ _ (.val v K),A0 _ _⟩
  exact⟨.dead _,GT _⟩
 | global g=>exact⟨.gl g,λr H=>by simp[Li,AV.refs] at H⟩
 | func f=>exact⟨.fn f [] #[] (λ_=>Xck) rfl (λi J=>by simp at J) (λi J=>by simp at J),λr H=>by simp[Li,AV.refs,AV.refs.refsL] at H⟩
def Mp:O (C OB)->W->O (C OB)
 | ob,[]=>ob
 | ob,(r,o)::w=>Mp (ob.set r (some o)) w
def R1 (ob:O (C OB))(wr:W)(K:O (C OB)->Prop):Sw ob wr K↔K (Mp ob wr):=by
 induction wr generalizing ob with
 | nil=>rfl
 | cons x wr F=>obtain⟨r,o⟩:=x;simp[Sw,Mp,FQ,F]
def fL (ob:O (C OB))(wr:W)(h :∀r o,(r,o)∈wr->r<ob.length):zt (Mp ob wr)=Af (zt ob) wr:=by
 induction wr generalizing ob with
 | nil=>rfl
 | cons x wr F=>obtain⟨r,o⟩:=x;simp only[Mp,Af];rw[F (ob.set r (some o)) λH J K=>by simpa using h H J (by simp[K])];congr 1;exact qn ob r o (h r o (by simp))
def K2 (tm:O AV)(dst:C Nat)(v:AV):O AV:=match dst with
 | some d=>tm.set d v
 | none=>tm
def IE (tm:O AV)(dst:C Nat)(v:AV)(K:O AV->Prop):NC tm dst v K↔K (K2 tm dst v):=by cases dst<;>simp[NC,K2,FQ]
def Lt (tm:O AV)(dst:C Nat)(v:AV):(K2 tm dst v).length=tm.length:=by cases dst<;>simp[K2]
def oM (tm:O AV)(dst:C Nat)(v:AV)(i:Nat)(F:i<tm.length):(K2 tm dst v)[i]?=some (if dst=some i then v else tm[i]):=by
 cases dst with
 | none=>simp[K2,F]
 | some d=>
  simp only[K2,List.getElem?_set,X21];by_cases h:d=i
  ·simp[h,F]
  simp[h,F]
def rK (a:Act)(dst:C Nat)(v:A)(i:Nat)(F:i<a.tmps.size):(a.put dst v).tmps.getD i Xck=if dst=some i then v else a.tmps.getD i Xck:=by
 cases dst with
 | none=>simp[Act.put]
 | some d=>
  simp only[Act.put,X21];by_cases h:d=i
  ·subst h;simp[F]
  simp[h,Array.getElem?_setIfInBounds_ne]
def R.put {st:wD}{a:Act}(h:R E st a w S φ){w':B}{S':Sc}{φ':Nat->C (Nat×Rp)}{ob':O (C OB)}{dst:C Nat}{F:AV}{v:A}(m:Mem E w' S' φ' (zt ob'))(k:Kept w S φ (zt st.ob) w' S' φ' (zt ob')) (K:kI S' w' φ' (zt ob') F v) (M:oA (zt ob') F):R E ⟨K2 st.tm dst F,ob'⟩ (a.put dst v) w' S' φ':=by
 refine⟨?_,λi H=>?_,?_,m⟩
 ·rw[Lt,<- h.sz];cases dst<;>simp[Act.put]
 ·simp only[Lt] at H;have e1:=oM st.tm dst F i H;have e2:=rK a dst v i (by rw[h.sz];exact H);have J:i<(K2 st.tm dst F).length:=by rw[Lt];exact H
  rw[X12 J] at e1;have e1:=X22 e1;simp only[e1,e2];split
  ·exact⟨K,M⟩
  exact⟨k.Ke (h.tm i H).2 (h.tm i H).1,k.closed (h.tm i H).2⟩
 rw[<- h.df];cases dst<;>rfl
def Lr {o:z}{a:Act}{Q:A->B->Prop}{next:Act->B->Prop}{H:Exit->Act->B->Prop}(h:z6 P o a.eval w Q)(F :∀v w',Q v w'->next (a.put o.dst v) w'):o.wp P a w next H:=by
 unfold Oper.wp;unfold z6 at h;generalize (Xce a.eval o).run P w=r at *;cases r with
 | ok x w'=>
  cases x<;>simp only[Oper.upon] at h⊢;case value v=>exact F _ _ h
  case skip=>exact F _ _ h
  case enter f args=>refine h.mono ?_;rintro e J ⟨v,rfl,K⟩;exact F _ _ K
  all_goals exact h.elim
 | halt x w'=>exact h.elim
def R.known {st:wD}{a:Act}(h:R E st a w S φ){t:Nat}{b c:I}(H:st.tm.getD t .dead=.b b)(K:b=c):R E ⟨st.tm.set t (.b c),st.ob⟩ a w S φ:=by
 subst K;have J:t<st.tm.length:=by refine Xbs λF=>?_;simp[F] at H
 have e:st.tm.set t (.b b)=st.tm:=by
  have:st.tm[t]=.b b:=by simpa[J] using H
  rw[<- this];exact List.set_getElem_self J
 rw[e];exact h
def OL {H:Array z}{o:z}{a:Act}{K:wD->Prop}{Q:Exit->Act->B->Prop}{next:Act->B->Prop}{st:wD}{Y:O AV->Prop} (Dd :∀tm:O AV,RR E tr ⟨tm,st.ob⟩ a w->Y tm->o.wp P a w next Q) (h:J5 H o st.tm Y (λtm=>NC tm o.dst (.Ca []) λtm=>K ⟨tm,st.ob⟩)) (J:RR E tr st a w) (hn :∀a8 a' w',K a8->RR E tr a8 a' w'->next a' w') : if Xeh o (yielded H a.tmps) then o.wp P a w next Q else next (a.put o.dst Xck) w:=by
 obtain⟨S,φ,J,aa⟩:=J;obtain⟨tm,ob⟩:=st;simp only at h Dd;have Dd :∀{tm:O AV},R E ⟨tm,ob⟩ a w S φ->Y tm->o.wp P a w next Q:=λJ h=>Dd _ ⟨S,φ,J,aa⟩ h
 have no :∀{tm:O AV},R E ⟨tm,ob⟩ a w S φ->NC tm o.dst (.Ca []) (λtm=>K ⟨tm,ob⟩)->next (a.put o.dst Xck) w:=by intro tm J h;rw[IE] at h;exact hn _ _ _ h ⟨S,φ,J.put J.mem (.refl _ _ _ _) (.Ca [] #[] (λ_=>Xck) rfl (λi hi=>by simp at hi) (λi hi=>by simp at hi)) (λr hr=>by simp[AV.refs,AV.refs.refsL] at hr),aa⟩
 unfold J5 at h;cases hg:o.guard with
 | none=>
  simp only[hg] at h;have hw:Xeh o (yielded H a.tmps)=true:=by unfold Xeh;rw[hg]
  simp only[hw,Xet];exact Dd J h
 | some g=>
  obtain⟨j,M⟩:=g;simp only[hg] at h;cases hd:(H[j]?).bind (·.dst) with
  | none=>simp[hd] at h
  | some t=>
   simp only[hd] at h;split at h
   ·rename_i b V;have U:=V;have ht:t<tm.length:=by refine Xbs λa6=>?_;simp[a6] at V
    have F:=(J.tm t ht).1;have e:tm.getD t .dead=tm[t]:=by simp[ht]
    rw[e] at V;simp only at F;rw[V] at F;have Z:=F.bool;have a7:t<a.tmps.size:=by rw[J.sz];exact ht
    have hy:yielded H a.tmps j=some b:=by
     unfold yielded;rw[hd];have:a.tmps[t]?=some (.bool b):=by simp[a7] at Z⊢;exact Z
     simp[this]
    have hw:Xeh o (yielded H a.tmps)=(b==M):=by unfold Xeh;rw[hg];simp only[hy];cases b<;>cases M<;>rfl
    simp only[hw];cases b<;>cases M<;>simp only[JC,FQ] at h<;>simp
    ·exact Dd (J.known U rfl) h
    ·exact no (J.known U rfl) h
    ·exact no (J.known U rfl) h
    exact Dd (J.known U rfl) h
   ·rename_i vs V;have ht:t<tm.length:=by refine Xbs λa6=>?_;simp[a6] at V
    have F:=(J.tm t ht).1;have e:tm.getD t .dead=tm[t]:=by simp[ht]
    rw[e] at V;simp only at F;rw[V] at F;have a7:t<a.tmps.size:=by rw[J.sz];exact ht
    have hy:yielded H a.tmps j=none:=by
     unfold yielded;rw[hd];generalize hv:a.tmps.getD t Xck=v at F;cases F with|Ca _ us _ _ _ _=>
     have:a.tmps[t]?=some (.tuple us):=by simp[a7] at hv⊢;exact hv
     simp[this]
    have hw:Xeh o (yielded H a.tmps)=false:=by unfold Xeh;rw[hg];simp only[hy];rfl
    simp only[hw];simpa using no J h
   exact h.elim
def ZY {M:Array z}{o:z}{F:(Xbq->AV)->O (C OB)->(AV->W->Prop)->Prop} (hF :∀{w:B} {S:Sc} {φ:Nat->C (Nat×Rp)} {obl:O (C OB)} {av:Xbq->AV} {ρ:Xbq->A} {K:AV->W->Prop} (_:Mem E w S φ (λr=>obl.getD r none)) (_ :∀x,kI S w φ (λr=>obl.getD r none) (av x) (ρ x)/\oA (λr=>obl.getD r none) (av x)) (_:F av obl K), ∃J wr,K J wr/\(∀r o,(r,o)∈wr->r<obl.length)/\z6 P o ρ w (zP E w S φ (λr=>obl.getD r none) J wr)) {st:wD} {a:Act} {K:wD->Prop} {Q:Exit->Act->B->Prop} (h:stepG M o F st K) (H:RR E tr st a w) {next:Act->B->Prop} (hn :∀U a' w',K U->RR E tr U a' w'->next a' w') : if Xeh o (yielded M a.tmps) then o.wp P a w next Q else next (a.put o.dst Xck) w:=by obtain⟨Z,ob⟩:=st;refine OL (Y:=λtm=>F (Li tm) ob (λv w=>NC tm o.dst v λtm=>Sw ob w λob=>K ⟨tm,ob⟩)) (λtm H h=>?_) (st:=⟨Z,ob⟩) h H hn;simp only at H;obtain⟨S,φ,H,a6⟩:=H;obtain⟨J,wr,hK,hr,V⟩:=hF H.mem (ρ:=a.eval) (λx=>H.av x) h;rw[IE,R1] at hK;refine Lr V λv w' hp=>hn _ _ _ hK ?_;obtain⟨S',φ',m',k',r',c'⟩:=hp;have e:=fL ob wr hr;exact⟨S',φ',H.put (ob':=Mp ob wr) (by rw[e];exact m') (by rw[e];exact k') (by rw[e];exact r') (by rw[e];exact c'),by simp only[e];exact a6.kept k'⟩
def Ud {cx:Cx}(V:xD P cx.T)(Y:Re E.wl P cx){H:Array z}{o:z}{st:wD}{a:Act}{K:wD->Prop}{Q:Exit->Act->B->Prop} (h:NV cx H o st K) (Z:RR E tr st a w) {next:Act->B->Prop} (hn :∀J U w',K J->RR E tr J U w'->next U w') : if Xeh o (yielded H a.tmps) then o.wp P a w next Q else next (a.put o.dst Xck) w:=
 ZY (F:=BT cx o) (λm M h=>GP V Y m M h) (show stepG H o (BT cx o) st K from h) Z hn
def Vy (F:Array z):(Xbu F.size).map (λi=>F[i]?)=F.toList.map some:=by
 apply List.ext_getElem
 ·simp
 intro i H J;simp at H;simp[H]
def fV (s H:wD) :∀{l F:O AV},T3 s H l F->l.length=F.length/\∀i (J:i<l.length) (hi':i<F.length),CF s H l[i] F[i]
 | [],[],_=>⟨rfl,λi J=>by simp at J⟩
 | a::l,K::F,h=>by
  have key:CF s H a K/\T3 s H l F:=by cases K<;>simp only[T3] at h<;>first|exact⟨.dead a,h⟩|exact h
  obtain⟨M,Q⟩:=fV s H key.2;refine⟨by simp[M],λi J hi'=>?_⟩;cases i with
  | zero=>exact key.1
  | succ i=>exact Q i (by simpa using J) (by simpa using hi')
 | [],_::_,h=>by simp[T3] at h
 | _::_,[],h=>by simp[T3] at h
def Uh (s J:wD) :∀{l F:O AV},Na s J l F->l.length=F.length/\∀i (H:i<l.length) (hi':i<F.length),F[i].one=true/\CF s J l[i] F[i]
 | [],[],_=>⟨rfl,λi H=>by simp at H⟩
 | a::l,Q::F,h=>by
  simp only[Na] at h;obtain⟨K,M⟩:=Uh s J h.2;refine⟨by simp[K],λi H hi'=>?_⟩;cases i with
  | zero=>exact h.1
  | succ i=>exact M i (by simpa using H) (by simpa using hi')
 | [],_::_,h=>by simp[Na] at h
 | _::_,[],h=>by simp[Na] at h
def gC (s J:wD) :∀{l K:O (C OB)},Ng s J l K->l.length=K.length/\∀r o',K.getD r none=some o'-> match o' with
   | .box M=>∃U,l.getD r none=some (.box U)/\Na s J U M
   | .row e sz es frz=>(∃f,l.getD r none=some (.row e sz es f)/\fzW es f frz)\/(l.getD r none=none/\es=[]/\0<sz)
   | .map k e es=>l.getD r none=some (.map k e es) \/∃H F n,l.getD r none=some (.zj k e es H F n)
   | .zj k e es H F n=>(∃V,l.getD r none=some (.zj k e es H F V)/\V=n)\/((l.getD r none=some (.map k e es) \/∃H F n,l.getD r none=some (.zj k e es H F n))/\(∃tk,BG tk (.val H) es=some none)/\n=0/\s.ob.getD F none=none/\∃Y sz f,J.ob.getD F none=some (.row Y sz [] f))
   | .gone=>l.getD r none=some .gone
 | [],[],_=>⟨rfl,λr o' h=>by simp at h⟩
 | o::l,x::K,h=>by
  have tail:Ng s J l K:=by
   cases x with
   | none=>simpa[Ng] using h
   | some q=>cases q<;>simp only[Ng] at h<;>exact h.2
  obtain⟨Z,h2⟩:=gC s J tail;refine⟨by simp[Z],λr o' Q=>?_⟩;cases r with
  | zero=>simp at Q;subst Q;cases o'<;>simp only[Ng] at h;all_goals simpa using h.1
  | succ r=>simpa using h2 r o' (by simpa using Q)
 | [],_::_,h=>by simp[Ng] at h
 | _::_,[],h=>by simp[Ng] at h
def Cv (i j r:Nat):sw i j (sw i j r)=r:=by
 unfold sw;cases h1:Xal r i with
 | true=>
  have:=X27 h1;simp only;cases F:Xal j i with
  | true=>have:=X27 F;simp only;omega
  | false=>simp only[Xe6];omega
 | false=>
  simp only;cases F:Xal r j with
  | true=>have:=X27 F;simp only[Xe6];omega
  | false=>simp only[h1,F]
def vE {i j r F:Nat}(h:sw i j r=sw i j F):r=F:=by rw[<- Cv i j r,h,Cv]
def wG {i j np r:Nat}(J:np<=i)(K:np<=j)(M:r<np):sw i j r=r:=by
 unfold sw;have F:Xal r i=false:=by
  cases h:Xal r i with
  | true=>have:=X27 h;omega
  | false=>rfl
 have H:Xal r j=false:=by
  cases h:Xal r j with
  | true=>have:=X27 h;omega
  | false=>rfl
 simp[F,H]
def Db (i j:Nat) :∀l:O AV,AV.sw.R4 i j l=l.map (AV.sw i j)
 | []=>rfl
 | a::l=>by simp[AV.sw.R4,Db i j l]
def lG (i j:Nat)(a:AV):(a.sw i j).one=a.one:=by cases a<;>rfl
def FZ.Cv (i j:Nat)(f:FZ):(f.sw i j).sw i j=f:=by cases f<;>simp[FZ.sw,Go.AX.Cv]
def kI.sw {S:Sc}{w:World}{φ:Nat->C (Nat×Rp)}{ob:Nat->C OB}(i j:Nat){a:AV}{v:A}(h:kI S w φ ob a v) : kI S w (λr=>φ (Go.AX.sw i j r)) (λr=>(ob (Go.AX.sw i j r)).map (OB.sw i j)) (a.sw i j) v:=by
 have row :∀{r e sz:Nat} {K:O D} {H:FZ},(ob (Go.AX.sw i j (Go.AX.sw i j r))).map (OB.sw i j)=some (.row e sz K H)->ob r=some (.row e sz K (H.sw i j)):=by
  intro r e sz K H F;rw[Go.AX.Cv] at F;cases Y:ob r with
  | none=>rw[Y] at F;simp at F
  | some o=>rw[Y] at F;cases o<;>simp[OB.sw] at F;obtain⟨rfl,rfl,rfl,rfl⟩:=F;rw[FZ.Cv]
 have box :∀{r:Nat} {U:O AV},(ob (Go.AX.sw i j (Go.AX.sw i j r))).map (OB.sw i j)=some (.box U)->∃J,ob r=some (.box J):=by
  intro r U F;rw[Cv] at F;cases Y:ob r with
  | none=>rw[Y] at F;simp at F
  | some o=>rw[Y] at F;cases o<;>simp[OB.sw] at F;exact⟨_,rfl⟩
 induction h with
 | d x v h=>exact .d x v h
 | agg U vs f Z hf hn _ ih=>
  refine .agg _ vs f (by simp[Db,Z]) (λk Q=>hf k (by simpa[Db] using Q)) (λk Q=>?_) λk Q=>?_
  ·simp only[Db,Xb6,lG];exact hn _ _
  simp only[Db,Xb6];exact ih _ _
 | Ca U vs f Z hf _ ih=>refine .Ca _ vs f (by simp[Db,Z]) (λk Q=>hf k (by simpa[Db] using Q)) λk Q=>?_;simp only[Db,Xb6];exact ih _ _
 | fn f U vs g Z hf _ ih=>refine .fn f _ vs g (by simp[Db,Z]) (λk Q=>hf k (by simpa[Db] using Q)) λk Q=>?_;simp only[Db,Xb6];exact ih _ _
 | ref r a6 b c h V=>exact .ref _ a6 b c (by simpa[Cv] using h) λe sz K H F=>V e sz K _ (row F)
 | DM U b o f hS hn h=>exact .DM U b o f hS hn h
 | own r n v k c a0 hv Q h V=>
  refine .own _ n v k c a0 hv Q (λe sz K H F=>?_) λU F=>?_
  ·obtain⟨g1,g2⟩:=h e sz K _ (row F);refine⟨g1,λhn=>?_⟩;have:=g2 hn;unfold JF at *;simpa[Cv] using this
  obtain⟨J,M⟩:=box F;simpa[Cv] using V J M
 | Bp r n a k v h V hp=>
  refine .Bp _ n a k v (λe sz K H F=>?_) (λU F=>?_) hp
  ·simpa[Cv] using h e sz K _ (row F)
  obtain⟨J,M⟩:=box F;simpa[Cv] using V J M
 | mp r b c h V hc=>refine .mp _ b c (by simpa[Cv] using h) (λe sz K H F=>V e sz K _ (row F)) λU F=>?_;obtain⟨J,M⟩:=box F;exact hc J M
 | it f r b c B h V hc hS hm=>refine .it f _ b c B (by simpa[Cv] using h) (λe sz K H F=>V e sz K _ (row F)) (λU F=>?_) hS hm;obtain⟨J,M⟩:=box F;exact hc J M
 | Fc r a n m v k c a0 hv Q h=>exact .Fc _ a n m v k c a0 hv Q λe sz K H F=>by simpa[Cv,JF] using h e sz K _ (row F)
 | gl g=>exact .gl g
 | gv g v hS hv=>exact .gv g v hS hv
 | dead v=>exact .dead v
def W9 (i j:Nat) :∀(a:AV) (r:Nat),r∈(a.sw i j).refs->Go.AX.sw i j r∈a.refs
 | .d x,r,h=>by simp[AV.sw,AV.refs] at h
 | .DM _,r,h=>by simp[AV.sw,AV.refs] at h
 | .dead,r,h=>by simp[AV.sw,AV.refs] at h
 | .gl _,r,h=>by simp[AV.sw,AV.refs] at h
 | .gv _,r,h=>by simp[AV.sw,AV.refs] at h
 | .ref q _,r,h=>by simp only[AV.sw,AV.refs,X11] at h⊢;rw[h,Cv]
 | .own q _,r,h=>by simp only[AV.sw,AV.refs,X11] at h⊢;rw[h,Cv]
 | .mp q,r,h=>by simp only[AV.sw,AV.refs,X11] at h⊢;rw[h,Cv]
 | .it _ q,r,h=>by simp only[AV.sw,AV.refs,X11] at h⊢;rw[h,Cv]
 | .Bp q _ _ _,r,h=>by simp only[AV.sw,AV.refs,X11] at h⊢;rw[h,Cv]
 | .Fc q _ _ _,r,h=>by simp only[AV.sw,AV.refs,X11] at h⊢;rw[h,Cv]
 | .agg F,r,h=>sw_refsL i j F r (by simpa only[AV.sw,AV.refs] using h)
 | .fn _ F,r,h=>sw_refsL i j F r (by simpa only[AV.sw,AV.refs] using h)
 | .Ca F,r,h=>sw_refsL i j F r (by simpa only[AV.sw,AV.refs] using h) where
 sw_refsL (i j:Nat) :∀(F:O AV) (r:Nat),r∈AV.refs.refsL (AV.sw.R4 i j F)->Go.AX.sw i j r∈AV.refs.refsL F
  | [],r,h=>by simp[AV.sw.R4,AV.refs.refsL] at h
  | a::l,r,h=>by simp only[AV.sw.R4,AV.refs.refsL,X20] at h⊢;exact h.imp (W9 i j a r) (sw_refsL i j l r)
def F1.sw {S:Sc}{w:B}{φ:Nat->C (Nat×Rp)}{ob:Nat->C OB}(i j:Nat){r:Nat}{o:OB}(h:F1 S w φ ob (Go.AX.sw i j r) o) : F1 S w (λr=>φ (Go.AX.sw i j r)) (λr=>(ob (Go.AX.sw i j r)).map (OB.sw i j)) r (o.sw i j):=by
 cases o with
 | box cs=>
  obtain⟨b,c,vs,e,f,H,J,K,Y,Z,U⟩:=h;refine⟨b,c,vs,e,f,H,J,by simp[Db,K],Y,λk hk=>Z k (by simpa[Db] using hk),λk hk=>?_⟩;have M:k<cs.length:=by simpa[Db] using hk
  simp only[Db,Xb6,lG];exact⟨(U k M).1,(U k M).2.sw i j⟩
 | row e sz es Q=>
  obtain⟨h0,H,J,K⟩:=h;refine⟨h0,H,J,K.imp id ?_⟩;rintro⟨b,a6,vs,f,f1,f2,f3,f4,f5,f6,f7,f8⟩;refine⟨b,a6,vs,f,f1,f2,f3,f4,f5,f6,f7,λo ho=>f8.1 o (by cases Q<;>exact ho),λi' j' q n V hi hj=>?_⟩;cases Q with
  | no=>simp[FZ.sw] at V
  | Dd=>simp[FZ.sw] at V
  | lk i2 j2 q2 n2=>simp only[FZ.sw,FZ.lk.injEq] at V;obtain⟨rfl,rfl,rfl,rfl⟩:=V;exact (f8.2 _ _ _ _ rfl hi hj).sw i j
 | map k e es=>exact h
 | zj k e es kv r' n=>obtain⟨b,c,arr,F,H,J,K,Y,Z,U⟩:=h;exact⟨b,c,arr,F,H,J,K,Y,Z,U.imp λv hv=>hv.sw i j⟩
 | gone=>trivial
def Uo (i j:Nat) :∀l:O (C OB),(PT i j l).length=l.length
 | []=>rfl
 | none::l=>by simp[PT,Uo i j l]
 | some o::l=>by simp[PT,Uo i j l]
def Jr (i j:Nat) :∀(l:O (C OB)) (r:Nat),(PT i j l).getD r none=(l.getD r none).map (OB.sw i j)
 | [],r=>by simp[PT]
 | none::l,0=>by simp[PT]
 | some o::l,0=>by simp[PT]
 | none::l,r+1=>by simpa[PT] using Jr i j l r
 | some o::l,r+1=>by simpa[PT] using Jr i j l r
def lz {i j:Nat}{s:wD}(M:i<s.ob.length)(Q:j<s.ob.length)(r:Nat):zt (HD i j s).ob r=(zt s.ob (sw i j r)).map (OB.sw i j):=by
 have K:=Uo i j s.ob;simp only[zt,HD];rw[Xa8,List.getElem?_set];unfold sw;by_cases F:j=r
 ·subst F;rw[Xa2 rfl,Xa2 (by simpa[K] using Q)];simp only[Xaz];cases h1:Xal j i with
  | true=>have:=X27 h1;subst this;rw[Jr]
  | false=>simp only[Xe6,Jr]
 rw[Xa1 F,List.getElem?_set];have H:Xal r j=false:=by
  cases h:Xal r j with
  | true=>exact absurd (X27 h).symm F
  | false=>rfl
 by_cases h1:i=r
 ·subst h1;rw[Xa2 rfl,Xa2 (by simpa[K] using M)];simp only[Xaz,Xe6,Jr]
 have J:Xal r i=false:=by
  cases h:Xal r i with
  | true=>exact absurd (X27 h).symm h1
  | false=>rfl
 rw[Xa1 h1];simp only[J,H];rw[<- Xa8,Jr]
def eC {i j:Nat}{s:wD}(hi:tr.np<=i)(hj:tr.np<=j)(a8:i<s.ob.length)(aa:j<s.ob.length){a:Act}(Y:RR E tr s a w):RR E tr (HD i j s) a w:=by
 obtain⟨S,φ,Y,ab⟩:=Y;have Q:zt (HD i j s).ob=λr=>(zt s.ob (sw i j r)).map (OB.sw i j):=funext λr=>lz a8 aa r;have m:=Y.mem;have U :∀{r:Nat},(zt s.ob (sw i j r)).map (OB.sw i j)≠none->zt s.ob (sw i j r)≠none:=λh he=>h (by rw[he];rfl);refine⟨S,λr=>φ (sw i j r),⟨by simp[HD,Db,Y.sz],λk hk=>?_,Y.df,?_⟩,λr hr h0=>?_⟩
 ·have ae:k<s.tm.length:=by simpa[HD,Db] using hk
  have e:(HD i j s).tm[k]=(s.tm[k]).sw i j:=by simp[HD,Db]
  rw[e,Q];obtain⟨Z,h2⟩:=Y.tm k ae;refine⟨Z.sw i j,λr hr=>?_⟩;have:=h2 _ (W9 i j _ r hr);simp only;cases F:zt s.ob (sw i j r) with
  | none=>exact absurd F this
  | some o=>simp
 ·rw[Q];refine⟨λr o F=>?_,λr r' b c c' Z h2 g1 g2=>?_,λr o F r' H=>?_,m.sS,m.kS,m.bS,m.nS,m.fr,m.sz,λr b c h g=>m.ow _ b c (U h) g,m.os⟩
  ·cases J:zt s.ob (sw i j r) with
   | none=>simp only[J] at F;simp at F
   | some o0=>simp only[J,Xcb,X21] at F;subst F;exact (m.obj _ _ J).sw i j
  ·exact vE (m.inj _ _ b c c' (U Z) (U h2) g1 g2)
  cases J:zt s.ob (sw i j r) with
  | none=>simp only[J] at F;simp at F
  | some o0=>
   simp only[J,Xcb,X21] at F;subst F;have:sw i j r'∈o0.refs:=by
    cases o0 with
    | box K=>exact W9.sw_refsL i j K r' (by simpa[OB.sw,OB.refs] using H)
    | row e2 aj ak f2=>
     cases f2 with
     | no=>simp[OB.sw,OB.refs,FZ.sw] at H
     | Dd=>simp[OB.sw,OB.refs,FZ.sw] at H
     | lk=>simp only[OB.sw,OB.refs,FZ.sw,FZ.Kb,X11] at H;simp only[OB.refs,FZ.Kb,X11];rw[H,Go.AX.Cv]
    | map=>simp[OB.sw,OB.refs] at H
    | zj k e es kv r2 n=>simp only[OB.sw,OB.refs,X11] at H;simp only[OB.refs,X11];rw[H,Cv]
    | gone=>simp[OB.sw,OB.refs] at H
   have:=m.GJ _ _ J _ this;cases af:zt s.ob (sw i j r') with
   | none=>exact absurd af this
   | some o=>simp
 obtain⟨Z,h2⟩:=ab r hr h0;rw[Q];have e:=wG hi hj hr
 refine⟨by simp only[e];cases F:zt s.ob r with
  | none=>exact absurd F Z
  | some o=>simp,?_⟩
 have hh:Ga ((zt s.ob r).map (OB.sw i j))=Ga (zt s.ob r):=by
  cases zt s.ob r with
  | none=>rfl
  | some o=>cases o<;>rfl
 have a6 :∀K,(zt s.ob r).map (OB.sw i j)=some (.box K)->∃V,zt s.ob r=some (.box V):=by
  intro K M;cases F:zt s.ob r with
  | none=>rw[F] at M;simp at M
  | some o=>rw[F] at M;cases o<;>simp[OB.sw] at M;exact⟨_,rfl⟩
 rcases h2 with ⟨a1,a2,a3⟩|⟨e',sz,es,ag,ah,a7,a1,a2,a3,a4⟩|⟨a1,a2,a3⟩
 ·exact .inl ⟨by simp only[e];exact a1,by simp only[e];exact hh.trans a2,λ⟨K,M⟩=>a3 (a6 K (by simpa only[e] using M))⟩
 ·exact .inr (.inl ⟨e',sz,es,ag,ah,a7.sw i j,a1,by simp only[e,a2];rfl,a3,λJ=>by simp only[e];exact a4 J⟩)
 refine .inr (.inr ⟨a1,by simp only[e];exact hh.trans a2,λK M=>?_⟩);obtain⟨V,ai⟩:=a6 K (by simpa only[e] using M);exact a3 V ai
def Zv {s Z:wD}(h:Weak0 tr.np s Z){a:Act}(hR:RR E tr s a w):RR E tr Z a w:=by
 obtain⟨S,φ,hR,ao⟩:=hR;obtain⟨al,ba,bb,ag⟩:=h;obtain⟨t1,t2⟩:=fV s Z ba;obtain⟨o1,o2⟩:=gC s Z bb;have m:=hR.mem;let S':Sc:=λb o=>S b o\/(∃r e sz Q f c,zt s.ob r=some (.row e sz Q f)/\φ r=some (b,c)/\o<c.2+Q.length*sz/\(zt Z.ob r=none\/zt Z.ob r=some (.row e sz Q .Dd))) \/
  ∃r cs c,zt s.ob r=some (.box cs)/\φ r=some (b,c)/\o<cs.length/\zt Z.ob r=none
 let φ':Nat->C (Nat×Rp):=λr=>match zt s.ob r with
  | none=>none
  | some _=>φ r
 have ae :∀{r},zt s.ob r≠none->φ' r=φ r:=by
  intro r hr;simp only[φ'];cases hq:zt s.ob r with
  | none=>exact absurd hq hr
  | some q=>rfl
 have hS:PQ S w S' w:=λb o h=>⟨.inl h,rfl⟩;have ah :∀{r b c},zt s.ob r≠none->zt Z.ob r≠none->φ r=some (b,c)->∀o,S' b o->S b o \/∃e sz Q f,zt s.ob r=some (.row e sz Q f)/\o<c.2+Q.length*sz/\(zt Z.ob r=none\/zt Z.ob r=some (.row e sz Q .Dd)):=by
  intro r b c Y bc h2 o ho;rcases ho with ho|⟨r',e,sz,Q,f,c',K,g2,g3,g4⟩|⟨r',cs,c',K,g2,g3,g4⟩
  ·exact .inl ho
  ·have:=m.inj r' r b c' c (by rw[K];simp) Y g2 h2;subst this;rw[g2] at h2;simp only[X21,X23,true_and] at h2;subst h2;exact .inr ⟨e,sz,Q,f,K,g3,g4⟩
  have:=m.inj r' r b c' c (by rw[K];simp) Y g2 h2;subst this;exact absurd g4 bc
 have an :∀r∈AV.refs.refsL Z.tm,zt Z.ob r≠none:=by intro r hr;simp only[PC,X24,Xa6] at ag;have:=ag.1 r hr;intro h;simp only[zt] at h;rw[h] at this;simp at this
 have ab :∀r o,zt Z.ob r=some o->∀r'∈o.refs,zt Z.ob r'≠none:=by
  intro r o ho r' M;simp only[PC,X24,Xa6] at ag;have au:some o∈Z.ob:=by
   have ax:=Cb Z.ob r o ho;have:Z.ob[r]=some o:=by
    have h2:Z.ob.getD r none=Z.ob[r]:=by simp[ax]
    rw[<- h2];exact ho
   rw[<- this];exact Xad ax
  have:=ag.2 (some o) au;simp only[Xa6] at this;have:=this r' M;intro h;simp only[zt] at h;rw[h] at this;simp at this
 have aa :∀r,zt s.ob r≠none->zt Z.ob r≠none->DS φ (zt s.ob) φ' (zt Z.ob) r:=by
  intro r Y h2;refine .inl ⟨ae Y,?_,?_⟩
  ·cases hq:zt Z.ob r with
   | none=>exact absurd hq h2
   | some q=>
    have:=o2 r q hq;cases q with
    | box a7=>obtain⟨cs,K,_⟩:=this;have F:zt s.ob r=some (.box cs):=K;rw[F];rfl
    | map k e Q=>
     rcases this with K|⟨kv,r2,n2,K⟩
     ·have F:zt s.ob r=some (.map k e Q):=K;rw[F]
     have F:zt s.ob r=some (.zj k e Q kv r2 n2):=K;rw[F];rfl
    | zj k e Q kv r2 n2=>
     rcases this with ⟨n3,K,_⟩|⟨K|⟨_,_,_,K⟩,_⟩
     ·have F:zt s.ob r=some (.zj k e Q kv r2 n3):=K;rw[F];rfl
     ·have F:zt s.ob r=some (.map k e Q):=K;rw[F];rfl
     have F:zt s.ob r=some (.zj k e Q _ _ _):=K;rw[F];rfl
    | gone=>have F:zt s.ob r=some .gone:=this;rw[F]
    | row e sz Q bd=>
     rcases this with ⟨f,K,_⟩|⟨K,_⟩
     ·have F:zt s.ob r=some (.row e sz Q f):=K;rw[F];rfl
     exact absurd K Y
  rintro⟨a7,hc⟩;obtain⟨cs,K,_⟩:=o2 r _ hc;exact⟨cs,K⟩
 have fr :∀{r e sz:Nat} {f:FZ},s.ob.getD r none=none->Z.ob.getD r none=some (.row e sz [] f)->kI S' w φ' (zt Z.ob) (.own r 0) (.slice none 0 0):=by
  intro r e sz f h h';have ay:zt Z.ob r=some (.row e sz [] f):=h';refine .own r 0 _ 0 0 none rfl rfl (λe' ai aj f' hx=>?_) λcs hx=>?_
  ·rw[ay] at hx;simp only[X21,OB.row.injEq] at hx;obtain⟨rfl,rfl,rfl,rfl⟩:=hx;refine⟨Xak _,λ_=>.inl ⟨?_,rfl,_,rfl⟩⟩;have h0:zt s.ob r=none:=h;simp only[φ',h0]
  rw[ay] at hx;simp at hx
 have Ke :∀{x x':AV} {v:A},CF s Z x x'->kI S w φ (zt s.ob) x v->oA (zt s.ob) x->(∀r∈x'.refs,zt Z.ob r≠none)->kI S' w φ' (zt Z.ob) x' v:=by
  intro x x' v hw;induction hw generalizing v with
  | lstB r cs ys sz h h' zx hl hp ak hn ih=>
   intro V hc U;cases V with|own _ _ _ k c a0 V hk Y hb=>
   have hq:zt s.ob r=some (.box cs):=h;obtain⟨_,b,c',f1,rfl⟩:=hb cs hq;obtain⟨b',c2,vs,e,f,q1,q2,q3,q4,q5,q6⟩:=m.obj r _ hq;rw[q1] at f1;simp only[X21,X23] at f1;obtain⟨rfl,rfl⟩:=f1;subst zx;refine .d _ _ (.Cg cs.length [.agg ys] b' 0 1 (λ_ j=>f j) (by simp[Xc7]) (Xak _) (λi J=>?_) (λi j J hj=>⟨.inr (.inr ⟨r,cs,c2,hq,q1,?_,h'⟩),?_⟩) (λi J j hj=>?_) λi J j hj=>?_)
   ·have:i=0:=by simpa using J
    subst this;simpa[D.cells] using hl
   ·have:i=0:=by simpa using J
    subst this;omega
   ·have:i=0:=by simpa using J
    subst this;rw[BB q2];simpa using q5 j hj
   ·have:i=0:=by simpa using J
    subst this;exact hn j (by simpa[D.cells] using hj)
   have:i=0:=by simpa using J
   subst this;have be:j<ys.length:=by simpa[D.cells] using hj
   have:=ih j (by omega) be (q6 j (by omega)).2 (λr' M=>m.GJ r _ hq r' (by simpa[OB.refs] using AV.z8 cs j (by omega) r' M)) (λr' M=>by simp[AV.refs] at M);cases this with|d _ _ this=>exact this
  | refl=>intro V hc U;exact V.mono hS λr hr=>aa r (hc r hr) (U r hr)
  | dead=>intro V hc U;exact .dead _
  | ownL r n n' hn=>intro V hc U;subst hn;exact V.mono hS λr hr=>aa r (hc r hr) (U r hr)
  | Fc r a n m m' hm=>intro V hc U;subst hm;exact V.mono hS λr hr=>aa r (hc r hr) (U r hr)
  | norm x=>intro V hc U;cases V with|d _ _ V=>exact .d _ _ (V.norm.mono hS)
  | Cg r n e sz Q f h hn h'=>
   intro V hc U;cases V with|own _ _ _ k c a0 V hk Y hb=>
   have hq:zt s.ob r=some (.row e sz Q f):=h;obtain⟨g0,K,g2,g3⟩:=m.obj r _ hq;rcases (Y e sz Q f hq).2 hn with ⟨a1,a2,_,rfl⟩|⟨b,ap,a1,rfl⟩
   ·have:Q=[]:=Xag (by omega);subst this;exact .d _ _ (.zZ sz _ _)
   rcases g3 with ⟨b1,_⟩|⟨b',a6,vs,g,f1,f2,f3,f4,f5,f6,f7,f8⟩
   ·rw[b1] at a1;simp at a1
   rw[f1] at a1;simp only[X21,X23] at a1;obtain⟨rfl,rfl⟩:=a1;rw[hn];refine .d _ _ (.Cg sz Q b' a6.2 a6.1 g (Xay f3 f4) f3 K (λi j J hj=>⟨.inr (.inl ⟨r,e,sz,Q,f,a6,hq,f1,?_,h'⟩),?_⟩) g2 λi J j hj=>(f7 i J j hj).mono hS)
   ·have:(i+1)*sz<=Q.length*sz:=X28 _ J;rw[X29] at this;omega
   rw[BB f2,Xc5];exact f6 i j J hj
  | oslD r a n m0 e sz Q zs f h hm hz h'=>
   intro V hc U;cases V with|Fc _ _ _ _ _ k c a0 V hk Y=>
   have hq:zt s.ob r=some (.row e sz Q f):=h;obtain⟨g0,K,g2,g3⟩:=m.obj r _ hq;obtain⟨a1,a2,_⟩:=(Y e sz Q f hq).2 hm;rcases a2 with a2|⟨b,ap,c',a2,a3,a4⟩
   ·have:zs=[]:=by rw[<- hz,a2];simp
    subst this;rw[V,hk,a2];exact .d _ _ (.zZ sz _ _)
   rcases g3 with ⟨b1,_⟩|⟨b',a6,vs,g,f1,f2,f3,f4,f5,f6,f7,f8⟩
   ·rw[b1] at a2;simp at a2
   rw[f1] at a2;simp only[X21,X23] at a2;obtain⟨rfl,rfl⟩:=a2;have az:zs.length=n:=by rw[<- hz];simp;omega
   have af :∀i (J:i<zs.length),zs[i]=Q[a+i]'(by omega):=by intro i J;subst hz;simp
   rw[a3];have key:=zf.Cg (S:=S') (w:=w) sz zs b' (a6.2+a*sz) c' (λi j=>g (a+i) j) (by omega) (by omega) (λi J=>by rw[af i J];exact K _ _) (λi j J hj=>⟨.inr (.inl ⟨r,e,sz,Q,f,a6,hq,f1,?_,h'⟩),?_⟩) (λi J j hj=>?_) λi J j hj=>?_
   ·rw[az] at key;exact .d _ _ key
   ·have:(a+i+1)*sz<=Q.length*sz:=X28 _ (by omega);rw[X29,X29] at this;omega
   ·rw[BB f2];have e2:a6.2+a*sz+i*sz+j=a6.2+((a+i)*sz+j):=by rw[X29];omega
    rw[e2];exact f6 (a+i) j (by omega) hj
   ·have:=af i J;simp only[this] at hj⊢;exact g2 (a+i) (by omega) j hj
   have:=af i J;simp only[this] at hj⊢;exact (f7 (a+i) (by omega) j hj).mono hS
  | fresh r e sz h h'=>
   intro V hc U;cases V with|d _ _ V=>
   cases V with|nil=>exact fr h h'
  | Ca cs a7 hl ak ih=>
   intro V hc U;cases V with|Ca _ vs f hs hf hr=>
   exact .Ca a7 vs f (by omega) (λi J=>hf i (by omega)) λi J=>ih i (by omega) J (hr i (by omega)) (λr M=>hc r (by simpa[AV.refs] using AV.z8 cs i (by omega) r M)) λr M=>U r (by simpa[AV.refs] using AV.z8 a7 i J r M)
  | agg cs a7 hl ak hn ih=>
   intro V hc U;cases V with|agg _ vs f hs hf _ hr=>
   exact .agg a7 vs f (by omega) (λi J=>hf i (by omega)) hn λi J=>ih i (by omega) J (hr i (by omega)) (λr M=>hc r (by simpa[AV.refs] using AV.z8 cs i (by omega) r M)) λr M=>U r (by simpa[AV.refs] using AV.z8 a7 i J r M)
  | aggD cs ys hl ak hn ih=>
   intro V hc U;cases V with|agg _ vs f hs hf _ hr=>
   refine .d _ _ (.agg ys vs f (by omega) (λi J=>hf i (by omega)) hn λi J=>?_);have:=ih i (by omega) J (hr i (by omega)) (λr M=>hc r (by simpa[AV.refs] using AV.z8 cs i (by omega) r M)) (λr M=>by simp[AV.refs] at M);cases this with|d _ _ this=>exact this
  | dagg ds a7 hl ak hn ih=>
   intro V hc U;cases V with|d _ _ V=>
   cases V with|agg _ vs f hs hf _ hr=>
   exact .agg a7 vs f (by omega) (λi J=>hf i (by omega)) hn λi J=>ih i (by omega) J (.d _ _ (hr i (by omega))) (λr M=>by simp[AV.refs] at M) λr M=>U r (by simpa[AV.refs] using AV.z8 a7 i J r M)
 refine⟨S',φ',⟨by rw[hR.sz,t1],λi J=>?_,hR.df,⟨?_,?_,ab,λb o h=>.inl (m.sS b o h),m.kS,?_,?_,m.fr,m.sz,?_,m.os⟩⟩,λr hr h0=>?_⟩
 ·have aq:i<s.tm.length:=by omega
  refine⟨Ke (t2 i aq J) (hR.tm i aq).1 (hR.tm i aq).2 λr hr=>an r (AV.z8 Z.tm i J r hr),λr hr=>an r (AV.z8 Z.tm i J r hr)⟩
 ·intro r o' a8;have hw:=o2 r o' a8;cases o' with
  | gone=>trivial
  | box a7=>
   obtain⟨cs,K,g2⟩:=hw;have F:zt s.ob r=some (.box cs):=K;obtain⟨c1,c2⟩:=Uh s Z g2;obtain⟨b,c,vs,e,f,Y,h2,h3,h4,h5,h6⟩:=m.obj r _ F;refine⟨b,c,vs,e,f,(ae (by rw[F];simp)).trans Y,h2,by omega,λo ho=>?_,λj hj=>h5 j (by omega),λj hj=>⟨(c2 j (by omega) hj).1,?_⟩⟩
   ·rcases ah (r:=r) (by rw[F];simp) (by rw[a8];simp) Y o ho with h|⟨e',ai,aj,f',q,_⟩
    ·exact h4 o h
    rw[F] at q;simp at q
   exact Ke (c2 j (by omega) hj).2 (h6 j (by omega)).2 (λr' M=>m.GJ r _ F r' (by simpa[OB.refs] using AV.z8 cs j (by omega) r' M)) λr' M=>ab r _ a8 r' (by simpa[OB.refs] using AV.z8 a7 j hj r' M)
  | map k e Q=>
   obtain⟨o0,F,ar,b,c,arr,H,Y,h2,h3,h4,h5⟩ :∃o0,zt s.ob r=some o0/\Ga (some o0)=none/\∃b c arr H,φ r=some (b,c)/\w.heap[b]?=some (.map arr H)/\(arr.size=Q.length/\Cu arr H)/\(∀o,¬ S b o)/\
     ∀i (J:i<Q.length),∃x:Xcq,arr[i]?=some x/\(∃u,Q[i].1=.val u/\x.key=u/\u.oneCell'=true)/\zf S w Q[i].2 x.val:=by
    rcases hw with K|⟨kv,r2,n2,K⟩
    ·exact⟨_,K,rfl,m.obj r _ K⟩
    obtain⟨b,c,arr,H,Y,h2,h3,h4,h5,_⟩:=m.obj r _ K;exact⟨_,K,rfl,b,c,arr,H,Y,h2,h3,h4,h5⟩
   refine⟨b,c,arr,H,(ae (by rw[F];simp)).trans Y,h2,h3,λo ho=>?_,λi J=>?_⟩
   ·rcases ah (r:=r) (by rw[F];simp) (by rw[a8];simp) Y o ho with h|⟨e',ai,aj,f',q,_⟩
    ·exact h4 o h
    rw[F] at q;obtain rfl:=X22 q;simp[Ga] at ar
   obtain⟨x,q1,q2,q3⟩:=h5 i J;exact⟨x,q1,q2,q3.mono hS⟩
  | zj k e Q kv r2 n2=>
   obtain⟨o0,F,ar,b,c,arr,H,Y,h2,h3,h4,h5,h6⟩ :∃o0,zt s.ob r=some o0/\Ga (some o0)=none/\∃b c arr H,φ r=some (b,c)/\w.heap[b]?=some (.map arr H)/\(arr.size=Q.length/\Cu arr H)/\(∀o,¬ S b o)/\
     (∀i (J:i<Q.length),∃x:Xcq,arr[i]?=some x/\(∃u,Q[i].1=.val u/\x.key=u/\u.oneCell'=true)/\zf S w Q[i].2 x.val)/\Ev kv (kI S' w φ' (zt Z.ob) (.own r2 n2)) arr.toList:=by
    rcases hw with ⟨n3,K,rfl⟩|⟨K|⟨bf,r0,n0,K⟩,⟨tk,g2⟩,rfl,g3,e',sz,f,g4⟩
    ·obtain⟨b,c,arr,H,Y,h2,h3,h4,h5,h6⟩:=m.obj r _ K;refine⟨_,K,rfl,b,c,arr,H,Y,h2,h3,h4,h5,h6.imp λv V=>V.mono hS λq hq=>?_⟩;simp only[AV.refs,X11] at hq;subst hq;exact aa q (m.GJ r _ K q (by simp[OB.refs])) (ab r _ a8 q (by simp[OB.refs]))
    ·obtain⟨b,c,arr,H,Y,h2,h3,h4,h5⟩:=m.obj r _ K;exact⟨_,K,rfl,b,c,arr,H,Y,h2,h3,h4,h5,J7 (J8 _ _) Q arr.toList ⟨by simpa using h3.1,λi J=>by simpa using h5 i J⟩ g2 (fr g3 g4)⟩
    obtain⟨b,c,arr,H,Y,h2,h3,h4,h5,_⟩:=m.obj r _ K;exact⟨_,K,rfl,b,c,arr,H,Y,h2,h3,h4,h5,J7 (J8 _ _) Q arr.toList ⟨by simpa using h3.1,λi J=>by simpa using h5 i J⟩ g2 (fr g3 g4)⟩
   refine⟨b,c,arr,H,(ae (by rw[F];simp)).trans Y,h2,h3,λo ho=>?_,λi J=>?_,h6⟩
   ·rcases ah (r:=r) (by rw[F];simp) (by rw[a8];simp) Y o ho with h|⟨e',ai,aj,f',q,_⟩
    ·exact h4 o h
    rw[F] at q;obtain rfl:=X22 q;simp[Ga] at ar
   obtain⟨x,q1,q2,q3⟩:=h5 i J;exact⟨x,q1,q2,q3.mono hS⟩
  | row e sz Q bd=>
   rcases hw with ⟨f,K,g2⟩|⟨K,rfl,g2⟩
   ·have F:zt s.ob r=some (.row e sz Q f):=K;obtain⟨h0,Y,h2,h3⟩:=m.obj r _ F;refine⟨h0,Y,h2,h3.imp (λq=>⟨(ae (by rw[F];simp)).trans q.1,q.2⟩) ?_⟩;rintro⟨b,ap,vs,g,f1,f2,f3,f4,f5,f6,f7,f8⟩;refine⟨b,ap,vs,g,(ae (by rw[F];simp)).trans f1,f2,f3,f4,f5,f6,λi J j hj=>(f7 i J j hj).mono hS,λo ho hs=>?_,λi j q n hq J hj=>?_⟩;rotate_left
    ·have h5:=g2.2;rw[hq] at h5;rcases h5 with h5|⟨i',n',h5,rfl,rfl⟩
     ·omega
     refine (f8.2 i' j q n' h5 J hj).mono hS λr' M=>?_;simp only[AV.refs,X11] at M;subst M;exact aa r' (m.GJ r _ F r' (by simp[OB.refs,h5])) (ab r _ a8 r' (by simp[OB.refs,hq]))
    rcases ah (r:=r) (by rw[F];simp) (by rw[a8];simp) f1 o hs with h|⟨e',ai,aj,f',q,q2,q3⟩
    ·refine f8.1 o ?_ h;cases f with
     | no=>simp
     | lk=>simp
     | Dd=>rw[g2.1 rfl] at ho;exact ho
    rw[F] at q;simp only[X21,OB.row.injEq] at q;obtain⟨rfl,rfl,rfl,rfl⟩:=q;rcases q3 with q3|q3
    ·rw[a8] at q3;simp at q3
    rw[a8] at q3;simp only[X21,OB.row.injEq] at q3;rw[q3.2.2.2] at ho;simp only[FZ.Hd,Xet] at ho;omega
   refine⟨g2,λi J=>by simp at J,λi J=>by simp at J,.inl ⟨?_,rfl⟩⟩;have F:zt s.ob r=none:=K;simp only[φ',F]
 ·intro r1 r2 b c c' Y h2 K g2;have q :∀{r:Nat} {x:Nat×Rp},φ' r=some x->zt s.ob r≠none/\φ r=some x:=by
   intro r x h;simp only[φ'] at h;cases hq:zt s.ob r with
   | none=>simp[hq] at h
   | some q=>simp only[hq] at h;exact⟨by simp,h⟩
  obtain⟨a1,a2⟩:=q K;obtain⟨b1,b2⟩:=q g2;exact m.inj r1 r2 b c c' a1 b1 a2 b2
 ·intro b o h;rcases h with h|⟨r,e,sz,Q,f,c,K,g2,_⟩|⟨r,cs,c,K,g2,_⟩
  ·exact m.bS b o h
  ·exact (m.ow r b c (by rw[K];simp) g2).1
  exact (m.ow r b c (by rw[K];simp) g2).1
 ·intro b o h Y h2;rcases h with h|⟨r,e,sz,Q,f,c,K,g2,_⟩|⟨r,cs,c,K,g2,_⟩
  ·exact m.nS b o h Y h2
  ·rcases (m.ow r b c (by rw[K];simp) g2).2 with g|g
   ·omega
   exact absurd g h2
  rcases (m.ow r b c (by rw[K];simp) g2).2 with g|g
  ·omega
  exact absurd g h2
 ·intro r b c h g;simp only[φ'] at g;cases hq:zt s.ob r with
  | none=>simp[hq] at g
  | some q=>simp only[hq] at g;exact m.ow r b c (by rw[hq];simp) g
 have Y:zt Z.ob r≠none:=by
  simp only[Xa6,Xe3] at al;have:=al r hr;intro h;simp only[zt] at h;rw[h] at this;have hq:=(ao r hr h0).1;simp only[zt] at hq;cases hz:s.ob.getD r none with
  | none=>exact hq hz
  | some z=>rw[hz] at this;simp at this
 exact⟨Y,(ao r hr h0).2.trans (aa r (ao r hr h0).1 Y)⟩
def NW {np:Nat}{s J:wD}(h:zU np s J)(F:np=tr.np){a:Act}(K:RR E tr s a w):RR E tr J a w:=by
 induction h with
 | mk M Q U V=>exact Zv ⟨F▸M,Q,U,V⟩ K
 | swap i j Y Z H _ ih=>simp only[X24] at H;exact ih (eC (F▸X26 Y) (F▸X26 Z) (X26 H.1) (X26 H.2) K)
def AE.Se:AE->Exit
 | .normal=>.normal
 | .exit id=>.exit id
 | .ret=>.ret
def Xq (wl:WL)(P:Xdn)(cx:Cx):Prop:=∀(E:Env),E.wl=wl->∀(tr:Trk) (id:Nat) (F:Array z) (st:wD) (a:Act) (w:B) (K:wD->Prop) (Q:Exit->Act->B->Prop),tr.np=cx.np->
 (lN cx F st K\/dG cx F st K)->RR E tr st a w->(∀H J w',K H->RR E tr H J w'->Q .normal J w')->(Code.region id F true).wp P Q a w
def I1 {np:Nat}(M:tr.np=np){X:(wD->Prop)->Prop}{K:wD->Prop}{c:Prop}(h:HR np X K) (U :∀V:wD->Prop,X V->(∀(F:wD) (H:Act) (w':B),V F->RR E tr F H w'->∃st,K st/\RR E tr st H w')->c):c:=by
 rcases h with h|⟨J,Y,Z⟩
 ·exact U K h λst H w' hK Q=>⟨st,hK,Q⟩
 refine U _ Y λst H w' ⟨s,hw,hJ⟩ Q=>⟨s,Z s hJ,?_⟩;rw[<- M] at hw;exact NW hw rfl Q
def Qn {cx:Cx}(hT:xD P cx.T)(hC:Re E.wl P cx)(a7:tr.np=cx.np){M:Array z}{o:z}{st:wD}{a:Act}{K:wD->Prop}{Q:Exit->Act->B->Prop} (h:fA cx M o st K) (F:RR E tr st a w) {next:Act->B->Prop} (hn :∀U a' w',K U->RR E tr U a' w'->next a' w') : if Xeh o (yielded M a.tmps) then o.wp P a w next Q else next (a.put o.dst Xck) w:=by
 have plain :∀{tm:O AV} {ob:O (C OB)},RR E tr ⟨tm,ob⟩ a w->opX cx o (Li tm) ob (λv w=>NC tm o.dst v λtm=>Sw ob w λob=>K ⟨tm,ob⟩)->o.wp P a w next Q:=by intro tm ob ⟨S,φ,F,J⟩ h;obtain⟨ae,wr,V,hr,Z⟩:=jf hT hC F.mem (ρ:=a.eval) (λx=>F.av x) h;rw[IE,R1] at V;refine Lr Z λv w' hp=>hn _ _ _ V ?_;obtain⟨S',φ',m',k',r',c'⟩:=hp;have e:=fL ob wr hr;exact⟨S',φ',F.put (ob':=Mp ob wr) (by rw[e];exact m') (by rw[e];exact k') (by rw[e];exact r') (by rw[e];exact c'),by simp only[e];exact J.kept k'⟩
 obtain⟨a8,ob⟩:=st;refine OL (Y:=λtm=>vH cx o tm ob K) (λtm F h=>?_) (st:=⟨a8,ob⟩) h F hn;simp only at F;unfold vH at h;split at h
 ·rename_i c aa;split at h
  ·rename_i x a6;obtain⟨f,ab,h,hf⟩:=Xw h;split at h
   ·obtain⟨callee,args,argTypes⟩:=c;simp only at a6;subst a6;refine I1 (E:=E) a7 h λK' hX hw=>?_;obtain⟨S,φ,F,J⟩:=F;have hg:=hC.2.2 _ _ _ _ hX;refine Lr (YT (w:=w) (S:=S) (φ:=φ) (obl:=ob) (cx:=cx) (λx=>F.av x) aa hf (Q:=λv w'=>∃S' φ' r ob',NC tm o.dst r (λtm=>K' ⟨tm,ob'⟩)/\Mem E w' S' φ' (λr=>ob'.getD r none)/\Kept w S φ (λr=>ob.getD r none) w' S' φ' (λr=>ob'.getD r none)/\ kI S' w' φ' (λr=>ob'.getD r none) r v/\oA (λr=>ob'.getD r none) r) λH hv=>hg.elim (λ⟨g1,g2⟩=>.inl ⟨g1,g2 E rfl w S φ H hv F.mem⟩) λg=>.inr (g E rfl w S φ H hv F.mem)) λv w' ⟨S',φ',r,ob',V,m',k',r',c'⟩=>?_;rw[IE] at V;obtain⟨st,h1,h2⟩:=hw _ _ _ V ⟨S',φ',F.put (ob':=ob') m' k' r' c',J.kept k'⟩;exact hn _ _ _ h1 h2
   exact plain F h
  exact plain F h
 exact plain F h
def Qh {cx:Cx}(hT:xD P cx.T)(hC:Re E.wl P cx)(M:tr.np=cx.np){F:Array z}{Q:Exit->Act->B->Prop} :∀(l:O Nat) (os:O z) (_:l.map (λi=>F[i]?)=os.map some) {st:wD} {a:Act} {w:B} {K:wD->Prop} (_:ln cx F os st K) (_:RR E tr st a w) (_ :∀J U w',K J->RR E tr J U w'->Q .normal U w'),wpOps P F Q l a w
 | [],[],_,st,a,w,K,h,V,Y=>Y st a w h V
 | i::l,o::os,H,st,a,w,K,h,V,Y=>by
  simp only[Xbk,Xdo] at H;obtain⟨hi,H⟩:=H;rw[wpOps_cons];unfold wpOp;simp only[hi];simp only[ln] at h;have:=Qn (Q:=Q) hT hC M h V (next:=wpOps P F Q l) λJ U w' hK Z=>Qh hT hC M l os H hK Z Y;split
  ·rename_i hw;rw[Xa2 hw] at this;exact .inl this
  rename_i hw;rw[Xa1 hw] at this;exact this
 | [],_::_,H,_,_,_,_,_,_,_=>by simp at H
 | _::_,[],H,_,_,_,_,_,_,_=>by simp at H
def Q9 {cx:Cx}(hT:xD P cx.T)(hC:Re E.wl P cx)(hD:Xq E.wl P cx)(V:tr.np=cx.np)(c:Code) : ∀{st:wD} {a:Act} {w:B} {K:AE->wD->Prop} {Q:Exit->Act->B->Prop},G5 cx c K st->RR E tr st a w->(∀e J a' w',K e J->RR E tr J a' w'->Q e.Se a' w')->c.wp P Q a w:=by
 induction c with
 | skip=>intro st a w K Q h U H;exact wp_skip (H .normal _ _ _ h U)
 | region id Y ae=>
  intro st a w K Q h U H;cases ae with
  | false=>
   have h:uP cx Y st (K .normal):=h;unfold uP at h;split at h
   ·refine I1 (E:=E) V h λK' hX hw=>wp_region (Qh hT hC V (Xbu Y.size) Y.toList (Vy Y) hX U λJ a' w' M F=>?_);obtain⟨s,h1,h2⟩:=hw _ _ _ M F;exact H .normal _ _ _ h1 h2
   exact wp_region (Qh hT hC V (Xbu Y.size) Y.toList (Vy Y) h U λJ a' w' M F=>H .normal _ _ _ M F)
  | true=>
   simp only[G5] at h;split at h
   ·refine I1 (E:=E) V h λK' hX hw=>hD E rfl tr id Y st a w _ Q V hX U λJ a' w' M F=>?_;obtain⟨s,h1,h2⟩:=hw _ _ _ M F;exact H .normal _ _ _ h1 h2
   exact hD E rfl tr id Y st a w _ Q V h U λJ a' w' M F=>H .normal _ _ _ M F
 | seq x y a8 aa=>
  intro st a w K Q h U H;simp only[G5] at h;refine wp_seq (a8 h U λe J a' w' M F=>?_);cases e with
  | normal=>exact aa M F H
  | exit id=>exact H _ _ _ _ M F
  | ret=>exact H _ _ _ _ M F
 | cond c x y a8 aa=>
  intro st a w K Q h U H;simp only[G5] at h;obtain⟨S,φ,a6,a7⟩:=U;split at h
  ·rename_i b hb;have Z:=(a6.av c).1;rw[hb] at Z;have hv:=Z.bool;refine I1 (E:=E) V h λK' hX hw=>?_;have af :∀e J a' w',onN K K' e J->RR E tr J a' w'->Q e.Se a' w':=by
    intro e J a' w' M F;cases e with
    | normal=>obtain⟨s,h1,h2⟩:=hw _ _ _ M F;exact H .normal _ _ _ h1 h2
    | exit id=>exact H _ _ _ _ M F
    | ret=>exact H _ _ _ _ M F
   refine wp_cond hv ?_;cases b with
   | true=>exact a8 hX ⟨S,φ,a6,a7⟩ af
   | false=>exact aa hX ⟨S,φ,a6,a7⟩ af
  exact h.elim
 | block id b ih=>
  intro st a w K Q h U H;simp only[G5] at h;refine I1 (E:=E) V h λK' hX hw=>?_;refine wp_block (ih hX U λe J a' w' M F=>?_);cases e with
  | normal=>obtain⟨s,h1,h2⟩:=hw _ _ _ M F;exact H .normal _ _ _ h1 h2
  | ret=>exact H .ret _ _ _ M F
  | exit i=>
   simp only[onB] at M;simp only[AE.Se,Exit.inBlock];by_cases hi:i=id
   ·rw[Xa2 hi];rw[BS.2 hi] at M;obtain⟨s,h1,h2⟩:=hw _ _ _ M F;exact H .normal _ _ _ h1 h2
   rw[Xa1 hi];have:Xal i id=false:=by
    cases hb:Xal i id with
    | false=>rfl
    | true=>exact absurd (BS.1 hb) hi
   rw[this] at M;exact H (.exit i) _ _ _ M F
 | loop b ih=>
  intro st a w K Q h U H;have h:Ka cx.np (G5 cx b) K st:=h;obtain⟨h⟩:=h
  obtain⟨I,⟨s,n,hw,hI⟩,ab⟩:=h (by
   intro t sz es he;obtain⟨S,φ,a6,a7⟩:=U;have Z:=(a6.av (.tmp t)).1;simp only[Li] at Z;rw[he] at Z;generalize a.eval (.tmp t)=v at Z;cases Z with|d _ _ Z=>
   cases Z with
   | zZ=>simp
   | Cg _ _ _ _ _ _ hl=>exact hl) (by
   intro r e sz es f he;obtain⟨S,φ,a6,a7⟩:=U;obtain⟨_,_,_,h⟩:=a6.mem.obj r _ he;rcases h with ⟨_,rfl⟩|⟨b,ah,vs,g,_,_,f3,f4,_⟩
   ·simp
   exact Xay f3 f4)
  rw[<- V] at hw;refine wp_loop_ghost (λn a w=>∃s,I s n/\RR E tr s a w) n ⟨s,hI,NW hw rfl U⟩ ?_;rintro n a w ⟨s,hI,U⟩;refine ih (ab s n hI) U λe J a' w' M F=>?_;cases e with
  | normal=>obtain⟨s',m,hm,hw,ag⟩:=M;rw[<- V] at hw;exact⟨m,hm,s',ag,NW hw rfl F⟩
  | exit id=>exact H _ _ _ _ M F
  | ret=>exact H _ _ _ _ M F
 | exit id=>intro st a w K Q h U H;exact wp_exit (H (.exit id) _ _ _ h U)
 | ret=>intro st a w K Q h U H;exact wp_ret (H .ret _ _ _ h U)
 | rangeFunc=>intro st a w K Q h;simp[G5] at h
 | scope b ih=>intro st a w K Q h U H;have h:G5 cx b K st:=h;exact wp_scope_straight (ih h U λe J a' w' M F=>by cases e<;>exact H _ _ _ _ M F)
 | label l=>intro st a w K Q h U H;exact wp_label (H .normal _ _ _ h U)
 | goto=>intro st a w K Q h;simp[G5] at h
 | refuse=>intro st a w K Q h;simp[G5] at h
end
end Go.AX
end
