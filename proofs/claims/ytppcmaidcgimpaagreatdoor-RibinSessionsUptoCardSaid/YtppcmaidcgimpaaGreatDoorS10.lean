/-
  Texts of one proof, packed.
-/
import Derived.Test.YtppcmaidcgimpaaGreatDoorS9
import Derived.Deep.LoopGhost
set_option linter.all false
set_option maxRecDepth 100000
set_option maxHeartbeats 4000000
open List renaming length_map→X6,length_append→X10,mem_singleton→X13,getElem?_eq_getElem→X14,length_drop→X16,length_take→X17,length_replicate→X19,length_set→X20,mem_append→X22
open Option.some renaming injEq→X23,inj→X24
open Prod.mk renaming injEq→X25
open Bool renaming and_eq_true→X26
open Nat renaming le_of_ble_eq_true→X28,eq_of_beq_eq_true→X29,mul_le_mul_right→X30,add_mul→X31
open List renaming range→Xb2
open Go renaming Operand→Xau,maxLen→Xb6,execOp→Xbi,undef→Xbn,MapEntry→Xbr,Program→Xcn
open Nat renaming beq→Xa0
open Go.Region renaming wanted→Xd6
section
namespace Go.AX
def qw (obl:I (O OB)):Nat->O OB:=λr=>obl.getD r none
structure R (E:Env)(st:pw)(a:Act)(w:World)(S:Sc)(φ:Nat->Option (Nat×Rp)):Prop where
 sz:a.tmps.size=st.tm.length
 tm :∀i (hi:i<st.tm.length),gM S w φ (qw st.ob) st.tm[i] (a.tmps.getD i undef)/\gN (qw st.ob) st.tm[i]
 df:a.defers=[]
 mem:Mem E w S φ (qw st.ob)
structure Trk where
 np:Nat
 φ0:Nat->Option (Nat×Rp)
 wU:Nat->Option OB
def Trk.ok (tr:Trk)(φ:Nat->O (Nat×Rp))(ob:Nat->O OB):Prop:=∀r,r<tr.np->tr.wU r≠none->ob r≠none/\rA tr.φ0 tr.wU φ ob r
def RR (E:Env)(tr:Trk)(st:pw)(a:Act)(w:B):Prop:=∃S φ,R E st a w S φ/\tr.ok φ (qw st.ob)
def Trk.ok.kept {tr:Trk}{w w':B}{S S':Sc}{φ φ':Nat->O (Nat×Rp)}{ob ob':Nat->O OB}(h:tr.ok φ ob)(k:Kept w S φ ob w' S' φ' ob'):tr.ok φ' ob':=
 λr F H=>⟨k.c r (h r F H).1,(h r F H).2.trans (k.r r (h r F H).1)⟩
section
variable {P:Program} {E:Env} {tr:Trk} {w:B} {S:Sc} {φ:Nat->O (Nat×Rp)}
def R.av {st:pw}{a:Act}(h:R E st a w S φ)(x:Xau):gM S w φ (qw st.ob) (sJ st.tm x) (a.eval x)/\gN (qw st.ob) (sJ st.tm x):=by
 cases x with
 | tmp t=>
  simp only[sJ,Act.eval];by_cases F:t<st.tm.length
  ·have:=h.tm t F;have e:st.tm.getD t .dead=st.tm[t]:=by simp[F]
   rw[e];exact this
  have e:st.tm.getD t .dead=.dead:=by simp[Nat.le_of_not_lt F]
  rw[e];exact⟨.dead _,FT _⟩
 | const v=>
  simp only[sJ,Act.eval];split
  ·rename_i K;exact⟨.d _ _ (.val v K),A5 _ _⟩
  exact⟨.dead _,FT _⟩
 | global g=>exact⟨.gl g,λr H=>by simp[sJ,AV.refs] at H⟩
 | func f=>exact⟨.fn f [] #[] (λ_=>Xbn) rfl (λi J=>by simp at J) (λi J=>by simp at J),λr H=>by simp[sJ,AV.refs,AV.refs.refsL] at H⟩
def sU:I (O OB)->W->I (O OB)
 | ob,[]=>ob
 | ob,(r,o)::w=>sU (ob.set r (some o)) w
def QX (ob:I (O OB))(wr:W)(K:I (O OB)->Prop):tY ob wr K↔K (sU ob wr):=by
 induction wr generalizing ob with
 | nil=>rfl
 | cons x wr F=>obtain⟨r,o⟩:=x;simp[tY,sU,Eu,F]
def Y6 (ob:I (O OB))(wr:W)(h :∀r o,(r,o)∈wr->r<ob.length):qw (sU ob wr)=Ak (qw ob) wr:=by
 induction wr generalizing ob with
 | nil=>rfl
 | cons x wr F=>obtain⟨r,o⟩:=x;simp only[sU,Ak];rw[F (ob.set r (some o)) λH J K=>by simpa using h H J (by simp[K])];congr 1;exact jR ob r o (h r o (by simp))
def KD (tm:I AV)(dst:O Nat)(v:AV):I AV:=match dst with
 | some d=>tm.set d v
 | none=>tm
def HF (tm:I AV)(dst:O Nat)(v:AV)(K:I AV->Prop):MI tm dst v K↔K (KD tm dst v):=by cases dst<;>simp[MI,KD,Eu]
def LH (tm:I AV)(dst:O Nat)(v:AV):(KD tm dst v).length=tm.length:=by cases dst<;>simp[KD]
def gR (tm:I AV)(dst:O Nat)(v:AV)(i:Nat)(F:i<tm.length):(KD tm dst v)[i]?=some (if dst=some i then v else tm[i]):=by
 cases dst with
 | none=>simp[KD,F]
 | some d=>
  simp only[KD,List.getElem?_set,X23];by_cases h:d=i
  ·simp[h,F]
  simp[h,F]
def je (a:Act)(dst:O Nat)(v:A)(i:Nat)(F:i<a.tmps.size):(a.put dst v).tmps.getD i Xbn=if dst=some i then v else a.tmps.getD i Xbn:=by
 cases dst with
 | none=>simp[Act.put]
 | some d=>
  simp only[Act.put,X23];by_cases h:d=i
  ·subst h;simp[F]
  simp[h,Array.getElem?_setIfInBounds_ne]
def R.put {st:pw}{a:Act}(h:R E st a w S φ){w':B}{S':Sc}{φ':Nat->O (Nat×Rp)}{ob':I (O OB)}{dst:O Nat}{out:AV}{v:A}(m:Mem E w' S' φ' (qw ob'))(k:Kept w S φ (qw st.ob) w' S' φ' (qw ob')) (J:gM S' w' φ' (qw ob') out v) (K:gN (qw ob') out):R E ⟨KD st.tm dst out,ob'⟩ (a.put dst v) w' S' φ':=by
 refine⟨?_,λi F=>?_,?_,m⟩
 ·rw[LH,<- h.sz];cases dst<;>simp[Act.put]
 ·simp only[LH] at F;have e1:=gR st.tm dst out i F;have e2:=je a dst v i (by rw[h.sz];exact F);have H:i<(KD st.tm dst out).length:=by rw[LH];exact F
  rw[X14 H] at e1;have e1:=X24 e1;simp only[e1,e2];split
  ·exact⟨J,K⟩
  exact⟨k.sF (h.tm i F).2 (h.tm i F).1,k.closed (h.tm i F).2⟩
 rw[<- h.df];cases dst<;>rfl
def LE {o:z}{a:Act}{Q:A->B->Prop}{next:Act->B->Prop}{H:Exit->Act->B->Prop}(h:qc P o a.eval w Q)(F :∀v w',Q v w'->next (a.put o.dst v) w'):o.wp P a w next H:=by
 unfold Oper.wp;unfold qc at h;generalize (Xbi a.eval o).run P w=r at *;cases r with
 | ok x w'=>
  cases x<;>simp only[Oper.upon] at h⊢;case value v=>exact F _ _ h
  case skip=>exact F _ _ h
  case enter f args=>refine h.mono ?_;rintro e J ⟨v,rfl,K⟩;exact F _ _ K
  all_goals exact h.elim
 | halt x w'=>exact h.elim
def R.known {st:pw}{a:Act}(h:R E st a w S φ){t:Nat}{b c:C}(H:st.tm.getD t .dead=.b b)(K:b=c):R E ⟨st.tm.set t (.b c),st.ob⟩ a w S φ:=by
 subst K;have J:t<st.tm.length:=by refine Xax λF=>?_;simp[F] at H
 have e:st.tm.set t (.b b)=st.tm:=by
  have:st.tm[t]=.b b:=by simpa[J] using H
  rw[<- this];exact List.set_getElem_self J
 rw[e];exact h
def Nc {H:Array z}{o:z}{a:Act}{K:pw->Prop}{Q:Exit->Act->B->Prop}{next:Act->B->Prop}{st:pw}{Y:I AV->Prop} (rl :∀tm:I AV,RR E tr ⟨tm,st.ob⟩ a w->Y tm->o.wp P a w next Q) (h:JV H o st.tm Y (λtm=>MI tm o.dst (.qT []) λtm=>K ⟨tm,st.ob⟩)) (J:RR E tr st a w) (hn :∀a7 a' w',K a7->RR E tr a7 a' w'->next a' w') : if Xd6 o (yielded H a.tmps) then o.wp P a w next Q else next (a.put o.dst Xbn) w:=by
 obtain⟨S,φ,J,a8⟩:=J;obtain⟨tm,ob⟩:=st;simp only at h rl;have rl :∀{tm:I AV},R E ⟨tm,ob⟩ a w S φ->Y tm->o.wp P a w next Q:=λJ h=>rl _ ⟨S,φ,J,a8⟩ h
 have no :∀{tm:I AV},R E ⟨tm,ob⟩ a w S φ->MI tm o.dst (.qT []) (λtm=>K ⟨tm,ob⟩)->next (a.put o.dst Xbn) w:=by intro tm J h;rw[HF] at h;exact hn _ _ _ h ⟨S,φ,J.put J.mem (.refl _ _ _ _) (.qT [] #[] (λ_=>Xbn) rfl (λi hi=>by simp at hi) (λi hi=>by simp at hi)) (λr hr=>by simp[AV.refs,AV.refs.refsL] at hr),a8⟩
 unfold JV at h;cases hg:o.guard with
 | none=>
  simp only[hg] at h;have hw:Xd6 o (yielded H a.tmps)=true:=by unfold Xd6;rw[hg]
  simp only[hw,Xdt];exact rl J h
 | some g=>
  obtain⟨j,M⟩:=g;simp only[hg] at h;cases hd:(H[j]?).bind (·.dst) with
  | none=>simp[hd] at h
  | some t=>
   simp only[hd] at h;split at h
   ·rename_i b V;have U:=V;have ht:t<tm.length:=by refine Xax λa1=>?_;simp[a1] at V
    have F:=(J.tm t ht).1;have e:tm.getD t .dead=tm[t]:=by simp[ht]
    rw[e] at V;simp only at F;rw[V] at F;have Z:=F.bool;have a6:t<a.tmps.size:=by rw[J.sz];exact ht
    have hy:yielded H a.tmps j=some b:=by
     unfold yielded;rw[hd];have:a.tmps[t]?=some (.bool b):=by simp[a6] at Z⊢;exact Z
     simp[this]
    have hw:Xd6 o (yielded H a.tmps)=(b==M):=by unfold Xd6;rw[hg];simp only[hy];cases b<;>cases M<;>rfl
    simp only[hw];cases b<;>cases M<;>simp only[IR,Eu] at h<;>simp
    ·exact rl (J.known U rfl) h
    ·exact no (J.known U rfl) h
    ·exact no (J.known U rfl) h
    exact rl (J.known U rfl) h
   ·rename_i vs V;have ht:t<tm.length:=by refine Xax λa1=>?_;simp[a1] at V
    have F:=(J.tm t ht).1;have e:tm.getD t .dead=tm[t]:=by simp[ht]
    rw[e] at V;simp only at F;rw[V] at F;have a6:t<a.tmps.size:=by rw[J.sz];exact ht
    have hy:yielded H a.tmps j=none:=by
     unfold yielded;rw[hd];generalize hv:a.tmps.getD t Xbn=v at F;cases F with|qT _ us _ _ _ _=>
     have:a.tmps[t]?=some (.tuple us):=by simp[a6] at hv⊢;exact hv
     simp[this]
    have hw:Xd6 o (yielded H a.tmps)=false:=by unfold Xd6;rw[hg];simp only[hy];rfl
    simp only[hw];simpa using no J h
   exact h.elim
def XE {J:Array z}{o:z}{F:(Xau->AV)->I (O OB)->(AV->W->Prop)->Prop} (hF :∀{w:B} {S:Sc} {φ:Nat->O (Nat×Rp)} {obl:I (O OB)} {av:Xau->AV} {ρ:Xau->A} {K:AV->W->Prop} (_:Mem E w S φ (λr=>obl.getD r none)) (_ :∀x,gM S w φ (λr=>obl.getD r none) (av x) (ρ x)/\gN (λr=>obl.getD r none) (av x)) (_:F av obl K), ∃out wr,K out wr/\(∀r o,(r,o)∈wr->r<obl.length)/\qc P o ρ w (qH E w S φ (λr=>obl.getD r none) out wr)) {st:pw} {a:Act} {K:pw->Prop} {Q:Exit->Act->B->Prop} (h:stepG J o F st K) (H:RR E tr st a w) {next:Act->B->Prop} (hn :∀M a' w',K M->RR E tr M a' w'->next a' w') : if Xd6 o (yielded J a.tmps) then o.wp P a w next Q else next (a.put o.dst Xbn) w:=by obtain⟨V,ob⟩:=st;refine Nc (Y:=λtm=>F (sJ tm) ob (λv w=>MI tm o.dst v λtm=>tY ob w λob=>K ⟨tm,ob⟩)) (λtm H h=>?_) (st:=⟨V,ob⟩) h H hn;simp only at H;obtain⟨S,φ,H,Z⟩:=H;obtain⟨out,wr,hK,hr,U⟩:=hF H.mem (ρ:=a.eval) (λx=>H.av x) h;rw[HF,QX] at hK;refine LE U λv w' hp=>hn _ _ _ hK ?_;obtain⟨S',φ',m',k',r',c'⟩:=hp;have e:=Y6 ob wr hr;exact⟨S',φ',H.put (ob':=sU ob wr) (by rw[e];exact m') (by rw[e];exact k') (by rw[e];exact r') (by rw[e];exact c'),by simp only[e];exact Z.kept k'⟩
def Sl {cx:Cx}(V:py P cx.T)(Y:QA E.wl P cx){H:Array z}{o:z}{st:pw}{a:Act}{K:pw->Prop}{Q:Exit->Act->B->Prop} (h:MY cx H o st K) (Z:RR E tr st a w) {next:Act->B->Prop} (hn :∀J U w',K J->RR E tr J U w'->next U w') : if Xd6 o (yielded H a.tmps) then o.wp P a w next Q else next (a.put o.dst Xbn) w:=
 XE (F:=qU cx o) (λm M h=>FQ V Y m M h) (show stepG H o (qU cx o) st K from h) Z hn
def UQ (F:Array z):(Xb2 F.size).map (λi=>F[i]?)=F.toList.map some:=by
 apply List.ext_getElem
 ·simp
 intro i H J;simp at H;simp[H]
def ZB (s H:pw) :∀{l F:I AV},ue s H l F->l.length=F.length/\∀i (J:i<l.length) (hi':i<F.length),rh s H l[i] F[i]
 | [],[],_=>⟨rfl,λi J=>by simp at J⟩
 | a::l,K::F,h=>by
  have key:rh s H a K/\ue s H l F:=by cases K<;>simp only[ue] at h<;>first|exact⟨.dead a,h⟩|exact h
  obtain⟨M,Q⟩:=ZB s H key.2;refine⟨by simp[M],λi J hi'=>?_⟩;cases i with
  | zero=>exact key.1
  | succ i=>exact Q i (by simpa using J) (by simpa using hi')
 | [],_::_,h=>by simp[ue] at h
 | _::_,[],h=>by simp[ue] at h
def Ss (s J:pw) :∀{l F:I AV},M3 s J l F->l.length=F.length/\∀i (H:i<l.length) (hi':i<F.length),F[i].one=true/\rh s J l[i] F[i]
 | [],[],_=>⟨rfl,λi H=>by simp at H⟩
 | a::l,Q::F,h=>by
  simp only[M3] at h;obtain⟨K,M⟩:=Ss s J h.2;refine⟨by simp[K],λi H hi'=>?_⟩;cases i with
  | zero=>exact h.1
  | succ i=>exact M i (by simpa using H) (by simpa using hi')
 | [],_::_,h=>by simp[M3] at h
 | _::_,[],h=>by simp[M3] at h
def ZI (s J:pw) :∀{l K:I (O OB)},te s J l K->l.length=K.length/\∀r o',K.getD r none=some o'-> match o' with
   | .box M=>∃U,l.getD r none=some (.box U)/\M3 s J U M
   | .row e sz es frz=>(∃f,l.getD r none=some (.row e sz es f)/\wR es f frz)\/(l.getD r none=none/\es=[]/\0<sz)
   | .map k e es=>l.getD r none=some (.map k e es) \/∃H F n,l.getD r none=some (.qu k e es H F n)
   | .qu k e es H F n=>(∃V,l.getD r none=some (.qu k e es H F V)/\V=n)\/((l.getD r none=some (.map k e es) \/∃H F n,l.getD r none=some (.qu k e es H F n))/\(∃tk,Bl tk (.val H) es=some none)/\n=0/\s.ob.getD F none=none/\∃Y sz f,J.ob.getD F none=some (.row Y sz [] f))
   | .gone=>l.getD r none=some .gone
 | [],[],_=>⟨rfl,λr o' h=>by simp at h⟩
 | o::l,x::K,h=>by
  have tail:te s J l K:=by
   cases x with
   | none=>simpa[te] using h
   | some q=>cases q<;>simp only[te] at h<;>exact h.2
  obtain⟨Z,h2⟩:=ZI s J tail;refine⟨by simp[Z],λr o' Q=>?_⟩;cases r with
  | zero=>simp at Q;subst Q;cases o'<;>simp only[te] at h;all_goals simpa using h.1
  | succ r=>simpa using h2 r o' (by simpa using Q)
 | [],_::_,h=>by simp[te] at h
 | _::_,[],h=>by simp[te] at h
def rb (i j r:Nat):sw i j (sw i j r)=r:=by
 unfold sw;cases h1:Xa0 r i with
 | true=>
  have:=X29 h1;simp only;cases F:Xa0 j i with
  | true=>have:=X29 F;simp only;omega
  | false=>simp only[Xd7];omega
 | false=>
  simp only;cases F:Xa0 r j with
  | true=>have:=X29 F;simp only[Xd7];omega
  | false=>simp only[h1,F]
def mP {i j r F:Nat}(h:sw i j r=sw i j F):r=F:=by rw[<- rb i j r,h,rb]
def nB {i j np r:Nat}(J:np<=i)(K:np<=j)(M:r<np):sw i j r=r:=by
 unfold sw;have F:Xa0 r i=false:=by
  cases h:Xa0 r i with
  | true=>have:=X29 h;omega
  | false=>rfl
 have H:Xa0 r j=false:=by
  cases h:Xa0 r j with
  | true=>have:=X29 h;omega
  | false=>rfl
 simp[F,H]
def DG (i j:Nat) :∀l:I AV,AV.sw.tG i j l=l.map (AV.sw i j)
 | []=>rfl
 | a::l=>by simp[AV.sw.tG,DG i j l]
def dm (i j:Nat)(a:AV):(a.sw i j).one=a.one:=by cases a<;>rfl
def FZ.rb (i j:Nat)(f:FZ):(f.sw i j).sw i j=f:=by cases f<;>simp[FZ.sw,Go.AX.rb]
def gM.sw {S:Sc}{w:World}{φ:Nat->O (Nat×Rp)}{ob:Nat->O OB}(i j:Nat){a:AV}{v:A}(h:gM S w φ ob a v) : gM S w (λr=>φ (Go.AX.sw i j r)) (λr=>(ob (Go.AX.sw i j r)).map (OB.sw i j)) (a.sw i j) v:=by
 have row :∀{r e sz:Nat} {K:I D} {H:FZ},(ob (Go.AX.sw i j (Go.AX.sw i j r))).map (OB.sw i j)=some (.row e sz K H)->ob r=some (.row e sz K (H.sw i j)):=by
  intro r e sz K H F;rw[Go.AX.rb] at F;cases Y:ob r with
  | none=>rw[Y] at F;simp at F
  | some o=>rw[Y] at F;cases o<;>simp[OB.sw] at F;obtain⟨rfl,rfl,rfl,rfl⟩:=F;rw[FZ.rb]
 have box :∀{r:Nat} {U:I AV},(ob (Go.AX.sw i j (Go.AX.sw i j r))).map (OB.sw i j)=some (.box U)->∃J,ob r=some (.box J):=by
  intro r U F;rw[rb] at F;cases Y:ob r with
  | none=>rw[Y] at F;simp at F
  | some o=>rw[Y] at F;cases o<;>simp[OB.sw] at F;exact⟨_,rfl⟩
 induction h with
 | d x v h=>exact .d x v h
 | agg U Z f hs hf hn _ ih=>
  refine .agg _ Z f (by simp[DG,hs]) (λk Q=>hf k (by simpa[DG] using Q)) (λk Q=>?_) λk Q=>?_
  ·simp only[DG,Xam,dm];exact hn _ _
  simp only[DG,Xam];exact ih _ _
 | qT U Z f hs hf _ ih=>refine .qT _ Z f (by simp[DG,hs]) (λk Q=>hf k (by simpa[DG] using Q)) λk Q=>?_;simp only[DG,Xam];exact ih _ _
 | fn f U Z g hs hf _ ih=>refine .fn f _ Z g (by simp[DG,hs]) (λk Q=>hf k (by simpa[DG] using Q)) λk Q=>?_;simp only[DG,Xam];exact ih _ _
 | ref r a1 b c h V=>exact .ref _ a1 b c (by simpa[rb] using h) λe sz K H F=>V e sz K _ (row F)
 | ru U b o f hS hn h=>exact .ru U b o f hS hn h
 | own r n v k c a0 hv Q h V=>
  refine .own _ n v k c a0 hv Q (λe sz K H F=>?_) λU F=>?_
  ·obtain⟨g1,g2⟩:=h e sz K _ (row F);refine⟨g1,λhn=>?_⟩;have:=g2 hn;unfold IV at *;simpa[rb] using this
  obtain⟨J,M⟩:=box F;simpa[rb] using V J M
 | qQ r n a k v h V hp=>
  refine .qQ _ n a k v (λe sz K H F=>?_) (λU F=>?_) hp
  ·simpa[rb] using h e sz K _ (row F)
  obtain⟨J,M⟩:=box F;simpa[rb] using V J M
 | mp r b c h V hc=>refine .mp _ b c (by simpa[rb] using h) (λe sz K H F=>V e sz K _ (row F)) λU F=>?_;obtain⟨J,M⟩:=box F;exact hc J M
 | it f r b c B h V hc hS hm=>refine .it f _ b c B (by simpa[rb] using h) (λe sz K H F=>V e sz K _ (row F)) (λU F=>?_) hS hm;obtain⟨J,M⟩:=box F;exact hc J M
 | rO r a n m v k c a0 hv Q h=>exact .rO _ a n m v k c a0 hv Q λe sz K H F=>by simpa[rb,IV] using h e sz K _ (row F)
 | gl g=>exact .gl g
 | gv g v hS hv=>exact .gv g v hS hv
 | dead v=>exact .dead v
def VE (i j:Nat) :∀(a:AV) (r:Nat),r∈(a.sw i j).refs->Go.AX.sw i j r∈a.refs
 | .d x,r,h=>by simp[AV.sw,AV.refs] at h
 | .ru _,r,h=>by simp[AV.sw,AV.refs] at h
 | .dead,r,h=>by simp[AV.sw,AV.refs] at h
 | .gl _,r,h=>by simp[AV.sw,AV.refs] at h
 | .gv _,r,h=>by simp[AV.sw,AV.refs] at h
 | .ref q _,r,h=>by simp only[AV.sw,AV.refs,X13] at h⊢;rw[h,rb]
 | .own q _,r,h=>by simp only[AV.sw,AV.refs,X13] at h⊢;rw[h,rb]
 | .mp q,r,h=>by simp only[AV.sw,AV.refs,X13] at h⊢;rw[h,rb]
 | .it _ q,r,h=>by simp only[AV.sw,AV.refs,X13] at h⊢;rw[h,rb]
 | .qQ q _ _ _,r,h=>by simp only[AV.sw,AV.refs,X13] at h⊢;rw[h,rb]
 | .rO q _ _ _,r,h=>by simp only[AV.sw,AV.refs,X13] at h⊢;rw[h,rb]
 | .agg F,r,h=>sw_refsL i j F r (by simpa only[AV.sw,AV.refs] using h)
 | .fn _ F,r,h=>sw_refsL i j F r (by simpa only[AV.sw,AV.refs] using h)
 | .qT F,r,h=>sw_refsL i j F r (by simpa only[AV.sw,AV.refs] using h) where
 sw_refsL (i j:Nat) :∀(F:I AV) (r:Nat),r∈AV.refs.refsL (AV.sw.tG i j F)->Go.AX.sw i j r∈AV.refs.refsL F
  | [],r,h=>by simp[AV.sw.tG,AV.refs.refsL] at h
  | a::l,r,h=>by simp only[AV.sw.tG,AV.refs.refsL,X22] at h⊢;exact h.imp (VE i j a r) (sw_refsL i j l r)
def rG.sw {S:Sc}{w:B}{φ:Nat->O (Nat×Rp)}{ob:Nat->O OB}(i j:Nat){r:Nat}{o:OB}(h:rG S w φ ob (Go.AX.sw i j r) o) : rG S w (λr=>φ (Go.AX.sw i j r)) (λr=>(ob (Go.AX.sw i j r)).map (OB.sw i j)) r (o.sw i j):=by
 cases o with
 | box cs=>
  obtain⟨b,c,Y,e,f,H,J,K,Z,h5,U⟩:=h;refine⟨b,c,Y,e,f,H,J,by simp[DG,K],Z,λk hk=>h5 k (by simpa[DG] using hk),λk hk=>?_⟩;have M:k<cs.length:=by simpa[DG] using hk
  simp only[DG,Xam,dm];exact⟨(U k M).1,(U k M).2.sw i j⟩
 | row e sz es Q=>
  obtain⟨h0,H,J,K⟩:=h;refine⟨h0,H,J,K.imp id ?_⟩;rintro⟨b,a1,Y,f,f1,f2,f3,f4,f5,f6,f7,f8⟩;refine⟨b,a1,Y,f,f1,f2,f3,f4,f5,f6,f7,λo ho=>f8.1 o (by cases Q<;>exact ho),λi' j' q n V hi hj=>?_⟩;cases Q with
  | no=>simp[FZ.sw] at V
  | rl=>simp[FZ.sw] at V
  | lk i2 j2 q2 n2=>simp only[FZ.sw,FZ.lk.injEq] at V;obtain⟨rfl,rfl,rfl,rfl⟩:=V;exact (f8.2 _ _ _ _ rfl hi hj).sw i j
 | map k e es=>exact h
 | qu k e es kv r' n=>obtain⟨b,c,arr,F,H,J,K,Z,h5,U⟩:=h;exact⟨b,c,arr,F,H,J,K,Z,h5,U.imp λv hv=>hv.sw i j⟩
 | gone=>trivial
def S5 (i j:Nat) :∀l:I (O OB),(Oa i j l).length=l.length
 | []=>rfl
 | none::l=>by simp[Oa,S5 i j l]
 | some o::l=>by simp[Oa,S5 i j l]
def JD (i j:Nat) :∀(l:I (O OB)) (r:Nat),(Oa i j l).getD r none=(l.getD r none).map (OB.sw i j)
 | [],r=>by simp[Oa]
 | none::l,0=>by simp[Oa]
 | some o::l,0=>by simp[Oa]
 | none::l,r+1=>by simpa[Oa] using JD i j l r
 | some o::l,r+1=>by simpa[Oa] using JD i j l r
def eQ {i j:Nat}{s:pw}(M:i<s.ob.length)(Q:j<s.ob.length)(r:Nat):qw (GQ i j s).ob r=(qw s.ob (sw i j r)).map (OB.sw i j):=by
 have K:=S5 i j s.ob;simp only[qw,GQ];rw[Xo,List.getElem?_set];unfold sw;by_cases F:j=r
 ·subst F;rw[Xl rfl,Xl (by simpa[K] using Q)];simp only[Xaw];cases h1:Xa0 j i with
  | true=>have:=X29 h1;subst this;rw[JD]
  | false=>simp only[Xd7,JD]
 rw[Xk F,List.getElem?_set];have H:Xa0 r j=false:=by
  cases h:Xa0 r j with
  | true=>exact absurd (X29 h).symm F
  | false=>rfl
 by_cases h1:i=r
 ·subst h1;rw[Xl rfl,Xl (by simpa[K] using M)];simp only[Xaw,Xd7,JD]
 have J:Xa0 r i=false:=by
  cases h:Xa0 r i with
  | true=>exact absurd (X29 h).symm h1
  | false=>rfl
 rw[Xk h1];simp only[J,H];rw[<- Xo,JD]
def Yf {i j:Nat}{s:pw}(hi:tr.np<=i)(hj:tr.np<=j)(a8:i<s.ob.length)(aa:j<s.ob.length){a:Act}(Y:RR E tr s a w):RR E tr (GQ i j s) a w:=by
 obtain⟨S,φ,Y,ab⟩:=Y;have Q:qw (GQ i j s).ob=λr=>(qw s.ob (sw i j r)).map (OB.sw i j):=funext λr=>eQ a8 aa r;have m:=Y.mem;have U :∀{r:Nat},(qw s.ob (sw i j r)).map (OB.sw i j)≠none->qw s.ob (sw i j r)≠none:=λh he=>h (by rw[he];rfl);refine⟨S,λr=>φ (sw i j r),⟨by simp[GQ,DG,Y.sz],λk hk=>?_,Y.df,?_⟩,λr hr h0=>?_⟩
 ·have ae:k<s.tm.length:=by simpa[GQ,DG] using hk
  have e:(GQ i j s).tm[k]=(s.tm[k]).sw i j:=by simp[GQ,DG]
  rw[e,Q];obtain⟨Z,h2⟩:=Y.tm k ae;refine⟨Z.sw i j,λr hr=>?_⟩;have:=h2 _ (VE i j _ r hr);simp only;cases F:qw s.ob (sw i j r) with
  | none=>exact absurd F this
  | some o=>simp
 ·rw[Q];refine⟨λr o F=>?_,λr r' b c c' Z h2 g1 g2=>?_,λr o F r' H=>?_,m.sS,m.kS,m.bS,m.nS,m.fr,m.sz,λr b c h g=>m.ow _ b c (U h) g,m.os⟩
  ·cases J:qw s.ob (sw i j r) with
   | none=>simp only[J] at F;simp at F
   | some o0=>simp only[J,Xbf,X23] at F;subst F;exact (m.obj _ _ J).sw i j
  ·exact mP (m.inj _ _ b c c' (U Z) (U h2) g1 g2)
  cases J:qw s.ob (sw i j r) with
  | none=>simp only[J] at F;simp at F
  | some o0=>
   simp only[J,Xbf,X23] at F;subst F;have:sw i j r'∈o0.refs:=by
    cases o0 with
    | box K=>exact VE.sw_refsL i j K r' (by simpa[OB.sw,OB.refs] using H)
    | row e2 aj ak f2=>
     cases f2 with
     | no=>simp[OB.sw,OB.refs,FZ.sw] at H
     | rl=>simp[OB.sw,OB.refs,FZ.sw] at H
     | lk=>simp only[OB.sw,OB.refs,FZ.sw,FZ.sC,X13] at H;simp only[OB.refs,FZ.sC,X13];rw[H,Go.AX.rb]
    | map=>simp[OB.sw,OB.refs] at H
    | qu k e es kv r2 n=>simp only[OB.sw,OB.refs,X13] at H;simp only[OB.refs,X13];rw[H,rb]
    | gone=>simp[OB.sw,OB.refs] at H
   have:=m.s6 _ _ J _ this;cases af:qw s.ob (sw i j r') with
   | none=>exact absurd af this
   | some o=>simp
 obtain⟨Z,h2⟩:=ab r hr h0;rw[Q];have e:=nB hi hj hr
 refine⟨by simp only[e];cases F:qw s.ob r with
  | none=>exact absurd F Z
  | some o=>simp,?_⟩
 have hh:rW ((qw s.ob r).map (OB.sw i j))=rW (qw s.ob r):=by
  cases qw s.ob r with
  | none=>rfl
  | some o=>cases o<;>rfl
 have a6 :∀K,(qw s.ob r).map (OB.sw i j)=some (.box K)->∃V,qw s.ob r=some (.box V):=by
  intro K M;cases F:qw s.ob r with
  | none=>rw[F] at M;simp at M
  | some o=>rw[F] at M;cases o<;>simp[OB.sw] at M;exact⟨_,rfl⟩
 rcases h2 with ⟨a1,a2,a3⟩|⟨e',sz,es,ag,ah,a7,a1,a2,a3,a4⟩|⟨a1,a2,a3⟩
 ·exact .inl ⟨by simp only[e];exact a1,by simp only[e];exact hh.trans a2,λ⟨K,M⟩=>a3 (a6 K (by simpa only[e] using M))⟩
 ·exact .inr (.inl ⟨e',sz,es,ag,ah,a7.sw i j,a1,by simp only[e,a2];rfl,a3,λJ=>by simp only[e];exact a4 J⟩)
 refine .inr (.inr ⟨a1,by simp only[e];exact hh.trans a2,λK M=>?_⟩);obtain⟨V,ai⟩:=a6 K (by simpa only[e] using M);exact a3 V ai
def XV {s Z:pw}(h:vK tr.np s Z){a:Act}(hR:RR E tr s a w):RR E tr Z a w:=by
 obtain⟨S,φ,hR,ao⟩:=hR;obtain⟨al,b0,ba,ag⟩:=h;obtain⟨t1,t2⟩:=ZB s Z b0;obtain⟨o1,o2⟩:=ZI s Z ba;have m:=hR.mem;let S':Sc:=λb o=>S b o\/(∃r e sz Q f c,qw s.ob r=some (.row e sz Q f)/\φ r=some (b,c)/\o<c.2+Q.length*sz/\(qw Z.ob r=none\/qw Z.ob r=some (.row e sz Q .rl))) \/
  ∃r cs c,qw s.ob r=some (.box cs)/\φ r=some (b,c)/\o<cs.length/\qw Z.ob r=none
 let φ':Nat->O (Nat×Rp):=λr=>match qw s.ob r with
  | none=>none
  | some _=>φ r
 have ae :∀{r},qw s.ob r≠none->φ' r=φ r:=by
  intro r hr;simp only[φ'];cases hq:qw s.ob r with
  | none=>exact absurd hq hr
  | some q=>rfl
 have hS:OY S w S' w:=λb o h=>⟨.inl h,rfl⟩;have ah :∀{r b c},qw s.ob r≠none->qw Z.ob r≠none->φ r=some (b,c)->∀o,S' b o->S b o \/∃e sz Q f,qw s.ob r=some (.row e sz Q f)/\o<c.2+Q.length*sz/\(qw Z.ob r=none\/qw Z.ob r=some (.row e sz Q .rl)):=by
  intro r b c Y bb h2 o ho;rcases ho with ho|⟨r',e,sz,Q,f,c',K,g2,g3,g4⟩|⟨r',cs,c',K,g2,g3,g4⟩
  ·exact .inl ho
  ·have:=m.inj r' r b c' c (by rw[K];simp) Y g2 h2;subst this;rw[g2] at h2;simp only[X23,X25,true_and] at h2;subst h2;exact .inr ⟨e,sz,Q,f,K,g3,g4⟩
  have:=m.inj r' r b c' c (by rw[K];simp) Y g2 h2;subst this;exact absurd g4 bb
 have an :∀r∈AV.refs.refsL Z.tm,qw Z.ob r≠none:=by intro r hr;simp only[OP,X26,Xm] at ag;have:=ag.1 r hr;intro h;simp only[qw] at h;rw[h] at this;simp at this
 have ab :∀r o,qw Z.ob r=some o->∀r'∈o.refs,qw Z.ob r'≠none:=by
  intro r o ho r' M;simp only[OP,X26,Xm] at ag;have au:some o∈Z.ob:=by
   have ax:=EC Z.ob r o ho;have:Z.ob[r]=some o:=by
    have h2:Z.ob.getD r none=Z.ob[r]:=by simp[ax]
    rw[<- h2];exact ho
   rw[<- this];exact Wu ax
  have:=ag.2 (some o) au;simp only[Xm] at this;have:=this r' M;intro h;simp only[qw] at h;rw[h] at this;simp at this
 have aa :∀r,qw s.ob r≠none->qw Z.ob r≠none->rA φ (qw s.ob) φ' (qw Z.ob) r:=by
  intro r Y h2;refine .inl ⟨ae Y,?_,?_⟩
  ·cases hq:qw Z.ob r with
   | none=>exact absurd hq h2
   | some q=>
    have:=o2 r q hq;cases q with
    | box a7=>obtain⟨cs,K,_⟩:=this;have F:qw s.ob r=some (.box cs):=K;rw[F];rfl
    | map k e Q=>
     rcases this with K|⟨kv,r2,n2,K⟩
     ·have F:qw s.ob r=some (.map k e Q):=K;rw[F]
     have F:qw s.ob r=some (.qu k e Q kv r2 n2):=K;rw[F];rfl
    | qu k e Q kv r2 n2=>
     rcases this with ⟨n3,K,_⟩|⟨K|⟨_,_,_,K⟩,_⟩
     ·have F:qw s.ob r=some (.qu k e Q kv r2 n3):=K;rw[F];rfl
     ·have F:qw s.ob r=some (.map k e Q):=K;rw[F];rfl
     have F:qw s.ob r=some (.qu k e Q _ _ _):=K;rw[F];rfl
    | gone=>have F:qw s.ob r=some .gone:=this;rw[F]
    | row e sz Q bc=>
     rcases this with ⟨f,K,_⟩|⟨K,_⟩
     ·have F:qw s.ob r=some (.row e sz Q f):=K;rw[F];rfl
     exact absurd K Y
  rintro⟨a7,hc⟩;obtain⟨cs,K,_⟩:=o2 r _ hc;exact⟨cs,K⟩
 have fr :∀{r e sz:Nat} {f:FZ},s.ob.getD r none=none->Z.ob.getD r none=some (.row e sz [] f)->gM S' w φ' (qw Z.ob) (.own r 0) (.slice none 0 0):=by
  intro r e sz f h h';have ay:qw Z.ob r=some (.row e sz [] f):=h';refine .own r 0 _ 0 0 none rfl rfl (λe' ai aj f' hx=>?_) λcs hx=>?_
  ·rw[ay] at hx;simp only[X23,OB.row.injEq] at hx;obtain⟨rfl,rfl,rfl,rfl⟩:=hx;refine⟨Xa2 _,λ_=>.inl ⟨?_,rfl,_,rfl⟩⟩;have h0:qw s.ob r=none:=h;simp only[φ',h0]
  rw[ay] at hx;simp at hx
 have sF :∀{x x':AV} {v:A},rh s Z x x'->gM S w φ (qw s.ob) x v->gN (qw s.ob) x->(∀r∈x'.refs,qw Z.ob r≠none)->gM S' w φ' (qw Z.ob) x' v:=by
  intro x x' v hw;induction hw generalizing v with
  | vU r cs ys sz h h' qE hl hp ak hn ih=>
   intro V hc U;cases V with|own _ _ _ k c a0 V hk Y hb=>
   have hq:qw s.ob r=some (.box cs):=h;obtain⟨_,b,c',f1,rfl⟩:=hb cs hq;obtain⟨b',c2,vs,e,f,q1,q2,q3,q4,q5,q6⟩:=m.obj r _ hq;rw[q1] at f1;simp only[X23,X25] at f1;obtain⟨rfl,rfl⟩:=f1;subst qE;refine .d _ _ (.qY cs.length [.agg ys] b' 0 1 (λ_ j=>f j) (by simp[Xb6]) (Xa2 _) (λi J=>?_) (λi j J hj=>⟨.inr (.inr ⟨r,cs,c2,hq,q1,?_,h'⟩),?_⟩) (λi J j hj=>?_) λi J j hj=>?_)
   ·have:i=0:=by simpa using J
    subst this;simpa[D.cells] using hl
   ·have:i=0:=by simpa using J
    subst this;omega
   ·have:i=0:=by simpa using J
    subst this;rw[A1 q2];simpa using q5 j hj
   ·have:i=0:=by simpa using J
    subst this;exact hn j (by simpa[D.cells] using hj)
   have:i=0:=by simpa using J
   subst this;have bd:j<ys.length:=by simpa[D.cells] using hj
   have:=ih j (by omega) bd (q6 j (by omega)).2 (λr' M=>m.s6 r _ hq r' (by simpa[OB.refs] using AV.qj cs j (by omega) r' M)) (λr' M=>by simp[AV.refs] at M);cases this with|d _ _ this=>exact this
  | refl=>intro V hc U;exact V.mono hS λr hr=>aa r (hc r hr) (U r hr)
  | dead=>intro V hc U;exact .dead _
  | uL r n n' hn=>intro V hc U;subst hn;exact V.mono hS λr hr=>aa r (hc r hr) (U r hr)
  | rO r a n m m' hm=>intro V hc U;subst hm;exact V.mono hS λr hr=>aa r (hc r hr) (U r hr)
  | norm x=>intro V hc U;cases V with|d _ _ V=>exact .d _ _ (V.norm.mono hS)
  | qY r n e sz Q f h hn h'=>
   intro V hc U;cases V with|own _ _ _ k c a0 V hk Y hb=>
   have hq:qw s.ob r=some (.row e sz Q f):=h;obtain⟨g0,K,g2,g3⟩:=m.obj r _ hq;rcases (Y e sz Q f hq).2 hn with ⟨a1,a2,_,rfl⟩|⟨b,ap,a1,rfl⟩
   ·have:Q=[]:=Xa7 (by omega);subst this;exact .d _ _ (.ri sz _ _)
   rcases g3 with ⟨b1,_⟩|⟨b',a6,vs,g,f1,f2,f3,f4,f5,f6,f7,f8⟩
   ·rw[b1] at a1;simp at a1
   rw[f1] at a1;simp only[X23,X25] at a1;obtain⟨rfl,rfl⟩:=a1;rw[hn];refine .d _ _ (.qY sz Q b' a6.2 a6.1 g (Xak f3 f4) f3 K (λi j J hj=>⟨.inr (.inl ⟨r,e,sz,Q,f,a6,hq,f1,?_,h'⟩),?_⟩) g2 λi J j hj=>(f7 i J j hj).mono hS)
   ·have:(i+1)*sz<=Q.length*sz:=X30 _ J;rw[X31] at this;omega
   rw[A1 f2,Xaq];exact f6 i j J hj
  | uN r a n m0 e sz Q zs f h hm hz h'=>
   intro V hc U;cases V with|rO _ _ _ _ _ k c a0 V hk Y=>
   have hq:qw s.ob r=some (.row e sz Q f):=h;obtain⟨g0,K,g2,g3⟩:=m.obj r _ hq;obtain⟨a1,a2,_⟩:=(Y e sz Q f hq).2 hm;rcases a2 with a2|⟨b,ap,c',a2,a3,a4⟩
   ·have:zs=[]:=by rw[<- hz,a2];simp
    subst this;rw[V,hk,a2];exact .d _ _ (.ri sz _ _)
   rcases g3 with ⟨b1,_⟩|⟨b',a6,vs,g,f1,f2,f3,f4,f5,f6,f7,f8⟩
   ·rw[b1] at a2;simp at a2
   rw[f1] at a2;simp only[X23,X25] at a2;obtain⟨rfl,rfl⟩:=a2;have az:zs.length=n:=by rw[<- hz];simp;omega
   have af :∀i (J:i<zs.length),zs[i]=Q[a+i]'(by omega):=by intro i J;subst hz;simp
   rw[a3];have key:=qf.qY (S:=S') (w:=w) sz zs b' (a6.2+a*sz) c' (λi j=>g (a+i) j) (by omega) (by omega) (λi J=>by rw[af i J];exact K _ _) (λi j J hj=>⟨.inr (.inl ⟨r,e,sz,Q,f,a6,hq,f1,?_,h'⟩),?_⟩) (λi J j hj=>?_) λi J j hj=>?_
   ·rw[az] at key;exact .d _ _ key
   ·have:(a+i+1)*sz<=Q.length*sz:=X30 _ (by omega);rw[X31,X31] at this;omega
   ·rw[A1 f2];have e2:a6.2+a*sz+i*sz+j=a6.2+((a+i)*sz+j):=by rw[X31];omega
    rw[e2];exact f6 (a+i) j (by omega) hj
   ·have:=af i J;simp only[this] at hj⊢;exact g2 (a+i) (by omega) j hj
   have:=af i J;simp only[this] at hj⊢;exact (f7 (a+i) (by omega) j hj).mono hS
  | fresh r e sz h h'=>
   intro V hc U;cases V with|d _ _ V=>
   cases V with|nil=>exact fr h h'
  | qT cs a7 hl ak ih=>
   intro V hc U;cases V with|qT _ vs f hs hf hr=>
   exact .qT a7 vs f (by omega) (λi J=>hf i (by omega)) λi J=>ih i (by omega) J (hr i (by omega)) (λr M=>hc r (by simpa[AV.refs] using AV.qj cs i (by omega) r M)) λr M=>U r (by simpa[AV.refs] using AV.qj a7 i J r M)
  | agg cs a7 hl ak hn ih=>
   intro V hc U;cases V with|agg _ vs f hs hf _ hr=>
   exact .agg a7 vs f (by omega) (λi J=>hf i (by omega)) hn λi J=>ih i (by omega) J (hr i (by omega)) (λr M=>hc r (by simpa[AV.refs] using AV.qj cs i (by omega) r M)) λr M=>U r (by simpa[AV.refs] using AV.qj a7 i J r M)
  | vM cs ys hl ak hn ih=>
   intro V hc U;cases V with|agg _ vs f hs hf _ hr=>
   refine .d _ _ (.agg ys vs f (by omega) (λi J=>hf i (by omega)) hn λi J=>?_);have:=ih i (by omega) J (hr i (by omega)) (λr M=>hc r (by simpa[AV.refs] using AV.qj cs i (by omega) r M)) (λr M=>by simp[AV.refs] at M);cases this with|d _ _ this=>exact this
  | vQ ds a7 hl ak hn ih=>
   intro V hc U;cases V with|d _ _ V=>
   cases V with|agg _ vs f hs hf _ hr=>
   exact .agg a7 vs f (by omega) (λi J=>hf i (by omega)) hn λi J=>ih i (by omega) J (.d _ _ (hr i (by omega))) (λr M=>by simp[AV.refs] at M) λr M=>U r (by simpa[AV.refs] using AV.qj a7 i J r M)
 refine⟨S',φ',⟨by rw[hR.sz,t1],λi J=>?_,hR.df,⟨?_,?_,ab,λb o h=>.inl (m.sS b o h),m.kS,?_,?_,m.fr,m.sz,?_,m.os⟩⟩,λr hr h0=>?_⟩
 ·have aq:i<s.tm.length:=by omega
  refine⟨sF (t2 i aq J) (hR.tm i aq).1 (hR.tm i aq).2 λr hr=>an r (AV.qj Z.tm i J r hr),λr hr=>an r (AV.qj Z.tm i J r hr)⟩
 ·intro r o' a8;have hw:=o2 r o' a8;cases o' with
  | gone=>trivial
  | box a7=>
   obtain⟨cs,K,g2⟩:=hw;have F:qw s.ob r=some (.box cs):=K;obtain⟨c1,c2⟩:=Ss s Z g2;obtain⟨b,c,vs,e,f,Y,h2,h3,h4,h5,h6⟩:=m.obj r _ F;refine⟨b,c,vs,e,f,(ae (by rw[F];simp)).trans Y,h2,by omega,λo ho=>?_,λj hj=>h5 j (by omega),λj hj=>⟨(c2 j (by omega) hj).1,?_⟩⟩
   ·rcases ah (r:=r) (by rw[F];simp) (by rw[a8];simp) Y o ho with h|⟨e',ai,aj,f',q,_⟩
    ·exact h4 o h
    rw[F] at q;simp at q
   exact sF (c2 j (by omega) hj).2 (h6 j (by omega)).2 (λr' M=>m.s6 r _ F r' (by simpa[OB.refs] using AV.qj cs j (by omega) r' M)) λr' M=>ab r _ a8 r' (by simpa[OB.refs] using AV.qj a7 j hj r' M)
  | map k e Q=>
   obtain⟨o0,F,ar,b,c,arr,H,Y,h2,h3,h4,h5⟩ :∃o0,qw s.ob r=some o0/\rW (some o0)=none/\∃b c arr H,φ r=some (b,c)/\w.heap[b]?=some (.map arr H)/\(arr.size=Q.length/\r8 arr H)/\(∀o,¬ S b o)/\
     ∀i (J:i<Q.length),∃x:Xbr,arr[i]?=some x/\(∃u,Q[i].1=.val u/\x.key=u/\u.oneCell'=true)/\qf S w Q[i].2 x.val:=by
    rcases hw with K|⟨kv,r2,n2,K⟩
    ·exact⟨_,K,rfl,m.obj r _ K⟩
    obtain⟨b,c,arr,H,Y,h2,h3,h4,h5,_⟩:=m.obj r _ K;exact⟨_,K,rfl,b,c,arr,H,Y,h2,h3,h4,h5⟩
   refine⟨b,c,arr,H,(ae (by rw[F];simp)).trans Y,h2,h3,λo ho=>?_,λi J=>?_⟩
   ·rcases ah (r:=r) (by rw[F];simp) (by rw[a8];simp) Y o ho with h|⟨e',ai,aj,f',q,_⟩
    ·exact h4 o h
    rw[F] at q;obtain rfl:=X24 q;simp[rW] at ar
   obtain⟨x,q1,q2,q3⟩:=h5 i J;exact⟨x,q1,q2,q3.mono hS⟩
  | qu k e Q kv r2 n2=>
   obtain⟨o0,F,ar,b,c,arr,H,Y,h2,h3,h4,h5,h6⟩ :∃o0,qw s.ob r=some o0/\rW (some o0)=none/\∃b c arr H,φ r=some (b,c)/\w.heap[b]?=some (.map arr H)/\(arr.size=Q.length/\r8 arr H)/\(∀o,¬ S b o)/\
     (∀i (J:i<Q.length),∃x:Xbr,arr[i]?=some x/\(∃u,Q[i].1=.val u/\x.key=u/\u.oneCell'=true)/\qf S w Q[i].2 x.val)/\rC kv (gM S' w φ' (qw Z.ob) (.own r2 n2)) arr.toList:=by
    rcases hw with ⟨n3,K,rfl⟩|⟨K|⟨be,r0,n0,K⟩,⟨tk,g2⟩,rfl,g3,e',sz,f,g4⟩
    ·obtain⟨b,c,arr,H,Y,h2,h3,h4,h5,h6⟩:=m.obj r _ K;refine⟨_,K,rfl,b,c,arr,H,Y,h2,h3,h4,h5,h6.imp λv V=>V.mono hS λq hq=>?_⟩;simp only[AV.refs,X13] at hq;subst hq;exact aa q (m.s6 r _ K q (by simp[OB.refs])) (ab r _ a8 q (by simp[OB.refs]))
    ·obtain⟨b,c,arr,H,Y,h2,h3,h4,h5⟩:=m.obj r _ K;exact⟨_,K,rfl,b,c,arr,H,Y,h2,h3,h4,h5,JX (Ja _ _) Q arr.toList ⟨by simpa using h3.1,λi J=>by simpa using h5 i J⟩ g2 (fr g3 g4)⟩
    obtain⟨b,c,arr,H,Y,h2,h3,h4,h5,_⟩:=m.obj r _ K;exact⟨_,K,rfl,b,c,arr,H,Y,h2,h3,h4,h5,JX (Ja _ _) Q arr.toList ⟨by simpa using h3.1,λi J=>by simpa using h5 i J⟩ g2 (fr g3 g4)⟩
   refine⟨b,c,arr,H,(ae (by rw[F];simp)).trans Y,h2,h3,λo ho=>?_,λi J=>?_,h6⟩
   ·rcases ah (r:=r) (by rw[F];simp) (by rw[a8];simp) Y o ho with h|⟨e',ai,aj,f',q,_⟩
    ·exact h4 o h
    rw[F] at q;obtain rfl:=X24 q;simp[rW] at ar
   obtain⟨x,q1,q2,q3⟩:=h5 i J;exact⟨x,q1,q2,q3.mono hS⟩
  | row e sz Q bc=>
   rcases hw with ⟨f,K,g2⟩|⟨K,rfl,g2⟩
   ·have F:qw s.ob r=some (.row e sz Q f):=K;obtain⟨h0,Y,h2,h3⟩:=m.obj r _ F;refine⟨h0,Y,h2,h3.imp (λq=>⟨(ae (by rw[F];simp)).trans q.1,q.2⟩) ?_⟩;rintro⟨b,ap,vs,g,f1,f2,f3,f4,f5,f6,f7,f8⟩;refine⟨b,ap,vs,g,(ae (by rw[F];simp)).trans f1,f2,f3,f4,f5,f6,λi J j hj=>(f7 i J j hj).mono hS,λo ho hs=>?_,λi j q n hq J hj=>?_⟩;rotate_left
    ·have h5:=g2.2;rw[hq] at h5;rcases h5 with h5|⟨i',n',h5,rfl,rfl⟩
     ·omega
     refine (f8.2 i' j q n' h5 J hj).mono hS λr' M=>?_;simp only[AV.refs,X13] at M;subst M;exact aa r' (m.s6 r _ F r' (by simp[OB.refs,h5])) (ab r _ a8 r' (by simp[OB.refs,hq]))
    rcases ah (r:=r) (by rw[F];simp) (by rw[a8];simp) f1 o hs with h|⟨e',ai,aj,f',q,q2,q3⟩
    ·refine f8.1 o ?_ h;cases f with
     | no=>simp
     | lk=>simp
     | rl=>rw[g2.1 rfl] at ho;exact ho
    rw[F] at q;simp only[X23,OB.row.injEq] at q;obtain⟨rfl,rfl,rfl,rfl⟩:=q;rcases q3 with q3|q3
    ·rw[a8] at q3;simp at q3
    rw[a8] at q3;simp only[X23,OB.row.injEq] at q3;rw[q3.2.2.2] at ho;simp only[FZ.s9,Xdt] at ho;omega
   refine⟨g2,λi J=>by simp at J,λi J=>by simp at J,.inl ⟨?_,rfl⟩⟩;have F:qw s.ob r=none:=K;simp only[φ',F]
 ·intro r1 r2 b c c' Y h2 K g2;have q :∀{r:Nat} {x:Nat×Rp},φ' r=some x->qw s.ob r≠none/\φ r=some x:=by
   intro r x h;simp only[φ'] at h;cases hq:qw s.ob r with
   | none=>simp[hq] at h
   | some q=>simp only[hq] at h;exact⟨by simp,h⟩
  obtain⟨a1,a2⟩:=q K;obtain⟨b1,b2⟩:=q g2;exact m.inj r1 r2 b c c' a1 b1 a2 b2
 ·intro b o h;rcases h with h|⟨r,e,sz,Q,f,c,K,g2,_⟩|⟨r,cs,c,K,g2,_⟩
  ·exact m.bS b o h
  ·exact (m.ow r b c (by rw[K];simp) g2).1
  exact (m.ow r b c (by rw[K];simp) g2).1
 ·intro b o h Y h2;rcases h with h|⟨r,e,sz,Q,f,c,K,g2,_⟩|⟨r,cs,c,K,g2,_⟩
  ·exact m.nS b o h Y h2
  ·rcases (m.ow r b c (by rw[K];simp) g2).2 with g|g
   ·omega
   exact absurd g h2
  rcases (m.ow r b c (by rw[K];simp) g2).2 with g|g
  ·omega
  exact absurd g h2
 ·intro r b c h g;simp only[φ'] at g;cases hq:qw s.ob r with
  | none=>simp[hq] at g
  | some q=>simp only[hq] at g;exact m.ow r b c (by rw[hq];simp) g
 have Y:qw Z.ob r≠none:=by
  simp only[Xm,Xcr] at al;have:=al r hr;intro h;simp only[qw] at h;rw[h] at this;have hq:=(ao r hr h0).1;simp only[qw] at hq;cases hz:s.ob.getD r none with
  | none=>exact hq hz
  | some z=>rw[hz] at this;simp at this
 exact⟨Y,(ao r hr h0).2.trans (aa r (ao r hr h0).1 Y)⟩
def Md {np:Nat}{s J:pw}(h:qG np s J)(F:np=tr.np){a:Act}(K:RR E tr s a w):RR E tr J a w:=by
 induction h with
 | mk M Q U V=>exact XV ⟨F▸M,Q,U,V⟩ K
 | swap i j Y Z H _ ih=>simp only[X26] at H;exact ih (Yf (F▸X28 Y) (F▸X28 Z) (X28 H.1) (X28 H.2) K)
def AE.tT:AE->Exit
 | .normal=>.normal
 | .exit id=>.exit id
 | .ret=>.ret
def Vf (wl:WL)(P:Xcn)(cx:Cx):Prop:=∀(E:Env),E.wl=wl->∀(tr:Trk) (id:Nat) (F:Array z) (st:pw) (a:Act) (w:B) (K:pw->Prop) (Q:Exit->Act->B->Prop),tr.np=cx.np->
 (du cx F st K\/YT cx F st K)->RR E tr st a w->(∀H J w',K H->RR E tr H J w'->Q .normal J w')->(Code.region id F true).wp P Q a w
def IC {np:Nat}(M:tr.np=np){X:(pw->Prop)->Prop}{K:pw->Prop}{c:Prop}(h:sh np X K) (U :∀V:pw->Prop,X V->(∀(F:pw) (H:Act) (w':B),V F->RR E tr F H w'->∃st,K st/\RR E tr st H w')->c):c:=by
 rcases h with h|⟨J,Y,Z⟩
 ·exact U K h λst H w' hK Q=>⟨st,hK,Q⟩
 refine U _ Y λst H w' ⟨s,hw,hJ⟩ Q=>⟨s,Z s hJ,?_⟩;rw[<- M] at hw;exact Md hw rfl Q
def Pg {cx:Cx}(hT:py P cx.T)(hC:QA E.wl P cx)(a6:tr.np=cx.np){M:Array z}{o:z}{st:pw}{a:Act}{K:pw->Prop}{Q:Exit->Act->B->Prop} (h:Yx cx M o st K) (F:RR E tr st a w) {next:Act->B->Prop} (hn :∀U a' w',K U->RR E tr U a' w'->next a' w') : if Xd6 o (yielded M a.tmps) then o.wp P a w next Q else next (a.put o.dst Xbn) w:=by
 have plain :∀{tm:I AV} {ob:I (O OB)},RR E tr ⟨tm,ob⟩ a w->vj cx o (sJ tm) ob (λv w=>MI tm o.dst v λtm=>tY ob w λob=>K ⟨tm,ob⟩)->o.wp P a w next Q:=by intro tm ob ⟨S,φ,F,J⟩ h;obtain⟨out,wr,V,hr,Z⟩:=aZ hT hC F.mem (ρ:=a.eval) (λx=>F.av x) h;rw[HF,QX] at V;refine LE Z λv w' hp=>hn _ _ _ V ?_;obtain⟨S',φ',m',k',r',c'⟩:=hp;have e:=Y6 ob wr hr;exact⟨S',φ',F.put (ob':=sU ob wr) (by rw[e];exact m') (by rw[e];exact k') (by rw[e];exact r') (by rw[e];exact c'),by simp only[e];exact J.kept k'⟩
 obtain⟨a7,ob⟩:=st;refine Nc (Y:=λtm=>mR cx o tm ob K) (λtm F h=>?_) (st:=⟨a7,ob⟩) h F hn;simp only at F;unfold mR at h;split at h
 ·rename_i c a8;split at h
  ·rename_i x a1;obtain⟨f,aa,h,hf⟩:=Vi h;split at h
   ·obtain⟨callee,args,argTypes⟩:=c;simp only at a1;subst a1;refine IC (E:=E) a6 h λK' hX hw=>?_;obtain⟨S,φ,F,J⟩:=F;have hg:=hC.2.2 _ _ _ _ hX;refine LE (WH (w:=w) (S:=S) (φ:=φ) (obl:=ob) (cx:=cx) (λx=>F.av x) a8 hf (Q:=λv w'=>∃S' φ' r ob',MI tm o.dst r (λtm=>K' ⟨tm,ob'⟩)/\Mem E w' S' φ' (λr=>ob'.getD r none)/\Kept w S φ (λr=>ob.getD r none) w' S' φ' (λr=>ob'.getD r none)/\ gM S' w' φ' (λr=>ob'.getD r none) r v/\gN (λr=>ob'.getD r none) r) λH hv=>hg.elim (λ⟨g1,g2⟩=>.inl ⟨g1,g2 E rfl w S φ H hv F.mem⟩) λg=>.inr (g E rfl w S φ H hv F.mem)) λv w' ⟨S',φ',r,ob',V,m',k',r',c'⟩=>?_;rw[HF] at V;obtain⟨st,h1,h2⟩:=hw _ _ _ V ⟨S',φ',F.put (ob':=ob') m' k' r' c',J.kept k'⟩;exact hn _ _ _ h1 h2
   exact plain F h
  exact plain F h
 exact plain F h
def PW {cx:Cx}(hT:py P cx.T)(hC:QA E.wl P cx)(M:tr.np=cx.np){F:Array z}{Q:Exit->Act->B->Prop} :∀(l:I Nat) (os:I z) (_:l.map (λi=>F[i]?)=os.map some) {st:pw} {a:Act} {w:B} {K:pw->Prop} (_:eK cx F os st K) (_:RR E tr st a w) (_ :∀J U w',K J->RR E tr J U w'->Q .normal U w'),wpOps P F Q l a w
 | [],[],_,st,a,w,K,h,V,Y=>Y st a w h V
 | i::l,o::os,H,st,a,w,K,h,V,Y=>by
  simp only[Xb5,Xdb] at H;obtain⟨hi,H⟩:=H;rw[wpOps_cons];unfold wpOp;simp only[hi];simp only[eK] at h;have:=Pg (Q:=Q) hT hC M h V (next:=wpOps P F Q l) λJ U w' hK Z=>PW hT hC M l os H hK Z Y;split
  ·rename_i hw;rw[Xl hw] at this;exact .inl this
  rename_i hw;rw[Xk hw] at this;exact this
 | [],_::_,H,_,_,_,_,_,_,_=>by simp at H
 | _::_,[],H,_,_,_,_,_,_,_=>by simp at H
def Pq {cx:Cx}(hT:py P cx.T)(hC:QA E.wl P cx)(hD:Vf E.wl P cx)(V:tr.np=cx.np)(c:Code) : ∀{st:pw} {a:Act} {w:B} {K:AE->pw->Prop} {Q:Exit->Act->B->Prop},GF cx c K st->RR E tr st a w->(∀e H a' w',K e H->RR E tr H a' w'->Q e.tT a' w')->c.wp P Q a w:=by
 induction c with
 | skip=>intro st a w K Q h U M;exact wp_skip (M .normal _ _ _ h U)
 | region id Y ab=>
  intro st a w K Q h U M;cases ab with
  | false=>
   have h:lU cx Y st (K .normal):=h;unfold lU at h;split at h
   ·refine IC (E:=E) V h λK' hX hw=>wp_region (PW hT hC V (Xb2 Y.size) Y.toList (UQ Y) hX U λH a' w' J F=>?_);obtain⟨s,h1,h2⟩:=hw _ _ _ J F;exact M .normal _ _ _ h1 h2
   exact wp_region (PW hT hC V (Xb2 Y.size) Y.toList (UQ Y) h U λH a' w' J F=>M .normal _ _ _ J F)
  | true=>
   simp only[GF] at h;split at h
   ·refine IC (E:=E) V h λK' hX hw=>hD E rfl tr id Y st a w _ Q V hX U λH a' w' J F=>?_;obtain⟨s,h1,h2⟩:=hw _ _ _ J F;exact M .normal _ _ _ h1 h2
   exact hD E rfl tr id Y st a w _ Q V h U λH a' w' J F=>M .normal _ _ _ J F
 | seq x y a7 a8=>
  intro st a w K Q h U M;simp only[GF] at h;refine wp_seq (a7 h U λe H a' w' J F=>?_);cases e with
  | normal=>exact a8 J F M
  | exit id=>exact M _ _ _ _ J F
  | ret=>exact M _ _ _ _ J F
 | cond c x y a7 a8=>
  intro st a w K Q h U M;simp only[GF] at h;obtain⟨S,φ,a1,a6⟩:=U;split at h
  ·rename_i b hb;have Z:=(a1.av c).1;rw[hb] at Z;have hv:=Z.bool;refine IC (E:=E) V h λK' hX hw=>?_;have ae :∀e H a' w',wi K K' e H->RR E tr H a' w'->Q e.tT a' w':=by
    intro e H a' w' J F;cases e with
    | normal=>obtain⟨s,h1,h2⟩:=hw _ _ _ J F;exact M .normal _ _ _ h1 h2
    | exit id=>exact M _ _ _ _ J F
    | ret=>exact M _ _ _ _ J F
   refine wp_cond hv ?_;cases b with
   | true=>exact a7 hX ⟨S,φ,a1,a6⟩ ae
   | false=>exact a8 hX ⟨S,φ,a1,a6⟩ ae
  exact h.elim
 | block id b ih=>
  intro st a w K Q h U M;simp only[GF] at h;refine IC (E:=E) V h λK' hX hw=>?_;refine wp_block (ih hX U λe H a' w' J F=>?_);cases e with
  | normal=>obtain⟨s,h1,h2⟩:=hw _ _ _ J F;exact M .normal _ _ _ h1 h2
  | ret=>exact M .ret _ _ _ J F
  | exit i=>
   simp only[wS] at J;simp only[AE.tT,Exit.inBlock];by_cases hi:i=id
   ·rw[Xl hi];rw[Bj.2 hi] at J;obtain⟨s,h1,h2⟩:=hw _ _ _ J F;exact M .normal _ _ _ h1 h2
   rw[Xk hi];have:Xa0 i id=false:=by
    cases hb:Xa0 i id with
    | false=>rfl
    | true=>exact absurd (Bj.1 hb) hi
   rw[this] at J;exact M (.exit i) _ _ _ J F
 | loop b ih=>
  intro st a w K Q h U M;have h:sl cx.np (GF cx b) K st:=h;obtain⟨h⟩:=h
  obtain⟨I,⟨s,n,hw,hI⟩,aa⟩:=h (by
   intro t sz es he;obtain⟨S,φ,a1,a6⟩:=U;have Z:=(a1.av (.tmp t)).1;simp only[sJ] at Z;rw[he] at Z;generalize a.eval (.tmp t)=v at Z;cases Z with|d _ _ Z=>
   cases Z with
   | ri=>simp
   | qY _ _ _ _ _ _ hl=>exact hl) (by
   intro r e sz es f he;obtain⟨S,φ,a1,a6⟩:=U;obtain⟨_,_,_,h⟩:=a1.mem.obj r _ he;rcases h with ⟨_,rfl⟩|⟨b,ag,vs,g,_,_,f3,f4,_⟩
   ·simp
   exact Xak f3 f4)
  rw[<- V] at hw;refine wp_loop_ghost (λn a w=>∃s,I s n/\RR E tr s a w) n ⟨s,hI,Md hw rfl U⟩ ?_;rintro n a w ⟨s,hI,U⟩;refine ih (aa s n hI) U λe H a' w' J F=>?_;cases e with
  | normal=>obtain⟨s',m,hm,hw,af⟩:=J;rw[<- V] at hw;exact⟨m,hm,s',af,Md hw rfl F⟩
  | exit id=>exact M _ _ _ _ J F
  | ret=>exact M _ _ _ _ J F
 | exit id=>intro st a w K Q h U M;exact wp_exit (M (.exit id) _ _ _ h U)
 | ret=>intro st a w K Q h U M;exact wp_ret (M .ret _ _ _ h U)
 | rangeFunc=>intro st a w K Q h;simp[GF] at h
 | scope=>intro st a w K Q h;simp[GF] at h
 | label=>intro st a w K Q h;simp[GF] at h
 | goto=>intro st a w K Q h;simp[GF] at h
 | refuse=>intro st a w K Q h;simp[GF] at h
end
end Go.AX
end
