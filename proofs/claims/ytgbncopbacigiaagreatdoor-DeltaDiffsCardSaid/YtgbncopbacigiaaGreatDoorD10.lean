/-
  Texts of one proof, packed.
-/
import Derived.Test.YtgbncopbacigiaaGreatDoorD9
import Derived.Deep.LoopGhost
set_option linter.all false
set_option maxRecDepth 100000
set_option maxHeartbeats 4000000
open List renaming length_map→X10,length_append→X11,mem_singleton→X14,getElem?_eq_getElem→X15,length_drop→X17,length_take→X18,length_replicate→X20,length_set→X21,mem_append→X23
open Option.some renaming injEq→X24,inj→X25
open Prod.mk renaming injEq→X26
open Bool renaming and_eq_true→X27
open Nat renaming le_of_ble_eq_true→X29,eq_of_beq_eq_true→X30,mul_le_mul_right→X31,add_mul→X32
open List renaming range→Xb4
open Go renaming Operand→Xaw,execOp→Xbd,maxLen→Xbl,MapEntry→Xbn,undef→Xc3,Program→Xcz
open Nat renaming beq→Xa6
open Go.Region renaming wanted→Xd2
section
namespace Go.AX
def rP (obl:O (C OB)):Nat->C OB:=λr=>obl.getD r none
structure R (E:Env)(st:r9)(a:Act)(w:World)(S:Sc)(φ:Nat->Option (Nat×Rp)):Prop where
 sz:a.tmps.size=st.tm.length
 tm :∀i (hi:i<st.tm.length),gM S w φ (rP st.ob) st.tm[i] (a.tmps.getD i undef)/\gO (rP st.ob) st.tm[i]
 df:a.defers=[]
 mem:Mem E w S φ (rP st.ob)
structure Trk where
 np:Nat
 φ0:Nat->Option (Nat×Rp)
 yQ:Nat->Option OB
def Trk.ok (tr:Trk)(φ:Nat->C (Nat×Rp))(ob:Nat->C OB):Prop:=∀r,r<tr.np->tr.yQ r≠none->ob r≠none/\sW tr.φ0 tr.yQ φ ob r
def RR (E:Env)(tr:Trk)(st:r9)(a:Act)(w:B):Prop:=∃S φ,R E st a w S φ/\tr.ok φ (rP st.ob)
def Trk.ok.kept {tr:Trk}{w w':B}{S S':Sc}{φ φ':Nat->C (Nat×Rp)}{ob ob':Nat->C OB}(h:tr.ok φ ob)(k:Kept w S φ ob w' S' φ' ob'):tr.ok φ' ob':=
 λr F H=>⟨k.c r (h r F H).1,(h r F H).2.trans (k.r r (h r F H).1)⟩
section
variable {P:Program} {E:Env} {tr:Trk} {w:B} {S:Sc} {φ:Nat->C (Nat×Rp)}
def R.av {st:r9}{a:Act}(h:R E st a w S φ)(x:Xaw):gM S w φ (rP st.ob) (uc st.tm x) (a.eval x)/\gO (rP st.ob) (uc st.tm x):=by
 cases x with
 | tmp t=>
  simp only[uc,Act.eval];by_cases F:t<st.tm.length
  ·have:=h.tm t F;have e:st.tm.getD t .dead=st.tm[t]:=by simp[F]
   rw[e];exact this
  have e:st.tm.getD t .dead=.dead:=by simp[Nat.le_of_not_lt F]
  rw[e];exact⟨.dead _,FB _⟩
 | const v=>
  simp only[uc,Act.eval];split
  ·rename_i K;exact⟨.d _ _ (.val v K),A1 _ _⟩
  exact⟨.dead _,FB _⟩
 | global g=>exact⟨.gl g,λr H=>by simp[uc,AV.refs] at H⟩
 | func f=>exact⟨.fn f [] #[] (λ_=>Xc3) rfl (λi J=>by simp at J) (λi J=>by simp at J),λr H=>by simp[uc,AV.refs,AV.refs.refsL] at H⟩
def uo:O (C OB)->W->O (C OB)
 | ob,[]=>ob
 | ob,(r,o)::w=>uo (ob.set r (some o)) w
def O5 (ob:O (C OB))(wr:W)(K:O (C OB)->Prop):vJ ob wr K↔K (uo ob wr):=by
 induction wr generalizing ob with
 | nil=>rfl
 | cons x wr F=>obtain⟨r,o⟩:=x;simp[vJ,uo,Eb,F]
def YW (ob:O (C OB))(wr:W)(h :∀r o,(r,o)∈wr->r<ob.length):rP (uo ob wr)=Ag (rP ob) wr:=by
 induction wr generalizing ob with
 | nil=>rfl
 | cons x wr F=>obtain⟨r,o⟩:=x;simp only[uo,Ag];rw[F (ob.set r (some o)) λH J K=>by simpa using h H J (by simp[K])];congr 1;exact jC ob r o (h r o (by simp))
def JS (tm:O AV)(dst:C Nat)(v:AV):O AV:=match dst with
 | some d=>tm.set d v
 | none=>tm
def G2 (tm:O AV)(dst:C Nat)(v:AV)(K:O AV->Prop):Kx tm dst v K↔K (JS tm dst v):=by cases dst<;>simp[Kx,JS,Eb]
def KA (tm:O AV)(dst:C Nat)(v:AV):(JS tm dst v).length=tm.length:=by cases dst<;>simp[JS]
def fQ (tm:O AV)(dst:C Nat)(v:AV)(i:Nat)(F:i<tm.length):(JS tm dst v)[i]?=some (if dst=some i then v else tm[i]):=by
 cases dst with
 | none=>simp[JS,F]
 | some d=>
  simp only[JS,List.getElem?_set,X24];by_cases h:d=i
  ·simp[h,F]
  simp[h,F]
def jV (a:Act)(dst:C Nat)(v:A)(i:Nat)(F:i<a.tmps.size):(a.put dst v).tmps.getD i Xc3=if dst=some i then v else a.tmps.getD i Xc3:=by
 cases dst with
 | none=>simp[Act.put]
 | some d=>
  simp only[Act.put,X24];by_cases h:d=i
  ·subst h;simp[F]
  simp[h,Array.getElem?_setIfInBounds_ne]
def R.put {st:r9}{a:Act}(h:R E st a w S φ){w':B}{S':Sc}{φ':Nat->C (Nat×Rp)}{ob':O (C OB)}{dst:C Nat}{out:AV}{v:A}(m:Mem E w' S' φ' (rP ob'))(k:Kept w S φ (rP st.ob) w' S' φ' (rP ob')) (J:gM S' w' φ' (rP ob') out v) (K:gO (rP ob') out):R E ⟨JS st.tm dst out,ob'⟩ (a.put dst v) w' S' φ':=by
 refine⟨?_,λi F=>?_,?_,m⟩
 ·rw[KA,<- h.sz];cases dst<;>simp[Act.put]
 ·simp only[KA] at F;have e1:=fQ st.tm dst out i F;have e2:=jV a dst v i (by rw[h.sz];exact F);have H:i<(JS st.tm dst out).length:=by rw[KA];exact F
  rw[X15 H] at e1;have e1:=X25 e1;simp only[e1,e2];split
  ·exact⟨J,K⟩
  exact⟨k.tZ (h.tm i F).2 (h.tm i F).1,k.closed (h.tm i F).2⟩
 rw[<- h.df];cases dst<;>rfl
def J4 {o:z}{a:Act}{Q:A->B->Prop}{next:Act->B->Prop}{H:Exit->Act->B->Prop}(h:rf P o a.eval w Q)(F :∀v w',Q v w'->next (a.put o.dst v) w'):o.wp P a w next H:=by
 unfold Oper.wp;unfold rf at h;generalize (Xbd a.eval o).run P w=r at *;cases r with
 | ok x w'=>
  cases x<;>simp only[Oper.upon] at h⊢;case value v=>exact F _ _ h
  case skip=>exact F _ _ h
  case enter f args=>refine h.mono ?_;rintro e J ⟨v,rfl,K⟩;exact F _ _ K
  all_goals exact h.elim
 | halt x w'=>exact h.elim
def R.known {st:r9}{a:Act}(h:R E st a w S φ){t:Nat}{b c:I}(H:st.tm.getD t .dead=.b b)(K:b=c):R E ⟨st.tm.set t (.b c),st.ob⟩ a w S φ:=by
 subst K;have J:t<st.tm.length:=by refine Xaz λF=>?_;simp[F] at H
 have e:st.tm.set t (.b b)=st.tm:=by
  have:st.tm[t]=.b b:=by simpa[J] using H
  rw[<- this];exact List.set_getElem_self J
 rw[e];exact h
def Ly {H:Array z}{o:z}{a:Act}{K:r9->Prop}{Q:Exit->Act->B->Prop}{next:Act->B->Prop}{st:r9}{Y:O AV->Prop} (sQ :∀tm:O AV,RR E tr ⟨tm,st.ob⟩ a w->Y tm->o.wp P a w next Q) (h:Iq H o st.tm Y (λtm=>Kx tm o.dst (.sH []) λtm=>K ⟨tm,st.ob⟩)) (J:RR E tr st a w) (hn :∀a7 a' w',K a7->RR E tr a7 a' w'->next a' w') : if Xd2 o (yielded H a.tmps) then o.wp P a w next Q else next (a.put o.dst Xc3) w:=by
 obtain⟨S,φ,J,a8⟩:=J;obtain⟨tm,ob⟩:=st;simp only at h sQ;have sQ :∀{tm:O AV},R E ⟨tm,ob⟩ a w S φ->Y tm->o.wp P a w next Q:=λJ h=>sQ _ ⟨S,φ,J,a8⟩ h
 have no :∀{tm:O AV},R E ⟨tm,ob⟩ a w S φ->Kx tm o.dst (.sH []) (λtm=>K ⟨tm,ob⟩)->next (a.put o.dst Xc3) w:=by intro tm J h;rw[G2] at h;exact hn _ _ _ h ⟨S,φ,J.put J.mem (.refl _ _ _ _) (.sH [] #[] (λ_=>Xc3) rfl (λi hi=>by simp at hi) (λi hi=>by simp at hi)) (λr hr=>by simp[AV.refs,AV.refs.refsL] at hr),a8⟩
 unfold Iq at h;cases hg:o.guard with
 | none=>
  simp only[hg] at h;have hw:Xd2 o (yielded H a.tmps)=true:=by unfold Xd2;rw[hg]
  simp only[hw,Xdl];exact sQ J h
 | some g=>
  obtain⟨j,M⟩:=g;simp only[hg] at h;cases hd:(H[j]?).bind (·.dst) with
  | none=>simp[hd] at h
  | some t=>
   simp only[hd] at h;split at h
   ·rename_i b V;have U:=V;have ht:t<tm.length:=by refine Xaz λa1=>?_;simp[a1] at V
    have F:=(J.tm t ht).1;have e:tm.getD t .dead=tm[t]:=by simp[ht]
    rw[e] at V;simp only at F;rw[V] at F;have Z:=F.bool;have a6:t<a.tmps.size:=by rw[J.sz];exact ht
    have hy:yielded H a.tmps j=some b:=by
     unfold yielded;rw[hd];have:a.tmps[t]?=some (.bool b):=by simp[a6] at Z⊢;exact Z
     simp[this]
    have hw:Xd2 o (yielded H a.tmps)=(b==M):=by unfold Xd2;rw[hg];simp only[hy];cases b<;>cases M<;>rfl
    simp only[hw];cases b<;>cases M<;>simp only[Hv,Eb] at h<;>simp
    ·exact sQ (J.known U rfl) h
    ·exact no (J.known U rfl) h
    ·exact no (J.known U rfl) h
    exact sQ (J.known U rfl) h
   ·rename_i vs V;have ht:t<tm.length:=by refine Xaz λa1=>?_;simp[a1] at V
    have F:=(J.tm t ht).1;have e:tm.getD t .dead=tm[t]:=by simp[ht]
    rw[e] at V;simp only at F;rw[V] at F;have a6:t<a.tmps.size:=by rw[J.sz];exact ht
    have hy:yielded H a.tmps j=none:=by
     unfold yielded;rw[hd];generalize hv:a.tmps.getD t Xc3=v at F;cases F with|sH _ us _ _ _ _=>
     have:a.tmps[t]?=some (.tuple us):=by simp[a6] at hv⊢;exact hv
     simp[this]
    have hw:Xd2 o (yielded H a.tmps)=false:=by unfold Xd2;rw[hg];simp only[hy];rfl
    simp only[hw];simpa using no J h
   exact h.elim
def V4 {J:Array z}{o:z}{F:(Xaw->AV)->O (C OB)->(AV->W->Prop)->Prop} (hF :∀{w:B} {S:Sc} {φ:Nat->C (Nat×Rp)} {obl:O (C OB)} {av:Xaw->AV} {ρ:Xaw->A} {K:AV->W->Prop} (_:Mem E w S φ (λr=>obl.getD r none)) (_ :∀x,gM S w φ (λr=>obl.getD r none) (av x) (ρ x)/\gO (λr=>obl.getD r none) (av x)) (_:F av obl K), ∃out wr,K out wr/\(∀r o,(r,o)∈wr->r<obl.length)/\rf P o ρ w (s6 E w S φ (λr=>obl.getD r none) out wr)) {st:r9} {a:Act} {K:r9->Prop} {Q:Exit->Act->B->Prop} (h:stepG J o F st K) (H:RR E tr st a w) {next:Act->B->Prop} (hn :∀M a' w',K M->RR E tr M a' w'->next a' w') : if Xd2 o (yielded J a.tmps) then o.wp P a w next Q else next (a.put o.dst Xc3) w:=by obtain⟨V,ob⟩:=st;refine Ly (Y:=λtm=>F (uc tm) ob (λv w=>Kx tm o.dst v λtm=>vJ ob w λob=>K ⟨tm,ob⟩)) (λtm H h=>?_) (st:=⟨V,ob⟩) h H hn;simp only at H;obtain⟨S,φ,H,Z⟩:=H;obtain⟨out,wr,hK,hr,U⟩:=hF H.mem (ρ:=a.eval) (λx=>H.av x) h;rw[G2,O5] at hK;refine J4 U λv w' hp=>hn _ _ _ hK ?_;obtain⟨S',φ',m',k',r',c'⟩:=hp;have e:=YW ob wr hr;exact⟨S',φ',H.put (ob':=uo ob wr) (by rw[e];exact m') (by rw[e];exact k') (by rw[e];exact r') (by rw[e];exact c'),by simp only[e];exact Z.kept k'⟩
def Qs {cx:Cx}(V:rc P cx.T)(Y:Oi E.wl P cx){H:Array z}{o:z}{st:r9}{a:Act}{K:r9->Prop}{Q:Exit->Act->B->Prop} (h:LI cx H o st K) (Z:RR E tr st a w) {next:Act->B->Prop} (hn :∀J U w',K J->RR E tr J U w'->next U w') : if Xd2 o (yielded H a.tmps) then o.wp P a w next Q else next (a.put o.dst Xc3) w:=
 V4 (F:=sk cx o) (λm M h=>E9 V Y m M h) (show stepG H o (sk cx o) st K from h) Z hn
def SX (F:Array z):(Xb4 F.size).map (λi=>F[i]?)=F.toList.map some:=by
 apply List.ext_getElem
 ·simp
 intro i H J;simp at H;simp[H]
def Yc (s H:r9) :∀{l F:O AV},vN s H l F->l.length=F.length/\∀i (J:i<l.length) (hi':i<F.length),sJ s H l[i] F[i]
 | [],[],_=>⟨rfl,λi J=>by simp at J⟩
 | a::l,K::F,h=>by
  have key:sJ s H a K/\vN s H l F:=by cases K<;>simp only[vN] at h<;>first|exact⟨.dead a,h⟩|exact h
  obtain⟨M,Q⟩:=Yc s H key.2;refine⟨by simp[M],λi J hi'=>?_⟩;cases i with
  | zero=>exact key.1
  | succ i=>exact Q i (by simpa using J) (by simpa using hi')
 | [],_::_,h=>by simp[vN] at h
 | _::_,[],h=>by simp[vN] at h
def Qw (s J:r9) :∀{l F:O AV},LN s J l F->l.length=F.length/\∀i (H:i<l.length) (hi':i<F.length),F[i].one=true/\sJ s J l[i] F[i]
 | [],[],_=>⟨rfl,λi H=>by simp at H⟩
 | a::l,Q::F,h=>by
  simp only[LN] at h;obtain⟨K,M⟩:=Qw s J h.2;refine⟨by simp[K],λi H hi'=>?_⟩;cases i with
  | zero=>exact h.1
  | succ i=>exact M i (by simpa using H) (by simpa using hi')
 | [],_::_,h=>by simp[LN] at h
 | _::_,[],h=>by simp[LN] at h
def Yj (s J:r9) :∀{l K:O (C OB)},uF s J l K->l.length=K.length/\∀r o',K.getD r none=some o'-> match o' with
   | .box M=>∃U,l.getD r none=some (.box U)/\LN s J U M
   | .row e sz es frz=>(∃f,l.getD r none=some (.row e sz es f)/\yM es f frz)\/(l.getD r none=none/\es=[]/\0<sz)
   | .map k e es=>l.getD r none=some (.map k e es) \/∃H F n,l.getD r none=some (.rK k e es H F n)
   | .rK k e es H F n=>(∃V,l.getD r none=some (.rK k e es H F V)/\V=n)\/((l.getD r none=some (.map k e es) \/∃H F n,l.getD r none=some (.rK k e es H F n))/\(∃tk,BU tk (.val H) es=some none)/\n=0/\s.ob.getD F none=none/\∃Y sz f,J.ob.getD F none=some (.row Y sz [] f))
   | .gone=>l.getD r none=some .gone
 | [],[],_=>⟨rfl,λr o' h=>by simp at h⟩
 | o::l,x::K,h=>by
  have tail:uF s J l K:=by
   cases x with
   | none=>simpa[uF] using h
   | some q=>cases q<;>simp only[uF] at h<;>exact h.2
  obtain⟨Z,h2⟩:=Yj s J tail;refine⟨by simp[Z],λr o' Q=>?_⟩;cases r with
  | zero=>simp at Q;subst Q;cases o'<;>simp only[uF] at h;all_goals simpa using h.1
  | succ r=>simpa using h2 r o' (by simpa using Q)
 | [],_::_,h=>by simp[uF] at h
 | _::_,[],h=>by simp[uF] at h
def sF (i j r:Nat):sw i j (sw i j r)=r:=by
 unfold sw;cases H:Xa6 r i with
 | true=>
  have:=X30 H;simp only;cases F:Xa6 j i with
  | true=>have:=X30 F;simp only;omega
  | false=>simp only[Xd4];omega
 | false=>
  simp only;cases F:Xa6 r j with
  | true=>have:=X30 F;simp only[Xd4];omega
  | false=>simp only[H,F]
def mo {i j r F:Nat}(h:sw i j r=sw i j F):r=F:=by rw[<- sF i j r,h,sF]
def nt {i j np r:Nat}(J:np<=i)(K:np<=j)(M:r<np):sw i j r=r:=by
 unfold sw;have F:Xa6 r i=false:=by
  cases h:Xa6 r i with
  | true=>have:=X30 h;omega
  | false=>rfl
 have H:Xa6 r j=false:=by
  cases h:Xa6 r j with
  | true=>have:=X30 h;omega
  | false=>rfl
 simp[F,H]
def CZ (i j:Nat) :∀l:O AV,AV.sw.vg i j l=l.map (AV.sw i j)
 | []=>rfl
 | a::l=>by simp[AV.sw.vg,CZ i j l]
def cJ (i j:Nat)(a:AV):(a.sw i j).one=a.one:=by cases a<;>rfl
def FZ.sF (i j:Nat)(f:FZ):(f.sw i j).sw i j=f:=by cases f<;>simp[FZ.sw,Go.AX.sF]
def gM.sw {S:Sc}{w:World}{φ:Nat->C (Nat×Rp)}{ob:Nat->C OB}(i j:Nat){a:AV}{v:A}(h:gM S w φ ob a v) : gM S w (λr=>φ (Go.AX.sw i j r)) (λr=>(ob (Go.AX.sw i j r)).map (OB.sw i j)) (a.sw i j) v:=by
 have row :∀{r e sz:Nat} {K:O D} {H:FZ},(ob (Go.AX.sw i j (Go.AX.sw i j r))).map (OB.sw i j)=some (.row e sz K H)->ob r=some (.row e sz K (H.sw i j)):=by
  intro r e sz K H F;rw[Go.AX.sF] at F;cases Y:ob r with
  | none=>rw[Y] at F;simp at F
  | some o=>rw[Y] at F;cases o<;>simp[OB.sw] at F;obtain⟨rfl,rfl,rfl,rfl⟩:=F;rw[FZ.sF]
 have box :∀{r:Nat} {U:O AV},(ob (Go.AX.sw i j (Go.AX.sw i j r))).map (OB.sw i j)=some (.box U)->∃J,ob r=some (.box J):=by
  intro r U F;rw[sF] at F;cases Y:ob r with
  | none=>rw[Y] at F;simp at F
  | some o=>rw[Y] at F;cases o<;>simp[OB.sw] at F;exact⟨_,rfl⟩
 induction h with
 | d x v h=>exact .d x v h
 | agg U vs f Z hf hn _ ih=>
  refine .agg _ vs f (by simp[CZ,Z]) (λk Q=>hf k (by simpa[CZ] using Q)) (λk Q=>?_) λk Q=>?_
  ·simp only[CZ,Xas,cJ];exact hn _ _
  simp only[CZ,Xas];exact ih _ _
 | sH U vs f Z hf _ ih=>refine .sH _ vs f (by simp[CZ,Z]) (λk Q=>hf k (by simpa[CZ] using Q)) λk Q=>?_;simp only[CZ,Xas];exact ih _ _
 | fn f U vs g Z hf _ ih=>refine .fn f _ vs g (by simp[CZ,Z]) (λk Q=>hf k (by simpa[CZ] using Q)) λk Q=>?_;simp only[CZ,Xas];exact ih _ _
 | ref r a1 b c h V=>exact .ref _ a1 b c (by simpa[sF] using h) λe sz K H F=>V e sz K _ (row F)
 | sT U b o f hS hn h=>exact .sT U b o f hS hn h
 | own r n v k c a0 hv Q h V=>
  refine .own _ n v k c a0 hv Q (λe sz K H F=>?_) λU F=>?_
  ·obtain⟨g1,g2⟩:=h e sz K _ (row F);refine⟨g1,λhn=>?_⟩;have:=g2 hn;unfold Hy at *;simpa[sF] using this
  obtain⟨J,M⟩:=box F;simpa[sF] using V J M
 | sh r n a k v h V hp=>
  refine .sh _ n a k v (λe sz K H F=>?_) (λU F=>?_) hp
  ·simpa[sF] using h e sz K _ (row F)
  obtain⟨J,M⟩:=box F;simpa[sF] using V J M
 | mp r b c h V hc=>refine .mp _ b c (by simpa[sF] using h) (λe sz K H F=>V e sz K _ (row F)) λU F=>?_;obtain⟨J,M⟩:=box F;exact hc J M
 | it f r b c B h V hc hS hm=>refine .it f _ b c B (by simpa[sF] using h) (λe sz K H F=>V e sz K _ (row F)) (λU F=>?_) hS hm;obtain⟨J,M⟩:=box F;exact hc J M
 | th r a n m v k c a0 hv Q h=>exact .th _ a n m v k c a0 hv Q λe sz K H F=>by simpa[sF,Hy] using h e sz K _ (row F)
 | gl g=>exact .gl g
 | gv g v hS hv=>exact .gv g v hS hv
 | dead v=>exact .dead v
def Tn (i j:Nat) :∀(a:AV) (r:Nat),r∈(a.sw i j).refs->Go.AX.sw i j r∈a.refs
 | .d x,r,h=>by simp[AV.sw,AV.refs] at h
 | .sT _,r,h=>by simp[AV.sw,AV.refs] at h
 | .dead,r,h=>by simp[AV.sw,AV.refs] at h
 | .gl _,r,h=>by simp[AV.sw,AV.refs] at h
 | .gv _,r,h=>by simp[AV.sw,AV.refs] at h
 | .ref q _,r,h=>by simp only[AV.sw,AV.refs,X14] at h⊢;rw[h,sF]
 | .own q _,r,h=>by simp only[AV.sw,AV.refs,X14] at h⊢;rw[h,sF]
 | .mp q,r,h=>by simp only[AV.sw,AV.refs,X14] at h⊢;rw[h,sF]
 | .it _ q,r,h=>by simp only[AV.sw,AV.refs,X14] at h⊢;rw[h,sF]
 | .sh q _ _ _,r,h=>by simp only[AV.sw,AV.refs,X14] at h⊢;rw[h,sF]
 | .th q _ _ _,r,h=>by simp only[AV.sw,AV.refs,X14] at h⊢;rw[h,sF]
 | .agg F,r,h=>sw_refsL i j F r (by simpa only[AV.sw,AV.refs] using h)
 | .fn _ F,r,h=>sw_refsL i j F r (by simpa only[AV.sw,AV.refs] using h)
 | .sH F,r,h=>sw_refsL i j F r (by simpa only[AV.sw,AV.refs] using h) where
 sw_refsL (i j:Nat) :∀(F:O AV) (r:Nat),r∈AV.refs.refsL (AV.sw.vg i j F)->Go.AX.sw i j r∈AV.refs.refsL F
  | [],r,h=>by simp[AV.sw.vg,AV.refs.refsL] at h
  | a::l,r,h=>by simp only[AV.sw.vg,AV.refs.refsL,X23] at h⊢;exact h.imp (Tn i j a r) (sw_refsL i j l r)
def tc.sw {S:Sc}{w:B}{φ:Nat->C (Nat×Rp)}{ob:Nat->C OB}(i j:Nat){r:Nat}{o:OB}(h:tc S w φ ob (Go.AX.sw i j r) o) : tc S w (λr=>φ (Go.AX.sw i j r)) (λr=>(ob (Go.AX.sw i j r)).map (OB.sw i j)) r (o.sw i j):=by
 cases o with
 | box cs=>
  obtain⟨b,c,vs,e,f,H,J,K,Y,Z,U⟩:=h;refine⟨b,c,vs,e,f,H,J,by simp[CZ,K],Y,λk hk=>Z k (by simpa[CZ] using hk),λk hk=>?_⟩;have M:k<cs.length:=by simpa[CZ] using hk
  simp only[CZ,Xas,cJ];exact⟨(U k M).1,(U k M).2.sw i j⟩
 | row e sz es Q=>
  obtain⟨h0,H,J,K⟩:=h;refine⟨h0,H,J,K.imp id ?_⟩;rintro⟨b,a1,vs,f,f1,f2,f3,f4,f5,f6,f7,f8⟩;refine⟨b,a1,vs,f,f1,f2,f3,f4,f5,f6,f7,λo ho=>f8.1 o (by cases Q<;>exact ho),λi' j' q n V hi hj=>?_⟩;cases Q with
  | no=>simp[FZ.sw] at V
  | sQ=>simp[FZ.sw] at V
  | lk i2 j2 q2 n2=>simp only[FZ.sw,FZ.lk.injEq] at V;obtain⟨rfl,rfl,rfl,rfl⟩:=V;exact (f8.2 _ _ _ _ rfl hi hj).sw i j
 | map k e es=>exact h
 | rK k e es kv r' n=>obtain⟨b,c,arr,F,H,J,K,Y,Z,U⟩:=h;exact⟨b,c,arr,F,H,J,K,Y,Z,U.imp λv hv=>hv.sw i j⟩
 | gone=>trivial
def RA (i j:Nat) :∀l:O (C OB),(NJ i j l).length=l.length
 | []=>rfl
 | none::l=>by simp[NJ,RA i j l]
 | some o::l=>by simp[NJ,RA i j l]
def Ic (i j:Nat) :∀(l:O (C OB)) (r:Nat),(NJ i j l).getD r none=(l.getD r none).map (OB.sw i j)
 | [],r=>by simp[NJ]
 | none::l,0=>by simp[NJ]
 | some o::l,0=>by simp[NJ]
 | none::l,r+1=>by simpa[NJ] using Ic i j l r
 | some o::l,r+1=>by simpa[NJ] using Ic i j l r
def dU {i j:Nat}{s:r9}(Q:i<s.ob.length)(U:j<s.ob.length)(r:Nat):rP (GN i j s).ob r=(rP s.ob (sw i j r)).map (OB.sw i j):=by
 have M:=RA i j s.ob;simp only[rP,GN];rw[Wq,List.getElem?_set];unfold sw;by_cases H:j=r
 ·subst H;rw[Xy rfl,Xy (by simpa[M] using U)];simp only[Xao];cases F:Xa6 j i with
  | true=>have:=X30 F;subst this;rw[Ic]
  | false=>simp only[Xd4,Ic]
 rw[Xj H,List.getElem?_set];have J:Xa6 r j=false:=by
  cases h:Xa6 r j with
  | true=>exact absurd (X30 h).symm H
  | false=>rfl
 by_cases F:i=r
 ·subst F;rw[Xy rfl,Xy (by simpa[M] using Q)];simp only[Xao,Xd4,Ic]
 have K:Xa6 r i=false:=by
  cases h:Xa6 r i with
  | true=>exact absurd (X30 h).symm F
  | false=>rfl
 rw[Xj F];simp only[K,J];rw[<- Wq,Ic]
def X5 {i j:Nat}{s:r9}(hi:tr.np<=i)(hj:tr.np<=j)(a8:i<s.ob.length)(aa:j<s.ob.length){a:Act}(Y:RR E tr s a w):RR E tr (GN i j s) a w:=by
 obtain⟨S,φ,Y,ab⟩:=Y;have Q:rP (GN i j s).ob=λr=>(rP s.ob (sw i j r)).map (OB.sw i j):=funext λr=>dU a8 aa r;have m:=Y.mem;have U :∀{r:Nat},(rP s.ob (sw i j r)).map (OB.sw i j)≠none->rP s.ob (sw i j r)≠none:=λh he=>h (by rw[he];rfl);refine⟨S,λr=>φ (sw i j r),⟨by simp[GN,CZ,Y.sz],λk hk=>?_,Y.df,?_⟩,λr hr h0=>?_⟩
 ·have ae:k<s.tm.length:=by simpa[GN,CZ] using hk
  have e:(GN i j s).tm[k]=(s.tm[k]).sw i j:=by simp[GN,CZ]
  rw[e,Q];obtain⟨Z,h2⟩:=Y.tm k ae;refine⟨Z.sw i j,λr hr=>?_⟩;have:=h2 _ (Tn i j _ r hr);simp only;cases F:rP s.ob (sw i j r) with
  | none=>exact absurd F this
  | some o=>simp
 ·rw[Q];refine⟨λr o F=>?_,λr r' b c c' Z h2 g1 g2=>?_,λr o F r' H=>?_,m.sS,m.kS,m.bS,m.nS,m.fr,m.sz,λr b c h g=>m.ow _ b c (U h) g,m.os⟩
  ·cases J:rP s.ob (sw i j r) with
   | none=>simp only[J] at F;simp at F
   | some o0=>simp only[J,Xbt,X24] at F;subst F;exact (m.obj _ _ J).sw i j
  ·exact mo (m.inj _ _ b c c' (U Z) (U h2) g1 g2)
  cases J:rP s.ob (sw i j r) with
  | none=>simp only[J] at F;simp at F
  | some o0=>
   simp only[J,Xbt,X24] at F;subst F;have:sw i j r'∈o0.refs:=by
    cases o0 with
    | box K=>exact Tn.sw_refsL i j K r' (by simpa[OB.sw,OB.refs] using H)
    | row e2 aj ak f2=>
     cases f2 with
     | no=>simp[OB.sw,OB.refs,FZ.sw] at H
     | sQ=>simp[OB.sw,OB.refs,FZ.sw] at H
     | lk=>simp only[OB.sw,OB.refs,FZ.sw,FZ.tU,X14] at H;simp only[OB.refs,FZ.tU,X14];rw[H,Go.AX.sF]
    | map=>simp[OB.sw,OB.refs] at H
    | rK k e es kv r2 n=>simp only[OB.sw,OB.refs,X14] at H;simp only[OB.refs,X14];rw[H,sF]
    | gone=>simp[OB.sw,OB.refs] at H
   have:=m.tE _ _ J _ this;cases af:rP s.ob (sw i j r') with
   | none=>exact absurd af this
   | some o=>simp
 obtain⟨Z,h2⟩:=ab r hr h0;rw[Q];have e:=nt hi hj hr
 refine⟨by simp only[e];cases F:rP s.ob r with
  | none=>exact absurd F Z
  | some o=>simp,?_⟩
 have hh:tz ((rP s.ob r).map (OB.sw i j))=tz (rP s.ob r):=by
  cases rP s.ob r with
  | none=>rfl
  | some o=>cases o<;>rfl
 have a6 :∀K,(rP s.ob r).map (OB.sw i j)=some (.box K)->∃V,rP s.ob r=some (.box V):=by
  intro K M;cases F:rP s.ob r with
  | none=>rw[F] at M;simp at M
  | some o=>rw[F] at M;cases o<;>simp[OB.sw] at M;exact⟨_,rfl⟩
 rcases h2 with ⟨a1,a2,a3⟩|⟨e',sz,es,ag,ah,a7,a1,a2,a3,a4⟩|⟨a1,a2,a3⟩
 ·exact .inl ⟨by simp only[e];exact a1,by simp only[e];exact hh.trans a2,λ⟨K,M⟩=>a3 (a6 K (by simpa only[e] using M))⟩
 ·exact .inr (.inl ⟨e',sz,es,ag,ah,a7.sw i j,a1,by simp only[e,a2];rfl,a3,λJ=>by simp only[e];exact a4 J⟩)
 refine .inr (.inr ⟨a1,by simp only[e];exact hh.trans a2,λK M=>?_⟩);obtain⟨V,ai⟩:=a6 K (by simpa only[e] using M);exact a3 V ai
def WO {s Z:r9}(h:xv tr.np s Z){a:Act}(hR:RR E tr s a w):RR E tr Z a w:=by
 obtain⟨S,φ,hR,ao⟩:=hR;obtain⟨al,b0,ba,ag⟩:=h;obtain⟨t1,t2⟩:=Yc s Z b0;obtain⟨o1,o2⟩:=Yj s Z ba;have m:=hR.mem;let S':Sc:=λb o=>S b o\/(∃r e sz Q f c,rP s.ob r=some (.row e sz Q f)/\φ r=some (b,c)/\o<c.2+Q.length*sz/\(rP Z.ob r=none\/rP Z.ob r=some (.row e sz Q .sQ))) \/
  ∃r cs c,rP s.ob r=some (.box cs)/\φ r=some (b,c)/\o<cs.length/\rP Z.ob r=none
 let φ':Nat->C (Nat×Rp):=λr=>match rP s.ob r with
  | none=>none
  | some _=>φ r
 have ae :∀{r},rP s.ob r≠none->φ' r=φ r:=by
  intro r hr;simp only[φ'];cases hq:rP s.ob r with
  | none=>exact absurd hq hr
  | some q=>rfl
 have hS:Q9 S w S' w:=λb o h=>⟨.inl h,rfl⟩;have ah :∀{r b c},rP s.ob r≠none->rP Z.ob r≠none->φ r=some (b,c)->∀o,S' b o->S b o \/∃e sz Q f,rP s.ob r=some (.row e sz Q f)/\o<c.2+Q.length*sz/\(rP Z.ob r=none\/rP Z.ob r=some (.row e sz Q .sQ)):=by
  intro r b c Y bb h2 o ho;rcases ho with ho|⟨r',e,sz,Q,f,c',K,g2,g3,g4⟩|⟨r',cs,c',K,g2,g3,g4⟩
  ·exact .inl ho
  ·have:=m.inj r' r b c' c (by rw[K];simp) Y g2 h2;subst this;rw[g2] at h2;simp only[X24,X26,true_and] at h2;subst h2;exact .inr ⟨e,sz,Q,f,K,g3,g4⟩
  have:=m.inj r' r b c' c (by rw[K];simp) Y g2 h2;subst this;exact absurd g4 bb
 have an :∀r∈AV.refs.refsL Z.tm,rP Z.ob r≠none:=by intro r hr;simp only[M8,X27,Wo] at ag;have:=ag.1 r hr;intro h;simp only[rP] at h;rw[h] at this;simp at this
 have ab :∀r o,rP Z.ob r=some o->∀r'∈o.refs,rP Z.ob r'≠none:=by
  intro r o ho r' M;simp only[M8,X27,Wo] at ag;have au:some o∈Z.ob:=by
   have ax:=Dz Z.ob r o ho;have:Z.ob[r]=some o:=by
    have h2:Z.ob.getD r none=Z.ob[r]:=by simp[ax]
    rw[<- h2];exact ho
   rw[<- this];exact Wx ax
  have:=ag.2 (some o) au;simp only[Wo] at this;have:=this r' M;intro h;simp only[rP] at h;rw[h] at this;simp at this
 have aa :∀r,rP s.ob r≠none->rP Z.ob r≠none->sW φ (rP s.ob) φ' (rP Z.ob) r:=by
  intro r Y h2;refine .inl ⟨ae Y,?_,?_⟩
  ·cases hq:rP Z.ob r with
   | none=>exact absurd hq h2
   | some q=>
    have:=o2 r q hq;cases q with
    | box a7=>obtain⟨cs,K,_⟩:=this;have F:rP s.ob r=some (.box cs):=K;rw[F];rfl
    | map k e Q=>
     rcases this with K|⟨kv,r2,n2,K⟩
     ·have F:rP s.ob r=some (.map k e Q):=K;rw[F]
     have F:rP s.ob r=some (.rK k e Q kv r2 n2):=K;rw[F];rfl
    | rK k e Q kv r2 n2=>
     rcases this with ⟨n3,K,_⟩|⟨K|⟨_,_,_,K⟩,_⟩
     ·have F:rP s.ob r=some (.rK k e Q kv r2 n3):=K;rw[F];rfl
     ·have F:rP s.ob r=some (.map k e Q):=K;rw[F];rfl
     have F:rP s.ob r=some (.rK k e Q _ _ _):=K;rw[F];rfl
    | gone=>have F:rP s.ob r=some .gone:=this;rw[F]
    | row e sz Q bc=>
     rcases this with ⟨f,K,_⟩|⟨K,_⟩
     ·have F:rP s.ob r=some (.row e sz Q f):=K;rw[F];rfl
     exact absurd K Y
  rintro⟨a7,hc⟩;obtain⟨cs,K,_⟩:=o2 r _ hc;exact⟨cs,K⟩
 have fr :∀{r e sz:Nat} {f:FZ},s.ob.getD r none=none->Z.ob.getD r none=some (.row e sz [] f)->gM S' w φ' (rP Z.ob) (.own r 0) (.slice none 0 0):=by
  intro r e sz f h h';have ay:rP Z.ob r=some (.row e sz [] f):=h';refine .own r 0 _ 0 0 none rfl rfl (λe' ai aj f' hx=>?_) λcs hx=>?_
  ·rw[ay] at hx;simp only[X24,OB.row.injEq] at hx;obtain⟨rfl,rfl,rfl,rfl⟩:=hx;refine⟨Xa8 _,λ_=>.inl ⟨?_,rfl,_,rfl⟩⟩;have h0:rP s.ob r=none:=h;simp only[φ',h0]
  rw[ay] at hx;simp at hx
 have tZ :∀{x x':AV} {v:A},sJ s Z x x'->gM S w φ (rP s.ob) x v->gO (rP s.ob) x->(∀r∈x'.refs,rP Z.ob r≠none)->gM S' w φ' (rP Z.ob) x' v:=by
  intro x x' v hw;induction hw generalizing v with
  | xH r cs ys sz h h' s7 hl hp ak hn ih=>
   intro V hc U;cases V with|own _ _ _ k c a0 V hk Y hb=>
   have hq:rP s.ob r=some (.box cs):=h;obtain⟨_,b,c',f1,rfl⟩:=hb cs hq;obtain⟨b',c2,vs,e,f,q1,q2,q3,q4,q5,q6⟩:=m.obj r _ hq;rw[q1] at f1;simp only[X24,X26] at f1;obtain⟨rfl,rfl⟩:=f1;subst s7;refine .d _ _ (.su cs.length [.agg ys] b' 0 1 (λ_ j=>f j) (by simp[Xbl]) (Xa8 _) (λi J=>?_) (λi j J hj=>⟨.inr (.inr ⟨r,cs,c2,hq,q1,?_,h'⟩),?_⟩) (λi J j hj=>?_) λi J j hj=>?_)
   ·have:i=0:=by simpa using J
    subst this;simpa[D.cells] using hl
   ·have:i=0:=by simpa using J
    subst this;omega
   ·have:i=0:=by simpa using J
    subst this;rw[BB q2];simpa using q5 j hj
   ·have:i=0:=by simpa using J
    subst this;exact hn j (by simpa[D.cells] using hj)
   have:i=0:=by simpa using J
   subst this;have bd:j<ys.length:=by simpa[D.cells] using hj
   have:=ih j (by omega) bd (q6 j (by omega)).2 (λr' M=>m.tE r _ hq r' (by simpa[OB.refs] using AV.rv cs j (by omega) r' M)) (λr' M=>by simp[AV.refs] at M);cases this with|d _ _ this=>exact this
  | refl=>intro V hc U;exact V.mono hS λr hr=>aa r (hc r hr) (U r hr)
  | dead=>intro V hc U;exact .dead _
  | wA r n n' hn=>intro V hc U;subst hn;exact V.mono hS λr hr=>aa r (hc r hr) (U r hr)
  | th r a n m m' hm=>intro V hc U;subst hm;exact V.mono hS λr hr=>aa r (hc r hr) (U r hr)
  | norm x=>intro V hc U;cases V with|d _ _ V=>exact .d _ _ (V.norm.mono hS)
  | su r n e sz Q f h hn h'=>
   intro V hc U;cases V with|own _ _ _ k c a0 V hk Y hb=>
   have hq:rP s.ob r=some (.row e sz Q f):=h;obtain⟨g0,K,g2,g3⟩:=m.obj r _ hq;rcases (Y e sz Q f hq).2 hn with ⟨a1,a2,_,rfl⟩|⟨b,ap,a1,rfl⟩
   ·have:Q=[]:=Xab (by omega);subst this;exact .d _ _ (.sB sz _ _)
   rcases g3 with ⟨b1,_⟩|⟨b',a6,vs,g,f1,f2,f3,f4,f5,f6,f7,f8⟩
   ·rw[b1] at a1;simp at a1
   rw[f1] at a1;simp only[X24,X26] at a1;obtain⟨rfl,rfl⟩:=a1;rw[hn];refine .d _ _ (.su sz Q b' a6.2 a6.1 g (Xa3 f3 f4) f3 K (λi j J hj=>⟨.inr (.inl ⟨r,e,sz,Q,f,a6,hq,f1,?_,h'⟩),?_⟩) g2 λi J j hj=>(f7 i J j hj).mono hS)
   ·have:(i+1)*sz<=Q.length*sz:=X31 _ J;rw[X32] at this;omega
   rw[BB f2,Xb9];exact f6 i j J hj
  | wC r a n m0 e sz Q zs f h hm hz h'=>
   intro V hc U;cases V with|th _ _ _ _ _ k c a0 V hk Y=>
   have hq:rP s.ob r=some (.row e sz Q f):=h;obtain⟨g0,K,g2,g3⟩:=m.obj r _ hq;obtain⟨a1,a2,_⟩:=(Y e sz Q f hq).2 hm;rcases a2 with a2|⟨b,ap,c',a2,a3,a4⟩
   ·have:zs=[]:=by rw[<- hz,a2];simp
    subst this;rw[V,hk,a2];exact .d _ _ (.sB sz _ _)
   rcases g3 with ⟨b1,_⟩|⟨b',a6,vs,g,f1,f2,f3,f4,f5,f6,f7,f8⟩
   ·rw[b1] at a2;simp at a2
   rw[f1] at a2;simp only[X24,X26] at a2;obtain⟨rfl,rfl⟩:=a2;have az:zs.length=n:=by rw[<- hz];simp;omega
   have af :∀i (J:i<zs.length),zs[i]=Q[a+i]'(by omega):=by intro i J;subst hz;simp
   rw[a3];have key:=rH.su (S:=S') (w:=w) sz zs b' (a6.2+a*sz) c' (λi j=>g (a+i) j) (by omega) (by omega) (λi J=>by rw[af i J];exact K _ _) (λi j J hj=>⟨.inr (.inl ⟨r,e,sz,Q,f,a6,hq,f1,?_,h'⟩),?_⟩) (λi J j hj=>?_) λi J j hj=>?_
   ·rw[az] at key;exact .d _ _ key
   ·have:(a+i+1)*sz<=Q.length*sz:=X31 _ (by omega);rw[X32,X32] at this;omega
   ·rw[BB f2];have e2:a6.2+a*sz+i*sz+j=a6.2+((a+i)*sz+j):=by rw[X32];omega
    rw[e2];exact f6 (a+i) j (by omega) hj
   ·have:=af i J;simp only[this] at hj⊢;exact g2 (a+i) (by omega) j hj
   have:=af i J;simp only[this] at hj⊢;exact (f7 (a+i) (by omega) j hj).mono hS
  | fresh r e sz h h'=>
   intro V hc U;cases V with|d _ _ V=>
   cases V with|nil=>exact fr h h'
  | sH cs a7 hl ak ih=>
   intro V hc U;cases V with|sH _ vs f hs hf hr=>
   exact .sH a7 vs f (by omega) (λi J=>hf i (by omega)) λi J=>ih i (by omega) J (hr i (by omega)) (λr M=>hc r (by simpa[AV.refs] using AV.rv cs i (by omega) r M)) λr M=>U r (by simpa[AV.refs] using AV.rv a7 i J r M)
  | agg cs a7 hl ak hn ih=>
   intro V hc U;cases V with|agg _ vs f hs hf _ hr=>
   exact .agg a7 vs f (by omega) (λi J=>hf i (by omega)) hn λi J=>ih i (by omega) J (hr i (by omega)) (λr M=>hc r (by simpa[AV.refs] using AV.rv cs i (by omega) r M)) λr M=>U r (by simpa[AV.refs] using AV.rv a7 i J r M)
  | xz cs ys hl ak hn ih=>
   intro V hc U;cases V with|agg _ vs f hs hf _ hr=>
   refine .d _ _ (.agg ys vs f (by omega) (λi J=>hf i (by omega)) hn λi J=>?_);have:=ih i (by omega) J (hr i (by omega)) (λr M=>hc r (by simpa[AV.refs] using AV.rv cs i (by omega) r M)) (λr M=>by simp[AV.refs] at M);cases this with|d _ _ this=>exact this
  | xE ds a7 hl ak hn ih=>
   intro V hc U;cases V with|d _ _ V=>
   cases V with|agg _ vs f hs hf _ hr=>
   exact .agg a7 vs f (by omega) (λi J=>hf i (by omega)) hn λi J=>ih i (by omega) J (.d _ _ (hr i (by omega))) (λr M=>by simp[AV.refs] at M) λr M=>U r (by simpa[AV.refs] using AV.rv a7 i J r M)
 refine⟨S',φ',⟨by rw[hR.sz,t1],λi J=>?_,hR.df,⟨?_,?_,ab,λb o h=>.inl (m.sS b o h),m.kS,?_,?_,m.fr,m.sz,?_,m.os⟩⟩,λr hr h0=>?_⟩
 ·have aq:i<s.tm.length:=by omega
  refine⟨tZ (t2 i aq J) (hR.tm i aq).1 (hR.tm i aq).2 λr hr=>an r (AV.rv Z.tm i J r hr),λr hr=>an r (AV.rv Z.tm i J r hr)⟩
 ·intro r o' a8;have hw:=o2 r o' a8;cases o' with
  | gone=>trivial
  | box a7=>
   obtain⟨cs,K,g2⟩:=hw;have F:rP s.ob r=some (.box cs):=K;obtain⟨c1,c2⟩:=Qw s Z g2;obtain⟨b,c,vs,e,f,Y,h2,h3,h4,h5,h6⟩:=m.obj r _ F;refine⟨b,c,vs,e,f,(ae (by rw[F];simp)).trans Y,h2,by omega,λo ho=>?_,λj hj=>h5 j (by omega),λj hj=>⟨(c2 j (by omega) hj).1,?_⟩⟩
   ·rcases ah (r:=r) (by rw[F];simp) (by rw[a8];simp) Y o ho with h|⟨e',ai,aj,f',q,_⟩
    ·exact h4 o h
    rw[F] at q;simp at q
   exact tZ (c2 j (by omega) hj).2 (h6 j (by omega)).2 (λr' M=>m.tE r _ F r' (by simpa[OB.refs] using AV.rv cs j (by omega) r' M)) λr' M=>ab r _ a8 r' (by simpa[OB.refs] using AV.rv a7 j hj r' M)
  | map k e Q=>
   obtain⟨o0,F,ar,b,c,arr,H,Y,h2,h3,h4,h5⟩ :∃o0,rP s.ob r=some o0/\tz (some o0)=none/\∃b c arr H,φ r=some (b,c)/\w.heap[b]?=some (.map arr H)/\(arr.size=Q.length/\sC arr H)/\(∀o,¬ S b o)/\
     ∀i (J:i<Q.length),∃x:Xbn,arr[i]?=some x/\(∃u,Q[i].1=.val u/\x.key=u/\u.oneCell'=true)/\rH S w Q[i].2 x.val:=by
    rcases hw with K|⟨kv,r2,n2,K⟩
    ·exact⟨_,K,rfl,m.obj r _ K⟩
    obtain⟨b,c,arr,H,Y,h2,h3,h4,h5,_⟩:=m.obj r _ K;exact⟨_,K,rfl,b,c,arr,H,Y,h2,h3,h4,h5⟩
   refine⟨b,c,arr,H,(ae (by rw[F];simp)).trans Y,h2,h3,λo ho=>?_,λi J=>?_⟩
   ·rcases ah (r:=r) (by rw[F];simp) (by rw[a8];simp) Y o ho with h|⟨e',ai,aj,f',q,_⟩
    ·exact h4 o h
    rw[F] at q;obtain rfl:=X25 q;simp[tz] at ar
   obtain⟨x,q1,q2,q3⟩:=h5 i J;exact⟨x,q1,q2,q3.mono hS⟩
  | rK k e Q kv r2 n2=>
   obtain⟨o0,F,ar,b,c,arr,H,Y,h2,h3,h4,h5,h6⟩ :∃o0,rP s.ob r=some o0/\tz (some o0)=none/\∃b c arr H,φ r=some (b,c)/\w.heap[b]?=some (.map arr H)/\(arr.size=Q.length/\sC arr H)/\(∀o,¬ S b o)/\
     (∀i (J:i<Q.length),∃x:Xbn,arr[i]?=some x/\(∃u,Q[i].1=.val u/\x.key=u/\u.oneCell'=true)/\rH S w Q[i].2 x.val)/\sY kv (gM S' w φ' (rP Z.ob) (.own r2 n2)) arr.toList:=by
    rcases hw with ⟨n3,K,rfl⟩|⟨K|⟨be,r0,n0,K⟩,⟨tk,g2⟩,rfl,g3,e',sz,f,g4⟩
    ·obtain⟨b,c,arr,H,Y,h2,h3,h4,h5,h6⟩:=m.obj r _ K;refine⟨_,K,rfl,b,c,arr,H,Y,h2,h3,h4,h5,h6.imp λv V=>V.mono hS λq hq=>?_⟩;simp only[AV.refs,X14] at hq;subst hq;exact aa q (m.tE r _ K q (by simp[OB.refs])) (ab r _ a8 q (by simp[OB.refs]))
    ·obtain⟨b,c,arr,H,Y,h2,h3,h4,h5⟩:=m.obj r _ K;exact⟨_,K,rfl,b,c,arr,H,Y,h2,h3,h4,h5,Is (It _ _) Q arr.toList ⟨by simpa using h3.1,λi J=>by simpa using h5 i J⟩ g2 (fr g3 g4)⟩
    obtain⟨b,c,arr,H,Y,h2,h3,h4,h5,_⟩:=m.obj r _ K;exact⟨_,K,rfl,b,c,arr,H,Y,h2,h3,h4,h5,Is (It _ _) Q arr.toList ⟨by simpa using h3.1,λi J=>by simpa using h5 i J⟩ g2 (fr g3 g4)⟩
   refine⟨b,c,arr,H,(ae (by rw[F];simp)).trans Y,h2,h3,λo ho=>?_,λi J=>?_,h6⟩
   ·rcases ah (r:=r) (by rw[F];simp) (by rw[a8];simp) Y o ho with h|⟨e',ai,aj,f',q,_⟩
    ·exact h4 o h
    rw[F] at q;obtain rfl:=X25 q;simp[tz] at ar
   obtain⟨x,q1,q2,q3⟩:=h5 i J;exact⟨x,q1,q2,q3.mono hS⟩
  | row e sz Q bc=>
   rcases hw with ⟨f,K,g2⟩|⟨K,rfl,g2⟩
   ·have F:rP s.ob r=some (.row e sz Q f):=K;obtain⟨h0,Y,h2,h3⟩:=m.obj r _ F;refine⟨h0,Y,h2,h3.imp (λq=>⟨(ae (by rw[F];simp)).trans q.1,q.2⟩) ?_⟩;rintro⟨b,ap,vs,g,f1,f2,f3,f4,f5,f6,f7,f8⟩;refine⟨b,ap,vs,g,(ae (by rw[F];simp)).trans f1,f2,f3,f4,f5,f6,λi J j hj=>(f7 i J j hj).mono hS,λo ho hs=>?_,λi j q n hq J hj=>?_⟩;rotate_left
    ·have h5:=g2.2;rw[hq] at h5;rcases h5 with h5|⟨i',n',h5,rfl,rfl⟩
     ·omega
     refine (f8.2 i' j q n' h5 J hj).mono hS λr' M=>?_;simp only[AV.refs,X14] at M;subst M;exact aa r' (m.tE r _ F r' (by simp[OB.refs,h5])) (ab r _ a8 r' (by simp[OB.refs,hq]))
    rcases ah (r:=r) (by rw[F];simp) (by rw[a8];simp) f1 o hs with h|⟨e',ai,aj,f',q,q2,q3⟩
    ·refine f8.1 o ?_ h;cases f with
     | no=>simp
     | lk=>simp
     | sQ=>rw[g2.1 rfl] at ho;exact ho
    rw[F] at q;simp only[X24,OB.row.injEq] at q;obtain⟨rfl,rfl,rfl,rfl⟩:=q;rcases q3 with q3|q3
    ·rw[a8] at q3;simp at q3
    rw[a8] at q3;simp only[X24,OB.row.injEq] at q3;rw[q3.2.2.2] at ho;simp only[FZ.tG,Xdl] at ho;omega
   refine⟨g2,λi J=>by simp at J,λi J=>by simp at J,.inl ⟨?_,rfl⟩⟩;have F:rP s.ob r=none:=K;simp only[φ',F]
 ·intro r1 r2 b c c' Y h2 K g2;have q :∀{r:Nat} {x:Nat×Rp},φ' r=some x->rP s.ob r≠none/\φ r=some x:=by
   intro r x h;simp only[φ'] at h;cases hq:rP s.ob r with
   | none=>simp[hq] at h
   | some q=>simp only[hq] at h;exact⟨by simp,h⟩
  obtain⟨a1,a2⟩:=q K;obtain⟨b1,b2⟩:=q g2;exact m.inj r1 r2 b c c' a1 b1 a2 b2
 ·intro b o h;rcases h with h|⟨r,e,sz,Q,f,c,K,g2,_⟩|⟨r,cs,c,K,g2,_⟩
  ·exact m.bS b o h
  ·exact (m.ow r b c (by rw[K];simp) g2).1
  exact (m.ow r b c (by rw[K];simp) g2).1
 ·intro b o h Y h2;rcases h with h|⟨r,e,sz,Q,f,c,K,g2,_⟩|⟨r,cs,c,K,g2,_⟩
  ·exact m.nS b o h Y h2
  ·rcases (m.ow r b c (by rw[K];simp) g2).2 with g|g
   ·omega
   exact absurd g h2
  rcases (m.ow r b c (by rw[K];simp) g2).2 with g|g
  ·omega
  exact absurd g h2
 ·intro r b c h g;simp only[φ'] at g;cases hq:rP s.ob r with
  | none=>simp[hq] at g
  | some q=>simp only[hq] at g;exact m.ow r b c (by rw[hq];simp) g
 have Y:rP Z.ob r≠none:=by
  simp only[Wo,Xc4] at al;have:=al r hr;intro h;simp only[rP] at h;rw[h] at this;have hq:=(ao r hr h0).1;simp only[rP] at hq;cases hz:s.ob.getD r none with
  | none=>exact hq hz
  | some z=>rw[hz] at this;simp at this
 exact⟨Y,(ao r hr h0).2.trans (aa r (ao r hr h0).1 Y)⟩
def LL {np:Nat}{s J:r9}(h:s5 np s J)(F:np=tr.np){a:Act}(K:RR E tr s a w):RR E tr J a w:=by
 induction h with
 | mk M Q U V=>exact WO ⟨F▸M,Q,U,V⟩ K
 | swap i j Y Z H _ ih=>simp only[X27] at H;exact ih (X5 (F▸X29 Y) (F▸X29 Z) (X29 H.1) (X29 H.2) K)
def AE.vA:AE->Exit
 | .normal=>.normal
 | .exit id=>.exit id
 | .ret=>.ret
def UT (wl:WL)(P:Xcz)(cx:Cx):Prop:=∀(E:Env),E.wl=wl->∀(tr:Trk) (id:Nat) (F:Array z) (st:r9) (a:Act) (w:B) (K:r9->Prop) (Q:Exit->Act->B->Prop),tr.np=cx.np->
 (cV cx F st K\/Xm cx F st K)->RR E tr st a w->(∀H J w',K H->RR E tr H J w'->Q .normal J w')->(Code.region id F true).wp P Q a w
def Hn {np:Nat}(M:tr.np=np){X:(r9->Prop)->Prop}{K:r9->Prop}{c:Prop}(h:tL np X K) (U :∀V:r9->Prop,X V->(∀(F:r9) (H:Act) (w':B),V F->RR E tr F H w'->∃st,K st/\RR E tr st H w')->c):c:=by
 rcases h with h|⟨J,Y,Z⟩
 ·exact U K h λst H w' hK Q=>⟨st,hK,Q⟩
 refine U _ Y λst H w' ⟨s,hw,hJ⟩ Q=>⟨s,Z s hJ,?_⟩;rw[<- M] at hw;exact LL hw rfl Q
def OL {cx:Cx}(hT:rc P cx.T)(hC:Oi E.wl P cx)(a6:tr.np=cx.np){M:Array z}{o:z}{st:r9}{a:Act}{K:r9->Prop}{Q:Exit->Act->B->Prop} (h:YQ cx M o st K) (F:RR E tr st a w) {next:Act->B->Prop} (hn :∀U a' w',K U->RR E tr U a' w'->next a' w') : if Xd2 o (yielded M a.tmps) then o.wp P a w next Q else next (a.put o.dst Xc3) w:=by
 have plain :∀{tm:O AV} {ob:O (C OB)},RR E tr ⟨tm,ob⟩ a w->x9 cx o (uc tm) ob (λv w=>Kx tm o.dst v λtm=>vJ ob w λob=>K ⟨tm,ob⟩)->o.wp P a w next Q:=by intro tm ob ⟨S,φ,F,J⟩ h;obtain⟨out,wr,V,hr,Z⟩:=Zs hT hC F.mem (ρ:=a.eval) (λx=>F.av x) h;rw[G2,O5] at V;refine J4 Z λv w' hp=>hn _ _ _ V ?_;obtain⟨S',φ',m',k',r',c'⟩:=hp;have e:=YW ob wr hr;exact⟨S',φ',F.put (ob':=uo ob wr) (by rw[e];exact m') (by rw[e];exact k') (by rw[e];exact r') (by rw[e];exact c'),by simp only[e];exact J.kept k'⟩
 obtain⟨a7,ob⟩:=st;refine Ly (Y:=λtm=>mr cx o tm ob K) (λtm F h=>?_) (st:=⟨a7,ob⟩) h F hn;simp only at F;unfold mr at h;split at h
 ·rename_i c a8;split at h
  ·rename_i x a1;obtain⟨f,aa,h,hf⟩:=UX h;split at h
   ·obtain⟨callee,args,argTypes⟩:=c;simp only at a1;subst a1;refine Hn (E:=E) a6 h λK' hX hw=>?_;obtain⟨S,φ,F,J⟩:=F;have hg:=hC.2.2 _ _ _ _ hX;refine J4 (U6 (w:=w) (S:=S) (φ:=φ) (obl:=ob) (cx:=cx) (λx=>F.av x) a8 hf (Q:=λv w'=>∃S' φ' r ob',Kx tm o.dst r (λtm=>K' ⟨tm,ob'⟩)/\Mem E w' S' φ' (λr=>ob'.getD r none)/\Kept w S φ (λr=>ob.getD r none) w' S' φ' (λr=>ob'.getD r none)/\ gM S' w' φ' (λr=>ob'.getD r none) r v/\gO (λr=>ob'.getD r none) r) λH hv=>hg.elim (λ⟨g1,g2⟩=>.inl ⟨g1,g2 E rfl w S φ H hv F.mem⟩) λg=>.inr (g E rfl w S φ H hv F.mem)) λv w' ⟨S',φ',r,ob',V,m',k',r',c'⟩=>?_;rw[G2] at V;obtain⟨st,h1,h2⟩:=hw _ _ _ V ⟨S',φ',F.put (ob':=ob') m' k' r' c',J.kept k'⟩;exact hn _ _ _ h1 h2
   exact plain F h
  exact plain F h
 exact plain F h
def OI {cx:Cx}(hT:rc P cx.T)(hC:Oi E.wl P cx)(M:tr.np=cx.np){F:Array z}{Q:Exit->Act->B->Prop} :∀(l:O Nat) (os:O z) (_:l.map (λi=>F[i]?)=os.map some) {st:r9} {a:Act} {w:B} {K:r9->Prop} (_:dM cx F os st K) (_:RR E tr st a w) (_ :∀J U w',K J->RR E tr J U w'->Q .normal U w'),wpOps P F Q l a w
 | [],[],_,st,a,w,K,h,V,Y=>Y st a w h V
 | i::l,o::os,H,st,a,w,K,h,V,Y=>by
  simp only[Xam,Xd7] at H;obtain⟨hi,H⟩:=H;rw[wpOps_cons];unfold wpOp;simp only[hi];simp only[dM] at h;have:=OL (Q:=Q) hT hC M h V (next:=wpOps P F Q l) λJ U w' hK Z=>OI hT hC M l os H hK Z Y;split
  ·rename_i hw;rw[Xy hw] at this;exact .inl this
  rename_i hw;rw[Xj hw] at this;exact this
 | [],_::_,H,_,_,_,_,_,_,_=>by simp at H
 | _::_,[],H,_,_,_,_,_,_,_=>by simp at H
def OR {cx:Cx}(hT:rc P cx.T)(hC:Oi E.wl P cx)(hD:UT E.wl P cx)(V:tr.np=cx.np)(c:Code) : ∀{st:r9} {a:Act} {w:B} {K:AE->r9->Prop} {Q:Exit->Act->B->Prop},F9 cx c K st->RR E tr st a w->(∀e H a' w',K e H->RR E tr H a' w'->Q e.vA a' w')->c.wp P Q a w:=by
 induction c with
 | skip=>intro st a w K Q h U M;exact wp_skip (M .normal _ _ _ h U)
 | region id Y ab=>
  intro st a w K Q h U M;cases ab with
  | false=>
   have h:lu cx Y st (K .normal):=h;unfold lu at h;split at h
   ·refine Hn (E:=E) V h λK' hX hw=>wp_region (OI hT hC V (Xb4 Y.size) Y.toList (SX Y) hX U λH a' w' J F=>?_);obtain⟨s,h1,h2⟩:=hw _ _ _ J F;exact M .normal _ _ _ h1 h2
   exact wp_region (OI hT hC V (Xb4 Y.size) Y.toList (SX Y) h U λH a' w' J F=>M .normal _ _ _ J F)
  | true=>
   simp only[F9] at h;split at h
   ·refine Hn (E:=E) V h λK' hX hw=>hD E rfl tr id Y st a w _ Q V hX U λH a' w' J F=>?_;obtain⟨s,h1,h2⟩:=hw _ _ _ J F;exact M .normal _ _ _ h1 h2
   exact hD E rfl tr id Y st a w _ Q V h U λH a' w' J F=>M .normal _ _ _ J F
 | seq x y a7 a8=>
  intro st a w K Q h U M;simp only[F9] at h;refine wp_seq (a7 h U λe H a' w' J F=>?_);cases e with
  | normal=>exact a8 J F M
  | exit id=>exact M _ _ _ _ J F
  | ret=>exact M _ _ _ _ J F
 | cond c x y a7 a8=>
  intro st a w K Q h U M;simp only[F9] at h;obtain⟨S,φ,a1,a6⟩:=U;split at h
  ·rename_i b hb;have Z:=(a1.av c).1;rw[hb] at Z;have hv:=Z.bool;refine Hn (E:=E) V h λK' hX hw=>?_;have ae :∀e H a' w',xY K K' e H->RR E tr H a' w'->Q e.vA a' w':=by
    intro e H a' w' J F;cases e with
    | normal=>obtain⟨s,h1,h2⟩:=hw _ _ _ J F;exact M .normal _ _ _ h1 h2
    | exit id=>exact M _ _ _ _ J F
    | ret=>exact M _ _ _ _ J F
   refine wp_cond hv ?_;cases b with
   | true=>exact a7 hX ⟨S,φ,a1,a6⟩ ae
   | false=>exact a8 hX ⟨S,φ,a1,a6⟩ ae
  exact h.elim
 | block id b ih=>
  intro st a w K Q h U M;simp only[F9] at h;refine Hn (E:=E) V h λK' hX hw=>?_;refine wp_block (ih hX U λe H a' w' J F=>?_);cases e with
  | normal=>obtain⟨s,h1,h2⟩:=hw _ _ _ J F;exact M .normal _ _ _ h1 h2
  | ret=>exact M .ret _ _ _ J F
  | exit i=>
   simp only[yN] at J;simp only[AE.vA,Exit.inBlock];by_cases hi:i=id
   ·rw[Xy hi];rw[Bd.2 hi] at J;obtain⟨s,h1,h2⟩:=hw _ _ _ J F;exact M .normal _ _ _ h1 h2
   rw[Xj hi];have:Xa6 i id=false:=by
    cases hb:Xa6 i id with
    | false=>rfl
    | true=>exact absurd (Bd.1 hb) hi
   rw[this] at J;exact M (.exit i) _ _ _ J F
 | loop b ih=>
  intro st a w K Q h U M;have h:tP cx.np (F9 cx b) K st:=h;obtain⟨h⟩:=h
  obtain⟨I,⟨s,n,hw,hI⟩,aa⟩:=h (by
   intro t sz es he;obtain⟨S,φ,a1,a6⟩:=U;have Z:=(a1.av (.tmp t)).1;simp only[uc] at Z;rw[he] at Z;generalize a.eval (.tmp t)=v at Z;cases Z with|d _ _ Z=>
   cases Z with
   | sB=>simp
   | su _ _ _ _ _ _ hl=>exact hl) (by
   intro r e sz es f he;obtain⟨S,φ,a1,a6⟩:=U;obtain⟨_,_,_,h⟩:=a1.mem.obj r _ he;rcases h with ⟨_,rfl⟩|⟨b,ag,vs,g,_,_,f3,f4,_⟩
   ·simp
   exact Xa3 f3 f4)
  rw[<- V] at hw;refine wp_loop_ghost (λn a w=>∃s,I s n/\RR E tr s a w) n ⟨s,hI,LL hw rfl U⟩ ?_;rintro n a w ⟨s,hI,U⟩;refine ih (aa s n hI) U λe H a' w' J F=>?_;cases e with
  | normal=>obtain⟨s',m,hm,hw,af⟩:=J;rw[<- V] at hw;exact⟨m,hm,s',af,LL hw rfl F⟩
  | exit id=>exact M _ _ _ _ J F
  | ret=>exact M _ _ _ _ J F
 | exit id=>intro st a w K Q h U M;exact wp_exit (M (.exit id) _ _ _ h U)
 | ret=>intro st a w K Q h U M;exact wp_ret (M .ret _ _ _ h U)
 | rangeFunc=>intro st a w K Q h;simp[F9] at h
 | scope=>intro st a w K Q h;simp[F9] at h
 | label=>intro st a w K Q h;simp[F9] at h
 | goto=>intro st a w K Q h;simp[F9] at h
 | refuse=>intro st a w K Q h;simp[F9] at h
end
end Go.AX
end
